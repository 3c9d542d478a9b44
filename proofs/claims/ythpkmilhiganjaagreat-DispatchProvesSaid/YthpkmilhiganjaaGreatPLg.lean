/- Lemmas. -/
import Derived.Test.YthpkmilhiganjaaGreatPLf
import Derived.Test.YthpkmilhiganjaaGreatPLd
set_option linter.unusedSimpArgs false
set_option linter.unusedVariables false
set_option linter.unusedSectionVars false
set_option maxHeartbeats 32000000
set_option maxRecDepth 100000
namespace Go.Fi
open Go Go.RowKit
variable[ah]
variable{fk:Fk}
def ck:Nat→List AV→Env
 |_,[]=>[]
 |i,v::r=>(i,v)::ck (i+1) r
section
omit [ah]
@[simp] theorem SP(i:Nat):ck i []=[]:=rfl
@[simp] theorem SQ(i:Nat)(v:AV)(r:List AV):ck i (v::r)=(i,v)::ck (i+1) r:=rfl
theorem uV:∀(l:List AV)(i t:Nat),get (ck i l) t=if i≤t∧t<i+l.length then l.getD (t-i) (.w false false .undef) else .w false false .undef
 |[],i,t=>by simp[ck,get]
 |p::r,i,t=>by
  simp only[ck,get];by_cases h:i=t
  ·subst h;simp
  ·simp only[h,if_false];rw[uV r (i+1) t];simp only[List.length_cons];by_cases h2:i+1≤t∧t<i+1+r.length
   ·rw[if_pos h2,if_pos (by omega)]
    have:t-i=(t-(i+1))+1:=by omega
    rw[this];simp
   ·rw[if_neg h2,if_neg (by omega)]
end
def cH(P:Program)(rs:List ResultVar)(st:St)(K:AV→ab→Nat→Prop):Prop:=
 match eI P st.env st.heap rs with
 |some (vs,c)=>c∧K (oneOf vs) st.heap st.nxt
 |none=>False
def dI(P:Program)(rs:List ResultVar)(K:AV→ab→Nat→Prop):Exit→St→Prop
 |.normal,s=>cH P rs s K
 |.ret,s=>cH P rs s K
 |_,_=>False
omit [ah] in
@[simp ↓] theorem SR(P:Program)(rs:List ResultVar)(K:AV→ab→Nat→Prop)(s:St):dI P rs K .normal s=cH P rs s K:=rfl
omit [ah] in
@[simp ↓] theorem SS(P:Program)(rs:List ResultVar)(K:AV→ab→Nat→Prop)(s:St):dI P rs K .ret s=cH P rs s K:=rfl
section
variable{P:Program}{B:Base}{m:Mm}{w:World}{h:ab}{n:Nat}{env:Env}{a:Act}{L:Nat→Prop}
section
omit [ah]
theorem qv{n:Nat}:∀{cs:List AV},(∀(j:Nat)(x:AV),cs[j]?=some x→x.lt n=true)→AV.lt.ltL n cs=true
 |[],_=>rfl
 |x::r,h=>by
  simp only[AV.lt.ltL,Bool.and_eq_true];exact⟨h 0 x rfl,qv fun j y hy=>h (j+1) y (by simpa using hy)⟩
theorem ae.wz{x:AV}{v:Value}(h:ae B L m w x v)(hd:∀i,m.dom i→i<n):x.lt n=true:=by
 induction h with
 |w _ _=>rfl
 |ptr hd' _ _ _=>simpa[AV.lt] using hd _ hd'
 |mp hd' _ _=>simpa[AV.lt] using hd _ hd'
 |msl hd' _ _ _ _=>simpa[AV.lt] using hd _ hd'
 |@agg cs vs hl _ ih=>
  simp only[AV.lt]
  refine qv fun j y hy=>?_
  have hj:j<vs.size:=by have:=(List.getElem?_eq_some_iff.1 hy).1;omega
  exact ih j y _ hy (Array.getElem?_eq_getElem hj)
 |@tup cs vs hl _ ih=>
  simp only[AV.lt]
  refine qv fun j y hy=>?_
  have hj:j<vs.size:=by have:=(List.getElem?_eq_some_iff.1 hy).1;omega
  exact ih j y _ hy (Array.getElem?_eq_getElem hj)
 |@fn f cs vs hl _ ih=>
  simp only[AV.lt]
  refine qv fun j y hy=>?_
  have hj:j<vs.size:=by have:=(List.getElem?_eq_some_iff.1 hy).1;omega
  exact ih j y _ hy (Array.getElem?_eq_getElem hj)
theorem nC:∀(env:Env)(t:Nat),(∃v,(t,v)∈env)∨get env t=.w false false .undef
 |[],_=>.inr rfl
 |(k,v)::r,t=>by
  simp only[get];by_cases h:k=t
  ·subst h;exact .inl ⟨v,by simp⟩
  ·rcases nC r t with ⟨u,hu⟩|hu
   ·exact .inl ⟨u,List.mem_cons_of_mem _ hu⟩
   ·rw[if_neg h];exact .inr hu
end
def rn(P:Program)(B:Base){fk:Fk}(w0:Ctx fk)(env:Env)(a:Act)(n nt:Nat)(o:Oper)(fn:Func)(K':Act→World→Prop)(e:Exit)(a':Act)(w':World):Prop:=
 (e=.normal∨e=.ret)∧∃(fk' fk2:Fk)(w1:Ctx fk')(w2:Ctx fk2)(st':St)(m':Mm)(KV:AV→ab→Nat→Prop),fk'.k=n∧fk2.k=fk.k∧w1.w=w0.w∧w1.F=w0.F++(env.map fun p=>(get env p.1,a.tmps.getD p.1 undef))∧w1.ds=[] ∧
  w2.w=w0.w∧w2.F=w0.F∧w2.ds=w0.ds∧(∀q∈w2.obs,q∈w1.obs)∧Sim B w1 st' a' w' m'∧cH P fn.results.toList st' KV∧∀v h' n' a' w' m',KV v h' n'→Sim B w2 ⟨put env o.dst v,h',n',nt⟩ a' w' m'→K' a' w'
theorem Ac{w0:Ctx fk}{nt:Nat}(o:Oper)(f:Operand)(args:Array Operand)(tys:Array TypeId)(ho:o.op=.call { callee:=.value f,args:=args,argTypes:=tys }){g:FuncId}{av:List AV}(hf:cd (ev env f)=some (g,av)){fn:Func}{c:Code}(hfn:P.funcs[g]?=some fn) (hname:(fn.name == "runtime.NumGoroutine")=false) (hb:fn.body=some c) (hnt:(args.toList.map (ev env)++av).length≤fn.ntmps) (r:Option RI) (hrr:∀ri,r=some ri→fk.ri=some ri) (Q:Exit→Act→World→Prop) (K':Act→World→Prop) (hw:∀(w1:Ctx ⟨n,r⟩)(a1:Act),w1.w=w0.w→w1.F=w0.F++(env.map fun p=>(get env p.1,a.tmps.getD p.1 undef))→w1.r=none→w1.obs=w0.obs→w1.ds=[]→Sim B w1 ⟨ck 0 (args.toList.map (ev env)++av),h,n,fn.ntmps⟩ a1 w m→c.wpT none P (rn P B w0 env a n nt o fn K') a1 w) (hs:Sim B w0 ⟨env,h,n,nt⟩ a w m) (hdk:dOk nt o.dst):o.wpt P a w K' Q:=by
 have hxa:∀x:Operand,ae B (LB m h) m w (ev env x) (a.eval x):=fun x=>gA x (fun t _=>hs.env t)
 have hxf:=hxa f
 have hfv:∃cv:Array Value,a.eval f=.func (.func g) #[] cv∧av.length=cv.size∧∀(j:Nat)(p:AV)(v:Value),av[j]?=some p→cv[j]?=some v→ae B (LB m h) m w p v:=by
  unfold cd at hf;split at hf
  ·rename_i g' caps' e
   injection hf with hf;injection hf with h1 h2;subst h1;subst h2
   rw[e] at hxf;generalize hv:a.eval f=vf at hxf
   cases hxf with|fn h1 h2=>exact⟨_,rfl,h1,h2⟩
  ·rename_i own f' g' caps' e
   injection hf with hf;injection hf with h1 h2;subst h1;subst h2
   rw[e] at hxf;generalize hv:a.eval f=vf at hxf
   cases hxf with
   |w h1 _=>
    cases h1 with
    |fn h1 h2=>
     refine⟨_,rfl,by simpa using h1,fun j p v hp hv=>?_⟩;obtain⟨q,hq,rfl⟩:=bI hp;exact .w (h2 j q v hq hv) (fun h=>by cases h)
  ·cases hf
 obtain⟨cv,hfe,hcl,hcr⟩:=hfv
 have hvs:∀(j:Nat)(x:AV)(v:Value),(args.toList.map (ev env)++av)[j]?=some x→(args.map a.eval++cv)[j]?=some v→ae B (LB m h) m w x v:=by
  intro j x v hj hv;by_cases hlt:j<args.size
  ·rw[List.getElem?_append_left (by simpa using hlt)] at hj;rw[Array.getElem?_append_left (by simpa using hlt)] at hv;obtain⟨y,hy,rfl⟩:=bI hj;rw[Array.getElem?_map] at hv
   have:args[j]?=some y:=by rw[←Array.getElem?_toList];exact hy
   rw[this] at hv;injection hv with hv;subst hv
   exact hxa y
  ·rw[List.getElem?_append_right (by simp;omega)] at hj;rw[Array.getElem?_append_right (by simp;omega)] at hv;simp only[List.length_map,Array.length_toList,Array.size_map] at hj hv;exact hcr _ x v hj hv
 have hlen:(args.toList.map (ev env)++av).length=(args.map a.eval++cv).size:=by simp[hcl]
 generalize hvsd:args.map a.eval++cv=vs at hvs hlen;generalize hasd:args.toList.map (ev env)++av=avs at hvs hlen hnt hw
 have hrun:(execOp a.eval o).run P w=.ok (.enter g vs) w:=by
  have hn':¬fn.name = "runtime.NumGoroutine" := by simpa using hname
  simp[execOp,ho,resolve,hfe,Deferred.ofValue,invoke,callFunc,hfn,hn',hb,←hvsd]
 unfold Oper.wpt;rw[hrun,Oper.vi]
 have hdom:∀i,m.dom i→i<n:=fun i hd=>(hs.dom i).1 hd
 refine oC hfn hb ?_
 have hsim:Sim B (⟨w0.w,w0.F++env.map fun p=>(get env p.1,a.tmps.getD p.1 undef),none,w0.obs,[],fun ri h=>(let ⟨fn,T,D,h1,h2,h3⟩:=w0.aO ri (hrr ri h);⟨fn,T,D,h1,h2,fun t v ht=>List.mem_append.2 (.inl (h3 t v ht))⟩),w0.ok⟩:Ctx ⟨n,r⟩) ⟨ck 0 avs,h,n,fn.ntmps⟩ { tmps:=vs++Array.replicate (fn.ntmps-vs.size) undef,defers:=[] } w m:=by
  refine⟨hs.base,hs.below,rfl,by simp;omega,fun t=>?_,hs.heap,hs.dom,hs.ids,Nat.le_refl _,fun p hp=>?_,hs.fr.2.2⟩
  ·show ae _ _ _ _ (get (ck 0 avs) t) _;rw[uV];split
   ·rename_i ht
    have hlt:t<avs.length:=by omega
    have:(vs++Array.replicate (fn.ntmps-vs.size) undef).getD t undef=vs[t]'(by omega):=by
     rw[Array.getD_eq_getD_getElem?,Array.getElem?_append_left (by omega),Array.getElem?_eq_getElem (by omega)];rfl
    rw[this];exact hvs t _ _ (by simpa using getD_some hlt) (Array.getElem?_eq_getElem (by omega))
   ·exact .w (.undef _) (fun h=>by cases h)
  ·rcases List.mem_append.1 hp with hp|hp
   ·exact⟨AV.lW hs.fr.1 (hs.fr.2.1 p hp).1,(hs.fr.2.1 p hp).2⟩
   ·obtain⟨q,_,rfl⟩:=List.mem_map.1 hp;exact⟨(hs.env q.1).wz hdom,hs.env q.1⟩
 have main:∀{fk' fk2:Fk}(w1:Ctx fk')(w2:Ctx fk2)(st':St)(a':Act)(w':World)(m':Mm)(KV:AV→ab→Nat→Prop),fk'.k=n→fk2.k=fk.k→w1.w=w0.w→w1.F=w0.F++(env.map fun p=>(get env p.1,a.tmps.getD p.1 undef))→w1.ds=[] →
  w2.w=w0.w→w2.F=w0.F→w2.ds=w0.ds→(∀q∈w2.obs,q∈w1.obs)→Sim B w1 st' a' w' m'→cH P fn.results.toList st' KV →
  (∀v h' n' a' w' m',KV v h' n'→Sim B w2 ⟨put env o.dst v,h',n',nt⟩ a' w' m'→K' a' w') →
  a'.defers=[]∧∀w1,EnvD.E w' w1→∃v,(results fn a'.tmps).run P w1=.ok v w1∧K' (a.put o.dst v) w1:=by
  intro fk' fk2 w1 w2 st' a' w' m' KV hk1 q1 hww hF1 hds1 q2 q3 q4 q5 hs' hr hKK;refine⟨by have:=hs'.defers;rw[hds1] at this;exact this,fun w' e1=>?_⟩;replace hs':=hs'.move e1;unfold cH at hr;split at hr
  ·rename_i vs' d hres;obtain⟨hd,hkv⟩:=hr;obtain⟨us,h1,h2,h3⟩:=lK hs' _ _ _ hres hd
   have hrun:(results fn a'.tmps).run P w'=.ok (if h:us.toArray.size=1 then us.toArray[0] else .tuple us.toArray) w':=by
    have he:results fn a'.tmps=(do
     let vs ←fn.results.mapM (jS a'.tmps)
     pure (if h:vs.size=1 then vs[0] else .tuple vs)):=rfl
    rw[he,Array.mapM_eq_mapM_toList];simp only[Sem.run_bind,Sem.run_map,h1,Result.andThen_ok,Sem.run_pure]
   have hone:ae B (LB m' st'.heap) m' w' (oneOf vs') (if h:us.toArray.size=1 then us.toArray[0] else .tuple us.toArray):=by
    have tupc:vs'.length≠1→ae B (LB m' st'.heap) m' w' (.tup vs') (if h:us.toArray.size=1 then us.toArray[0] else .tuple us.toArray):=by
     intro hne;rw[dif_neg (by simp;omega)];exact .tup (by simpa using h2) (fun j p u hp hu=>h3 j p u hp (by simpa using hu))
    match vs',h2,h3,tupc with
    |[],h2,h3,tupc=>exact tupc (by simp)
    |[v],h2,h3,tupc=>
     obtain⟨u,rfl⟩:∃u,us=[u]:=List.length_eq_one_iff.1 (by simpa using h2.symm);exact h3 0 v u rfl rfl
    |v::v2::r,h2,h3,tupc=>exact tupc (by simp)
   refine⟨_,hrun,?_⟩;have hfr:=hs'.fr.2.1
   have hold:∀t,ae B (LB m' st'.heap) m' w' (get env t) (a.tmps.getD t undef):=by
    intro t
    rcases nC env t with ⟨v,hv⟩|hu
    ·exact (hfr (get env t,a.tmps.getD t undef) (by rw[hF1];exact List.mem_append.2 (.inr (List.mem_map.2 ⟨(t,v),hv,rfl⟩)))).2
    ·rw[hu];exact .w (.undef _) (fun h=>by cases h)
   refine hKK (oneOf vs') st'.heap st'.nxt _ _ m' hkv ⟨(by rw[q2,←hww];exact hs'.base),(by rw[q2,←hww];exact hs'.below),(by rw[fC,q4];exact hs.defers),(by rw[fB];exact hs.size),?_,hs'.heap,hs'.dom,hs'.ids,?_,fun p hp=>?_,fun q hq=>hs'.fr.2.2 q (q5 q hq)⟩
   ·exact iv env a o.dst _ _ (by rw[hs.size];exact hdk) hone hold
   ·have h1:=hs.fr.1;have h2:=hs'.fr.1;rw[hk1] at h2;rw[q1];exact Nat.le_trans h1 h2
   ·rw[q3] at hp;exact⟨by rw[q1];exact (hs.fr.2.1 p hp).1,(hfr p (by rw[hF1];exact List.mem_append.2 (.inl hp))).2⟩
  ·exact hr.elim
 refine bC (hw _ _ rfl rfl rfl rfl rfl hsim) (fun e a' w' hq=>?_);obtain⟨he,fk',fk2,w1,w2,st',m',KV,q1,q2,q3,q4,q5,q6,q7,q8,q9,hs',hr,hK⟩:=hq;have fin:=main w1 w2 st' a' w' m' KV q1 q2 q3 q4 q5 q6 q7 q8 q9 hs' hr hK
 rcases he with rfl|rfl
 ·exact fin
 ·exact fin
theorem Ad{w0:Ctx fk}{nt:Nat}(o:Oper)(f:Operand)(args:Array Operand)(tys:Array TypeId)(ho:o.op=.call { callee:=.value f,args:=args,argTypes:=tys }){g:FuncId}{av:List AV}(hf:cd (ev env f)=some (g,av)){fn:Func}{c:Code}(hfn:P.funcs[g]?=some fn) (hname:(fn.name == "runtime.NumGoroutine")=false) (hb:fn.body=some c) (hnt:(args.toList.map (ev env)++av).length≤fn.ntmps) (r:Option RI) (hrr:∀ri,r=some ri→fk.ri=some ri) {Kv:AV→ab→Nat→Prop} (hw:aG ⟨n,r⟩ P c ⟨ck 0 (args.toList.map (ev env)++av),h,n,fn.ntmps⟩ (dI P fn.results.toList Kv)) (hs:Sim B w0 ⟨env,h,n,nt⟩ a w m) (hdk:dOk nt o.dst) (Q:Exit→Act→World→Prop) (K':Act→World→Prop) (hK:∀v h' n' a' w' m',Kv v h' n'→Sim B w0 ⟨put env o.dst v,h',n',nt⟩ a' w' m'→K' a' w'):o.wpt P a w K' Q:=
 Ac o f args tys ho hf hfn hname hb hnt r hrr Q K' (fun w1 a1 e1 e2 e3 e4 e5 hs1=>bC (e3▸hw B w1 a1 w m hs1) (fun e a' w' ⟨st',m',hk,hs'⟩=>by
  have fin:∀e:Exit,(e=.normal∨e=.ret)→cH P fn.results.toList st' Kv→rn P B w0 env a n nt o fn K' e a' w':=fun e he hk=>
   ⟨he,_,_,w1,w0,st',m',Kv,rfl,rfl,e1,e2,e5,rfl,rfl,rfl,fun q hq=>e4▸hq,hs',hk,hK⟩
  cases e with
  |normal=>exact fin _ (.inl rfl) hk
  |ret=>exact fin _ (.inr rfl) hk
  |_=>exact hk.elim)) hs hdk
end
section
variable{P:Program}{B:Base}{m:Mm}{w w':World}{h:ab}{n:Nat}{env:Env}{a:Act}{L:Nat→Prop}
section
omit [ah]
theorem Rep.ij{G:Nat→Prop}{p:PV}{v:Value}(hc:∀a v,w.cell? a=some v→w'.cell? a=some v)(h:Rep G w p v):Rep G w' p v:=by
 induction h with
 |undef v=>exact .undef v
 |ez b=>exact .ez b
 |bool b=>exact .bool b
 |int k n=>exact .int k n
 |str s=>exact .str s
 |agg hl _ ih=>exact .agg hl ih
 |tup hl _ ih=>exact .tup hl ih
 |slnil=>exact .slnil
 |sl vals hn hcc hg hr ih=>exact .sl vals hn (fun j hj=>hc _ _ (hcc j hj)) hg ih
 |slz hn=>exact .slz hn
 |ip vals hcc hg hr ih=>exact .ip vals (fun j hj=>hc _ _ (hcc j hj)) hg ih
 |cJ=>exact .cJ
 |fI=>exact .fI
 |ifc _ ih=>exact .ifc ih
 |fn hl _ ih=>exact .fn hl ih
 |yl l=>exact .yl l
theorem ae.ij{x:AV}{v:Value}(hc:∀a v,w.cell? a=some v→w'.cell? a=some v)(h:ae B L m w x v):ae B L m w' x v:=by
 induction h with
 |w hr hf=>exact .w (hr.ij hc) hf
 |ptr hd ht ha hC=>exact .ptr hd ht ha hC
 |mp hd ht ha=>exact .mp hd ht ha
 |msl hd ht hn h0 h1=>exact .msl hd ht hn h0 h1
 |agg hl _ ih=>exact .agg hl ih
 |tup hl _ ih=>exact .tup hl ih
 |fn hl _ ih=>exact .fn hl ih
theorem qw{l:Nat}{o o':Obj}(hl:w.heap[l]?=some o)(ho:o.isCells=false)(ad:Addr)(v:Value)(hc:w.cell? ad=some v):(w.putObj l o').cell? ad=some v:=by
 by_cases e:ad.block=l
 ·unfold World.cell? at hc;rw[e,hl] at hc
  cases o<;>simp_all[Obj.isCells]
 ·rw[←hc];exact World.cell?_of_block (World.putObj_heap_other e)
theorem Hl{k l:Nat}{o o':Obj}(hl:w.heap[l]?=some o)(hk:k≤l):Bel k w (w.putObj l o'):=
 ⟨rfl,rfl,by simp,fun i hi=>World.putObj_heap_other (by omega)⟩
end
theorem Sim.put{fk':Fk}{w0:Ctx fk}{w1:Ctx fk'}{st:St}{l:Nat}{o o':Obj}(hs:Sim B w0 st a w m)(hl:w.heap[l]?=some o)(ho:o.isCells=false)(hom:∀es clk,o≠.map es clk)(hB:B.n≤l)(hw:w1.w=w0.w){a':Act}(ht:a'.tmps=a.tmps)(hd:a'.defers=marks w1.ds)(hfr:jI B w1 (LB m st.heap) m (w.putObj l o') st.nxt):Sim B w1 st a' (w.putObj l o') m:=by
 have hc:∀ad v,w.cell? ad=some v→(w.putObj l o').cell? ad=some v:=fun ad v h=>qw hl ho ad v h
 refine⟨by rw[hw];exact hs.base,by rw[hw];exact hs.below.trans (Hl hl hB),hd,by rw[ht];exact hs.size,fun t=>by rw[ht];exact (hs.env t).ij hc,⟨fun id c hin hdm=>?_,hs.heap.inj⟩,hs.dom,hs.ids,hfr⟩;obtain⟨h1,h2⟩:=hs.heap.entry id c hin hdm;refine⟨h1,?_⟩
 rcases h2 with h2|⟨b,C,cs,e,e1,e2,e3,e4,e5,e6⟩|⟨b,es,clk,e1,e2,e3,e4,e5⟩
 ·exact .inl h2
 ·refine .inr (.inl ⟨b,C,cs,e,e1,?_,e3,e4,e5,fun j p v hp hv=>(e6 j p v hp hv).ij hc⟩);rw[←e2];refine World.putObj_heap_other (fun hbl=>?_);subst hbl;rw[hl] at e2
  injection e2 with e2
  subst e2;cases ho
 ·refine .inr (.inr ⟨b,es,clk,e1,e2,?_,e4,e5⟩);rw[←e3];refine World.putObj_heap_other (fun hbl=>?_);subst hbl;rw[hl] at e3
  injection e3 with e3
  exact hom _ _ e3
theorem Sim.lay{fk':Fk}{w0:Ctx fk}{w1:Ctx fk'}{st:St}(o:Obj)(hs:Sim B w0 st a w m)(hw:w1.w=w0.w){a':Act}(ht:a'.tmps=a.tmps)(hd:a'.defers=marks w1.ds)(hfr:jI B w1 (LB m st.heap) m (w.alloc o) st.nxt):Sim B w1 st a' (w.alloc o) m:=by
 have hb:Bel w.heap.size w (w.alloc o):=(Bel.refl _ w).alloc (Nat.le_refl _) o;exact⟨by rw[hw];exact hs.base,by rw[hw];exact hs.below.trans (hb.mono hs.room),hd,by rw[ht];exact hs.size,fun t=>by rw[ht];exact (hs.env t).mono (Mm.le.refl m) (fun _ _ h=>h) (fun b hb' _=>hb.block b hb'),hs.heap.below hb,hs.dom,hs.ids,hfr⟩
end
def ik(env:Env):List Nat→List AV→Env
 |t::ts,v::vs=>ik ((t,v)::env) ts vs
 |_,_=>env
omit [ah] in
@[simp] theorem SU(env:Env)(vs:List AV):ik env [] vs=env:=by cases vs<;>rfl
omit [ah] in
@[simp] theorem Hm(env:Env)(t:Nat)(ts:List Nat)(v:AV)(vs:List AV):ik env (t::ts) (v::vs)=ik ((t,v)::env) ts vs:=rfl
def mE(k:Nat)(K:ab→Nat→Prop):Exit→St→Prop
 |.normal,s=>∃h' n' nt',Lek ⟨k,none⟩ s ⟨[],h',n',nt'⟩∧K h' n'
 |_,_=>False
def oe(P:Program)(k:Nat)(body:Code)(K:ab→Nat→Prop):Exit→St→Prop
 |.normal,s=>aG ⟨k,none⟩ P body s (mE k K)
 |_,_=>False
def Round(P:Program)(ri:RI)(avs:List AV)(h:ab)(n:Nat)(K:ab→Nat→Prop):Prop:=
 avs.length=ri.ps.size∧(∀t∈ri.ps,t<ri.nt)∧aG ⟨n,none⟩ P ri.assign ⟨ik ri.env ri.ps.toList avs,h,n,ri.nt⟩ (oe P n ri.body K)
def k8{k:Nat}{ri:RI}(w0:Ctx ⟨k,some ri⟩)(w1:Ctx ⟨k,none⟩):Prop:=
 w1.w=w0.w∧w1.F=w0.F∧w1.r=w0.r∧w1.ds=w0.ds∧(∃fn T D,(ri.l,aO ri fn T D .done (some .ret))∈w1.obs)∧∀q∈w0.obs,q.1≠ri.l→q∈w1.obs
def jW(k:Nat)(K Kl:ab→Nat→Prop):Exit→St→Prop
 |.normal,s=>∃h' n' nt',Lek ⟨k,none⟩ s ⟨[],h',n',nt'⟩∧K h' n'
 |.ret,s=>∃h' n' nt',Lek ⟨k,none⟩ s ⟨[],h',n',nt'⟩∧Kl h' n'
 |_,_=>False
def og(P:Program)(k:Nat)(body:Code)(K Kl:ab→Nat→Prop):Exit→St→Prop
 |.normal,s=>aG ⟨k,none⟩ P body s (jW k K Kl)
 |_,_=>False
def Cr(P:Program)(ri:RI)(avs:List AV)(h:ab)(n:Nat)(K Kl:ab→Nat→Prop):Prop:=
 avs.length=ri.ps.size∧(∀t∈ri.ps,t<ri.nt)∧aG ⟨n,none⟩ P ri.assign ⟨ik ri.env ri.ps.toList avs,h,n,ri.nt⟩ (og P n ri.body K Kl)
@[simp ↓] theorem SV(P:Program)(k:Nat)(body:Code)(K Kl:ab→Nat→Prop)(s:St):og P k body K Kl .normal s=aG ⟨k,none⟩ P body s (jW k K Kl):=rfl
@[congr] theorem SW{k:Nat}{K Kl:ab→Nat→Prop}{e e':Exit}{s s':St}(h1:e=e')(h2:s=s'):jW k K Kl e s=jW k K Kl e' s':=by rw[h1,h2]
@[congr] theorem SX{P:Program}{k:Nat}{body:Code}{K Kl:ab→Nat→Prop}{e e':Exit}{s s':St}(h1:e=e')(h2:s=s'):og P k body K Kl e s=og P k body K Kl e' s':=by rw[h1,h2]
theorem Hn{k:Nat}{K Kl:ab→Nat→Prop}{s:St}(h':ab)(n':Nat)(nt':Nat)(hle:Lek ⟨k,none⟩ s ⟨[],h',n',nt'⟩)(hk:K h' n'):jW k K Kl .normal s:=⟨h',n',nt',hle,hk⟩
theorem Ho{k:Nat}{K Kl:ab→Nat→Prop}{s:St}(h':ab)(n':Nat)(nt':Nat)(hle:Lek ⟨k,none⟩ s ⟨[],h',n',nt'⟩)(hk:Kl h' n'):jW k K Kl .ret s:=⟨h',n',nt',hle,hk⟩
section
variable{P:Program}{B:Base}{m:Mm}{w:World}{h:ab}{n:Nat}{env:Env}{a:Act}{L:Nat→Prop}
section
omit [ah]
theorem Ae:∀(ps:List Nat)(avs:List AV)(vals:List Value)(e:Env)(T:Array Value),ps.length=avs.length→avs.length=vals.length→(∀t∈ps,t<T.size)→(∀(j:Nat)(x:AV)(v:Value),avs[j]?=some x→vals[j]?=some v→ae B L m w x v)→(∀t,ae B L m w (get e t) (T.getD t undef))→((ps.zip vals).foldl (fun tmps (p:Nat×Value)=>tmps.setIfInBounds p.1 p.2) T).size=T.size∧∀t,ae B L m w (get (ik e ps avs) t) (((ps.zip vals).foldl (fun tmps (p:Nat×Value)=>tmps.setIfInBounds p.1 p.2) T).getD t undef)
 |[],[],[],e,T,_,_,_,_,he=>⟨rfl,by simpa using he⟩
 |p::ps,x::avs,v::vals,e,T,h1,h2,hlt,hr,he=>by
  simp only[List.zip_cons_cons,List.foldl_cons,Hm];have hp:=hlt p (by simp);have:=Ae ps avs vals ((p,x)::e) (T.setIfInBounds p v) (by simpa using h1) (by simpa using h2) (fun t ht=>by simpa using hlt t (by simp[ht])) (fun j y u hy hu=>hr (j+1) y u (by simpa using hy) (by simpa using hu)) (fun t=>?_)
  ·refine⟨by rw[this.1];simp,this.2⟩
  ·simp only[get];rw[Array.getD_eq_getD_getElem?,Array.getElem?_setIfInBounds];by_cases hpt:p=t
   ·subst hpt;simp only[if_true];rw[if_pos hp];exact hr 0 x v rfl rfl
   ·simp only[hpt,if_false];rw[←Array.getD_eq_getD_getElem?];exact he t
 |[],_::_,_,_,_,h1,_,_,_,_=>by cases h1
 |_::_,[],_,_,_,h1,_,_,_,_=>by cases h1
 |[],[],_::_,_,_,_,h2,_,_,_=>by cases h2
 |_::_,_::_,[],_,_,_,h2,_,_,_=>by cases h2
theorem ae.MN{o f:Bool}{l:Nat}{v:Value}(h:ae B L m w (.w o f (.yl l)) v):v=.func (.yield l) #[] #[]:=by
 cases h with|w h _=>cases h;rfl
theorem Hp(ps:Array Tmp)(vals:Array Value)(T:Array Value):(ps.zip vals).foldl (fun tmps (t,a)=>tmps.setIfInBounds t a) T=(ps.toList.zip vals.toList).foldl (fun tmps (p:Nat×Value)=>tmps.setIfInBounds p.1 p.2) T:=by
 rw[←Array.foldl_toList,Array.toList_zip]
end
theorem Af{k:Nat}{ri:RI}{w0:Ctx ⟨k,some ri⟩}{nt:Nat}(o:Oper)(f:Operand)(args:Array Operand)(tys:Array TypeId)(ho:o.op=.call { callee:=.value f,args:=args,argTypes:=tys }){ow fl:Bool}(hf:ev env f=.w ow fl (.yl ri.l)){Kv Kl:ab→Nat→Prop}(hw:Cr P ri (args.toList.map (ev env)) h n Kv Kl)(hs:Sim B w0 ⟨env,h,n,nt⟩ a w m)(hdk:dOk nt o.dst)(Q:Exit→Act→World→Prop)(K':Act→World→Prop)(hK:∀h' n' a' w' m',Kv h' n'→Sim B w0 ⟨put env o.dst (.w false false (.bool true)),h',n',nt⟩ a' w' m'→K' a' w')(hKl:∀(w1:Ctx ⟨k,none⟩) h' n' a' w' m',k8 w0 w1→Kl h' n'→Sim B w1 ⟨put env o.dst (.w false false (.bool false)),h',n',nt⟩ a' w' m'→K' a' w'):o.wpT w0.r P a w K' Q:=by
 obtain⟨hlen,hlt,hw⟩:=hw
 have hxa:∀x:Operand,ae B (LB m h) m w (ev env x) (a.eval x):=fun x=>gA x (fun t _=>hs.env t)
 have hfe:a.eval f=.func (.yield ri.l) #[] #[]:=by have:=hxa f;rw[hf] at this;exact this.MN
 obtain⟨fn,T,D,hin,hT,henv⟩:=w0.aO ri rfl;obtain⟨hBl,hll,hLl,hl⟩:=hs.fr.2.2 _ hin;have hno:(aO ri fn T D .ready none).isCells=false:=rfl
 have hdom:∀i,m.dom i→i<n:=fun i hd=>(hs.dom i).1 hd
 generalize hvals:args.map a.eval=vals
 have hvl:vals.size=ri.ps.size:=by rw[←hvals,←hlen];simp
 have hrun:(execOp a.eval o).run P w=.ok (.round ri.l fn ((ri.ps.zip vals).foldl (fun tmps (t,a)=>tmps.setIfInBounds t a) T) ri.assign ri.body) w:=by
  have hy:=run_yield (P:=P) (args:=vals) (r:={ state:=.ready,pending:=none,fn:=fn,tmps:=T,params:=ri.ps,assign:=ri.assign,body:=ri.body,defers:=D }) hl hvl;simp[execOp,ho,resolve,hfe,Deferred.ofValue,invoke,callFunc,hvals,hy]
 refine eO (fun c e=>(by rw[ho] at e;cases e)) ?_;unfold Oper.wpt;rw[hrun,Oper.JG];refine CP ?_;obtain⟨F1,hF1⟩:∃F1,w0.F++env.map (fun p=>(get env p.1,a.tmps.getD p.1 undef))=F1:=⟨_,rfl⟩
 have hF:∀p∈F1,p.1.lt n=true∧ae B (LB m h) m w p.1 p.2:=by
  intro p hp;rw[←hF1] at hp
  rcases List.mem_append.1 hp with hp|hp
  ·exact⟨AV.lW hs.fr.1 (hs.fr.2.1 p hp).1,(hs.fr.2.1 p hp).2⟩
  ·obtain⟨q,_,rfl⟩:=List.mem_map.1 hp;exact⟨(hs.env q.1).wz hdom,hs.env q.1⟩
 have hTe:∀t,ae B (LB m h) m w (get ri.env t) (T.getD t undef):=by
  intro t
  rcases nC ri.env t with ⟨v,hv⟩|hu
  ·exact (hs.fr.2.1 _ (henv t v hv)).2
  ·rw[hu];exact .w (.undef _) (fun h=>by cases h)
 have a7:=Ae (B:=B) (L:=LB m h) (m:=m) (w:=w) ri.ps.toList (args.toList.map (ev env)) vals.toList ri.env T (by rw[hlen];simp) (by rw[←hvals];simp) (fun t ht=>by rw[hT];exact hlt t (by simpa using ht))
  (fun j x v hx hv=>by
    rw[←hvals] at hv;rw[List.getElem?_map] at hx;simp only[Array.getElem?_toList,Array.getElem?_map] at hv hx
    cases hj:args[j]? with
    |none=>rw[hj] at hx;cases hx
    |some y=>
     rw[hj] at hx hv
     injection hx with hx;injection hv with hv
     subst hx;subst hv
     exact hxa y) hTe
 rw[Hp];generalize hT':(ri.ps.toList.zip vals.toList).foldl (fun tmps (p:Nat×Value)=>tmps.setIfInBounds p.1 p.2) T=T' at a7 ⊢
 have hsim:Sim B (⟨w0.w,F1,some ri.l,w0.obs,[],fun ri h=>(by cases h),w0.ok⟩:Ctx ⟨n,none⟩) ⟨ik ri.env ri.ps.toList (args.toList.map (ev env)),h,n,ri.nt⟩ { tmps:=T',defers:=[] } w m:=
  ⟨hs.base,hs.below,rfl,a7.1.trans hT,a7.2,hs.heap,hs.dom,hs.ids,Nat.le_refl _,hF,hs.fr.2.2⟩
 refine bC (hw _ _ _ _ _ hsim) (fun e a1 w1 ⟨st1,m1,hk1,hs1⟩=>?_)
 cases e with
 |normal=>
  intro w1 e1;replace hs1:=hs1.move e1;obtain⟨_,hll1,hLl1,hl1⟩:=hs1.fr.2.2 _ hin;replace hl1:w1.heap[ri.l]?=some (aO ri fn T D .ready none):=hl1;replace hll1:ri.l<w1.heap.size:=hll1;refine⟨_,run_beginRound hl1 rfl,?_⟩
  have hs2:Sim B (⟨w0.w,F1,some ri.l,(ri.l,aO ri fn T D .busy none)::w0.obs.filter (fun q=>decide (q.1≠ri.l)),[],fun ri h=>(by cases h),w0.ok⟩:Ctx ⟨n,none⟩) st1 a1 (w1.putObj ri.l (aO ri fn T D .busy none)) m1:=by
   refine Sim.put (w1:=(⟨w0.w,F1,some ri.l,(ri.l,aO ri fn T D .busy none)::w0.obs.filter (fun q=>decide (q.1≠ri.l)),[],fun ri h=>(by cases h),w0.ok⟩:Ctx ⟨n,none⟩)) (o':=aO ri fn T D .busy none) hs1 hl1 hno (fun _ _ h=>by cases h) hBl rfl rfl (by exact hs1.defers) ⟨hs1.fr.1,fun p hp=>⟨(hs1.fr.2.1 p hp).1,(hs1.fr.2.1 p hp).2.ij (fun ad v h=>qw hl1 hno ad v h)⟩,fun q hq=>?_⟩
   rcases List.mem_cons.1 hq with e|hq
   ·subst e;exact⟨hBl,by simpa using hll1,hLl1,World.putObj_heap_same hll1⟩
   ·obtain⟨hq,hne⟩:=List.mem_filter.1 hq;obtain⟨o1,o2,o3,o4⟩:=hs1.fr.2.2 q hq;exact⟨o1,by simpa using o2,o3,(World.putObj_heap_other (by simpa using hne)).trans o4⟩
  have fin:∀(s:LoopState)(j:Option Code)(st3:St)(a3:Act)(w3:World)(m3:Mm),Sim B (⟨w0.w,F1,some ri.l,(ri.l,aO ri fn T D .busy none)::w0.obs.filter (fun q=>decide (q.1≠ri.l)),[],fun ri h=>(by cases h),w0.ok⟩:Ctx ⟨n,none⟩) st3 a3 w3 m3 →
   ∀h' n' nt',Lek ⟨n,none⟩ st3 ⟨[],h',n',nt'⟩→∃m4,(Bel B.n w0.w (w3.putObj ri.l (aO ri fn T D s j)))∧(∀t,ae B (LB m4 h') m4 (w3.putObj ri.l (aO ri fn T D s j)) (get env t) (a.tmps.getD t undef)) ∧
    Sim B (⟨w0.w,F1,some ri.l,[],[],fun ri h=>(by cases h),w0.ok⟩:Ctx ⟨n,none⟩) ⟨[],h',n',nt'⟩ a3 (w3.putObj ri.l (aO ri fn T D s j)) m4∧n≤n' ∧
    (∀p∈w0.F,ae B (LB m4 h') m4 (w3.putObj ri.l (aO ri fn T D s j)) p.1 p.2)∧w3.heap[ri.l]?=some (aO ri fn T D .busy none)∧ri.l<w3.heap.size∧¬LB m4 h' ri.l ∧
    (∀q∈w0.obs,q.1≠ri.l→B.n≤q.1∧q.1<(w3.putObj ri.l (aO ri fn T D s j)).heap.size∧¬LB m4 h' q.1∧(w3.putObj ri.l (aO ri fn T D s j)).heap[q.1]?=some q.2):=by
   intro s j st3 a3 w3 m3 hs3 h' n' nt' hle;obtain⟨m4,hs4⟩:=hle _ _ _ _ _ hs3;obtain⟨_,hll4,hLl4,hl4⟩:=hs4.fr.2.2 (ri.l,aO ri fn T D .busy none) (by simp);replace hl4:w3.heap[ri.l]?=some (aO ri fn T D .busy none):=hl4;replace hll4:ri.l<w3.heap.size:=hll4;have hno4:(aO ri fn T D .busy none).isCells=false:=rfl
   have hcm:∀ad v,w3.cell? ad=some v→(w3.putObj ri.l (aO ri fn T D s j)).cell? ad=some v:=fun ad v h=>qw hl4 hno4 ad v h
   have hfr4:=hs4.fr.2.1
   have hold:∀t,ae B (LB m4 h') m4 (w3.putObj ri.l (aO ri fn T D s j)) (get env t) (a.tmps.getD t undef):=by
    intro t
    rcases nC env t with ⟨v,hv⟩|hu
    ·refine ((hfr4 (get env t,a.tmps.getD t undef) ?_).2).ij hcm;rw[←hF1];exact List.mem_append.2 (.inr (List.mem_map.2 ⟨(t,v),hv,rfl⟩))
    ·rw[hu];exact .w (.undef _) (fun h=>by cases h)
   have hbase:Sim B (⟨w0.w,F1,some ri.l,[],[],fun ri h=>(by cases h),w0.ok⟩:Ctx ⟨n,none⟩) ⟨[],h',n',nt'⟩ a3 (w3.putObj ri.l (aO ri fn T D s j)) m4:=
    Sim.put (w1:=(⟨w0.w,F1,some ri.l,[],[],fun ri h=>(by cases h),w0.ok⟩:Ctx ⟨n,none⟩)) (o':=aO ri fn T D s j) hs4 hl4 hno4 (fun _ _ h=>by cases h) hBl rfl rfl (by exact hs4.defers) ⟨hs4.fr.1,fun p hp=>⟨(hfr4 p hp).1,(hfr4 p hp).2.ij hcm⟩,fun q hq=>by cases hq⟩
   refine⟨m4,hbase.below,hold,hbase,hs4.fr.1,fun p hp=>?_,hl4,hll4,hLl4,fun q hq hne=>?_⟩
   ·refine ((hfr4 p ?_).2).ij hcm;rw[←hF1];exact List.mem_append.2 (.inl hp)
   ·obtain⟨o1,o2,o3,o4⟩:=hs4.fr.2.2 q (List.mem_cons_of_mem _ (List.mem_filter.2 ⟨hq,by simpa using hne⟩));exact⟨o1,by simpa using o2,o3,(World.putObj_heap_other hne).trans o4⟩
  refine bC (hk1 _ _ _ _ _ hs2) (fun e a3 w3 ⟨st3,m3,hk3,hs3⟩=>?_)
  cases e with
  |normal=>
   intro w3 e3;replace hs3:=hs3.move e3;obtain⟨h',n',nt',hle,hkv⟩:=hk3;obtain⟨m4,hbl,hold,hbase,hnn,hF0,hl4,hll4,hLl4,hobs⟩:=fin .ready none st3 a3 w3 m3 hs3 h' n' nt' hle;refine⟨_,_,run_endRound none hl4,?_⟩;show K' (a.put o.dst (.bool true)) _;refine hK h' n' _ _ m4 hkv ⟨hbase.base,hbl,by rw[fC];exact hs.defers,by rw[fB];exact hs.size,?_,hbase.heap,hbase.dom,hbase.ids,Nat.le_trans hs.fr.1 hnn,fun p hp=>⟨(hs.fr.2.1 p hp).1,hF0 p hp⟩,fun q hq=>?_⟩
   ·exact iv env a o.dst _ _ (by rw[hs.size];exact hdk) (dq true) hold
   ·by_cases hql:q.1=ri.l
    ·obtain⟨o1,o2,o3,o4⟩:=hs.fr.2.2 q hq;rw[hql] at o4 o1 ⊢;rw[hl] at o4;refine⟨o1,by simpa using hll4,hLl4,?_⟩;rw[←o4];exact World.putObj_heap_same hll4
    ·exact hobs q hq hql
  |ret=>
   intro w3 e3;replace hs3:=hs3.move e3;obtain⟨h',n',nt',hle,hkv⟩:=hk3;obtain⟨m4,hbl,hold,hbase,hnn,hF0,hl4,hll4,hLl4,hobs⟩:=fin .done (some .ret) st3 a3 w3 m3 hs3 h' n' nt' hle;refine⟨_,_,run_endRound (some .ret) hl4,?_⟩;show K' (a.put o.dst (.bool false)) _;refine hKl (⟨w0.w,w0.F,w0.r,(ri.l,aO ri fn T D .done (some .ret))::w0.obs.filter (fun q=>decide (q.1≠ri.l)),w0.ds,fun ri h=>(by cases h),w0.ok⟩:Ctx ⟨k,none⟩) h' n' _ _ m4 ⟨rfl,rfl,rfl,rfl,⟨fn,T,D,by simp⟩,fun q hq hne=>List.mem_cons_of_mem _ (List.mem_filter.2 ⟨hq,by simpa using hne⟩)⟩ hkv
    ⟨hbase.base,hbl,by rw[fC];exact hs.defers,by rw[fB];exact hs.size,?_,hbase.heap,hbase.dom,hbase.ids,Nat.le_trans hs.fr.1 hnn,fun p hp=>⟨(hs.fr.2.1 p hp).1,hF0 p hp⟩,fun q hq=>?_⟩
   ·exact iv env a o.dst _ _ (by rw[hs.size];exact hdk) (dq false) hold
   ·rcases List.mem_cons.1 hq with e|hq
    ·subst e;exact⟨hBl,by simpa using hll4,hLl4,World.putObj_heap_same hll4⟩
    ·obtain⟨hq,hne⟩:=List.mem_filter.1 hq;exact hobs q hq (by simpa using hne)
  |_=>exact hk3.elim
 |_=>exact hk1.elim
theorem Hq{k:Nat}{ri:RI}{w0:Ctx ⟨k,some ri⟩}{nt:Nat}(o:Oper)(f:Operand)(args:Array Operand)(tys:Array TypeId)(ho:o.op=.call { callee:=.value f,args:=args,argTypes:=tys }){ow fl:Bool}(hf:ev env f=.w ow fl (.yl ri.l)){Kv:AV→ab→Nat→Prop}(hw:Round P ri (args.toList.map (ev env)) h n (fun h' n'=>Kv (.w false false (.bool true)) h' n'))(hs:Sim B w0 ⟨env,h,n,nt⟩ a w m)(hdk:dOk nt o.dst)(Q:Exit→Act→World→Prop)(K':Act→World→Prop)(hK:∀v h' n' a' w' m',Kv v h' n'→Sim B w0 ⟨put env o.dst v,h',n',nt⟩ a' w' m'→K' a' w'):o.wpT w0.r P a w K' Q:=by
 obtain⟨hlen,hlt,hw⟩:=hw;refine Af (Kl:=fun _ _=>False) o f args tys ho hf ⟨hlen,hlt,mV hw (fun e s hq=>?_)⟩ hs hdk Q K' (fun h' n' a' w' m' hk hs'=>hK _ _ _ _ _ m' hk hs') (fun _ _ _ _ _ _ _ hk=>hk.elim)
 cases e with
 |normal=>
  refine mV hq (fun e s hq=>?_)
  cases e with
  |normal=>exact hq
  |_=>exact hq.elim
 |_=>exact hq.elim
end
def k9{fk:Fk}(w0:Ctx fk):Prop:=w0.ds.Nodup∧∀D∈w0.ds,(D,Obj.deferred (some []))∈w0.obs
def bX(fk:Fk)(P:Program)(c:Code)(st:St)(K:Exit→St→Prop):Prop:=
 ∀(B:Base)(w0:Ctx fk)(a:Act)(w:World)(m:Mm),w0.r=none→k9 w0→Sim B w0 st a w m →
  c.wpT none P (fun e a' w'=>∃(w1:Ctx fk)(st':St)(m':Mm),w1.w=w0.w∧w1.r=none∧k9 w1∧K e st'∧Sim B w1 st' a' w' m') a w
def bQ(k:Nat)(ri:RI)(P:Program)(c:Code)(st:St)(K Kd:Exit→St→Prop):Prop:=
 ∀(B:Base)(w0:Ctx ⟨k,some ri⟩)(a:Act)(w:World)(m:Mm),Sim B w0 st a w m →
  c.wpT w0.r P (fun e a' w'=>(∃st' m',K e st'∧Sim B w0 st' a' w' m')∨∃w1:Ctx ⟨k,none⟩,k8 w0 w1∧∃st' m',Kd e st'∧Sim B w1 st' a' w' m') a w
theorem Ag{k:Nat}{ri:RI}{P:Program}{K Kd:Exit→St→Prop}{st:St}{c:Code}(h:aG ⟨k,some ri⟩ P c st K):bQ k ri P c st K Kd:=
 fun B w0 a w m hs=>bC (h B w0 a w m hs) (fun _ _ _ hx=>.inl hx)
section
variable{P:Program}{K:Exit→St→Prop}{st st':St}
theorem iH{c:Code}(h:aG fk P c st K):bX fk P c st K:=fun B w0 a w m hr hd hs=>by
 have:=h B w0 a w m hs;rw[hr] at this;exact bC this (fun e a' w' ⟨st',m',h1,h2⟩=>⟨w0,st',m',rfl,hr,hd,h1,h2⟩)
def rp(fk:Fk)(P:Program)(b:Code)(K:Exit→St→Prop):Exit→St→Prop
 |.normal,s=>bX fk P b s K
 |e,s=>K e s
theorem iI{x y:Code}(h:bX fk P x st (rp fk P y K)):bX fk P (.seq x y) st K:=
 fun B w0 a w m hr hd hs=>rX (bC (h B w0 a w m hr hd hs) (fun e a' w' ⟨w1,st',m',g1,g2,g3,h1,h2⟩=>by
  cases e with
  |normal=>exact bC (h1 B w1 a' w' m' g2 g3 h2) (fun e a2 w2 ⟨w3,s3,m3,k1,k2,k3,k4,k5⟩=>⟨w3,s3,m3,k1.trans g1,k2,k3,k4,k5⟩)
  |_=>exact⟨w1,st',m',g1,g2,g3,h1,h2⟩))
theorem qx{id:Nat}{c:Code}(h:bX fk P c st (dD id K)):bX fk P (.block id c) st K:=
 fun B w0 a w m hr hd hs=>rY (bC (h B w0 a w m hr hd hs) (fun e a' w' ⟨w1,st',m',g1,g2,g3,h1,h2⟩=>by
  cases e with
  |exit id'=>
   simp only[Exit.inBlock];simp only[dD] at h1;split
   ·rename_i hid;simp only[hid,if_true] at h1;exact⟨w1,st',m',g1,g2,g3,h1,h2⟩
   ·rename_i hid;simp only[hid,if_false] at h1;exact⟨w1,st',m',g1,g2,g3,h1,h2⟩
  |_=>exact⟨w1,st',m',g1,g2,g3,h1,h2⟩))
theorem Hr{c:Code}{K':Exit→St→Prop}(h:bX fk P c st K)(hk:∀e s,K e s→K' e s):bX fk P c st K':=
 fun B w0 a w m hr hd hs=>bC (h B w0 a w m hr hd hs) (fun e a' w' ⟨w1,st',m',g1,g2,g3,h1,h2⟩=>⟨w1,st',m',g1,g2,g3,hk _ _ h1,h2⟩)
theorem Ah{g:Operand}{ps:Array Tmp}{assign body:Code}{env:Env}{h:ab}{n nt:Nat}{gf:FuncId}{av:List AV}(hf:cd (ev env g)=some (gf,av)){fn:Func}{c:Code}(hfn:P.funcs[gf]?=some fn) (hname:(fn.name == "runtime.NumGoroutine")=false) (hb:fn.body=some c) (hnt:av.length+1≤fn.ntmps) (hw:∀l,bQ n ⟨l,env,nt,ps,assign,body⟩ P c ⟨ck 0 (.w false false (.yl l)::av),h,n,fn.ntmps⟩ (dI P fn.results.toList fun _ h' n'=>K .normal ⟨env,h',n',nt⟩) (dI P fn.results.toList fun _ h' n'=>K .ret ⟨env,h',n',nt⟩)):bX fk P (.rangeFunc g ps assign body) ⟨env,h,n,nt⟩ K:=by
 intro B w0 a w m hr hd hs;refine CQ ?_;intro w e0 fni;replace hs:=hs.move e0;have hxf:ae B (LB m h) m w (ev env g) (a.eval g):=gA g (fun t _=>hs.env t)
 have hfv:∃cv:Array Value,a.eval g=.func (.func gf) #[] cv∧av.length=cv.size∧∀(j:Nat)(p:AV)(v:Value),av[j]?=some p→cv[j]?=some v→ae B (LB m h) m w p v:=by
  unfold cd at hf;split at hf
  ·rename_i g' caps' e
   injection hf with hf;injection hf with h1 h2;subst h1;subst h2
   rw[e] at hxf;generalize hv:a.eval g=vf at hxf
   cases hxf with|fn h1 h2=>exact⟨_,rfl,h1,h2⟩
  ·rename_i own f' g' caps' e
   injection hf with hf;injection hf with h1 h2;subst h1;subst h2
   rw[e] at hxf;generalize hv:a.eval g=vf at hxf
   cases hxf with
   |w h1 _=>
    cases h1 with
    |fn h1 h2=>
     refine⟨_,rfl,by simpa using h1,fun j p v hp hv=>?_⟩;obtain⟨q,hq,rfl⟩:=bI hp;exact .w (h2 j q v hq hv) (fun h=>by cases h)
  ·cases hf
 obtain⟨cv,hfe,hcl,hcr⟩:=hfv
 have hdom:∀i,m.dom i→i<n:=fun i hd=>(hs.dom i).1 hd
 obtain⟨ri,hri⟩:∃ri:RI,ri=⟨w.heap.size+1,env,nt,ps,assign,body⟩:=⟨_,rfl⟩;obtain⟨D,hD⟩:∃D,D=w.heap.size:=⟨_,rfl⟩
 have hrl:ri.l=w.heap.size+1:=by rw[hri]
 have hs1:Sim B (⟨w0.w,[],none,[(D,.deferred (some []))],w0.ds,fun ri h=>(by cases h),w0.ok⟩:Ctx ⟨0,none⟩) ⟨env,h,n,nt⟩ a (w.alloc (.deferred (some []))) m:=by
  refine Sim.lay (w1:=(⟨w0.w,[],none,[(D,.deferred (some []))],w0.ds,fun ri h=>(by cases h),w0.ok⟩:Ctx ⟨0,none⟩)) (.deferred (some [])) hs rfl rfl (by exact hs.defers) ⟨Nat.zero_le _,(fun p hp=>by cases hp),fun q hq=>?_⟩;simp only[List.mem_singleton] at hq;subst hq;rw[hD];exact⟨hs.room,by simp,fun hl=>by have:=bG hs.heap hl;omega,World.alloc_heap_new w _⟩
 have hb1:Bel w.heap.size w (w.alloc (.deferred (some []))):=(Bel.refl _ w).alloc (Nat.le_refl _) _;have hb2:Bel (w.alloc (.deferred (some []))).heap.size (w.alloc (.deferred (some []))) ((w.alloc (.deferred (some []))).alloc (aO ri fni a.tmps D .ready none)):=(Bel.refl _ _).alloc (Nat.le_refl _) _
 have hkeep:∀b,b<w.heap.size→((w.alloc (.deferred (some []))).alloc (aO ri fni a.tmps D .ready none)).heap[b]?=w.heap[b]?:=fun b hb=>(hb2.block b (by simp;omega)).trans (hb1.block b hb)
 have hmono:∀x v,ae B (LB m h) m w x v→ae B (LB m h) m ((w.alloc (.deferred (some []))).alloc (aO ri fni a.tmps D .ready none)) x v:=fun x v hr=>hr.mono (Mm.le.refl m) (fun _ _ h=>h) (fun b hb' _=>hkeep b hb')
 have hrec0:Bp ⟨n,some ri⟩ (w0.F++env.map (fun p=>(get env p.1,a.tmps.getD p.1 undef))) ((ri.l,aO ri fni a.tmps D .ready none)::(D,.deferred (some []))::w0.obs):=fun ri' e=>by
  injection e with e;subst e
  exact⟨fni,a.tmps,D,by simp,by rw[hri];exact hs.size,fun t v hv=>List.mem_append.2 (.inr (List.mem_map.2 ⟨(t,v),by rw[hri] at hv;exact hv,by rw[hri]⟩))⟩
 have hs2:Sim B (⟨w0.w,w0.F++env.map (fun p=>(get env p.1,a.tmps.getD p.1 undef)),none,(ri.l,aO ri fni a.tmps D .ready none)::(D,.deferred (some []))::w0.obs,w0.ds,
  hrec0,w0.ok⟩:Ctx ⟨n,some ri⟩)
  ⟨env,h,n,nt⟩ a ((w.alloc (.deferred (some []))).alloc (aO ri fni a.tmps D .ready none)) m:=by
  refine Sim.lay (w1:=(⟨w0.w,w0.F++env.map (fun p=>(get env p.1,a.tmps.getD p.1 undef)),none,(ri.l,aO ri fni a.tmps D .ready none)::(D,.deferred (some []))::w0.obs,w0.ds,hrec0,w0.ok⟩:Ctx ⟨n,some ri⟩)) _ hs1 rfl rfl (by exact hs.defers) ⟨Nat.le_refl _,fun p hp=>?_,fun q hq=>?_⟩
  ·rcases List.mem_append.1 hp with hp|hp
   ·exact⟨AV.lW hs.fr.1 (hs.fr.2.1 p hp).1,hmono _ _ (hs.fr.2.1 p hp).2⟩
   ·obtain⟨q,_,rfl⟩:=List.mem_map.1 hp;exact⟨(hs.env q.1).wz hdom,hmono _ _ (hs.env q.1)⟩
  ·rcases List.mem_cons.1 hq with e|hq
   ·subst e;refine⟨by simp only[hrl];have:=hs.room;omega,by simp only[hrl];simp,fun hl=>by have:=bG hs.heap hl;simp only[hrl] at this;omega,?_⟩;simp only[hrl];have:=World.alloc_heap_new (w.alloc (.deferred (some []))) (aO ri fni a.tmps D .ready none)
    rwa [World.size_alloc] at this
   ·rcases List.mem_cons.1 hq with e|hq
    ·subst e
     have e:∀k,k=w.heap.size→((w.alloc (.deferred (some []))).alloc (aO ri fni a.tmps D .ready none)).heap[k]?=some (.deferred (some [])):=fun k hk=>by
      rw[hk];exact (hb2.block _ (by simp)).trans (World.alloc_heap_new w _)
     exact⟨by simp only[hD];exact hs.room,by simp;omega,fun hl=>by have:=bG hs.heap hl;omega,e D hD⟩
    ·obtain⟨o1,o2,o3,o4⟩:=hs.fr.2.2 q hq;exact⟨o1,by simp;omega,o3,(hkeep _ o2).trans o4⟩
 have hrec:((w.alloc (.deferred (some []))).alloc (.loop { state:=.ready,pending:=none,fn:=fni,tmps:=a.tmps,params:=ps,assign,body,defers:=w.heap.size }))=(w.alloc (.deferred (some []))).alloc (aO ri fni a.tmps D .ready none):=by
  rw[hri,hD];rfl
 have hent:=run_enterLoop_outer (P:=P) (w:=w) fni a.tmps ps assign body;rw[hrec] at hent;clear hb2;generalize (w.alloc (.deferred (some []))).alloc (aO ri fni a.tmps D .ready none)=W2 at hs2 hkeep hmono hent;refine⟨w.heap.size+1,[{ target:=.collected w.heap.size,args:=#[] }],W2,{ target:=.fn (.func gf) cv,args:=#[.func (.yield (w.heap.size+1)) #[] #[]] },W2,gf,#[.func (.yield (w.heap.size+1)) #[] #[]]++cv,W2,hent,?_,?_,?_⟩
 ·have he:a.eval (.const (.func (.yield (w.heap.size+1)) #[] #[]))=.func (.yield (w.heap.size+1)) #[] #[]:=rfl;simp[resolve,rangeCall,hfe,he,Deferred.ofValue]
 ·have hn':¬fn.name = "runtime.NumGoroutine" := by simpa using hname
  simp[invoke,callFunc,hfn,hn',hb]
 ·refine oC hfn hb ?_
  have hlen:(AV.w false false (.yl ri.l)::av).length=(#[Value.func (.yield (w.heap.size+1)) #[] #[]]++cv).size:=by simp[hcl];omega
  have hvs:∀(j:Nat)(x:AV)(v:Value),(AV.w false false (.yl ri.l)::av)[j]?=some x→(#[Value.func (.yield (w.heap.size+1)) #[] #[]]++cv)[j]?=some v→ae B (LB m h) m W2 x v:=by
   intro j x v hx hv
   cases j with
   |zero=>
    rw[Array.getElem?_append_left (by simp)] at hv;simp at hx hv;subst hx;subst hv;rw[hrl];exact .w (.yl _) (fun h=>by cases h)
   |succ j=>
    rw[Array.getElem?_append_right (by simp)] at hv;simp only[List.getElem?_cons_succ] at hx;have hsz:(#[Value.func (.yield (w.heap.size+1)) #[] #[]]:Array Value).size=1:=rfl;rw[hsz,Nat.add_sub_cancel] at hv;exact hmono _ _ (hcr j x v hx hv)
  generalize (#[Value.func (.yield (w.heap.size+1)) #[] #[]]++cv)=vs at hlen hvs;have hw':=hw ri.l;rw[show (⟨ri.l,env,nt,ps,assign,body⟩:RI)=ri from by rw[hri]] at hw'
  have hnt':(AV.w false false (.yl ri.l)::av).length≤fn.ntmps:=by simpa using hnt
  generalize hav:AV.w false false (.yl ri.l)::av=avs at hlen hvs hw' hnt'
  have hsim:Sim B (⟨w0.w,w0.F++env.map (fun p=>(get env p.1,a.tmps.getD p.1 undef)),none,(ri.l,aO ri fni a.tmps D .ready none)::(D,.deferred (some []))::w0.obs,[],
   hrec0,w0.ok⟩:Ctx ⟨n,some ri⟩)
    ⟨ck 0 avs,h,n,fn.ntmps⟩ { tmps:=vs++Array.replicate (fn.ntmps-vs.size) undef,defers:=[] } W2 m:=by
   refine⟨hs2.base,hs2.below,rfl,by simp;omega,fun t=>?_,hs2.heap,hs2.dom,hs2.ids,hs2.fr⟩;show ae _ _ _ _ (get (ck 0 avs) t) _;rw[uV];split
   ·rename_i ht
    have hlt:t<avs.length:=by omega
    have:(vs++Array.replicate (fn.ntmps-vs.size) undef).getD t undef=vs[t]'(by omega):=by
     rw[Array.getD_eq_getD_getElem?,Array.getElem?_append_left (by omega),Array.getElem?_eq_getElem (by omega)];rfl
    rw[this];exact hvs t _ _ (by simpa using getD_some hlt) (Array.getElem?_eq_getElem (by omega))
   ·exact .w (.undef _) (fun h=>by cases h)
  have main:∀{fk':Fk}(w1:Ctx fk')(fn2:FuncId)(T2:Array Value)(D2:Nat)(s:LoopState)(j:Option Code)(st':St)(a':Act)(w':World)(m':Mm)(Kv:ab→Nat→Prop),fk'.k=n→w1.w=w0.w→(∀p∈w0.F++env.map (fun p=>(get env p.1,a.tmps.getD p.1 undef)),p∈w1.F)→w1.ds=[] →
   (ri.l,aO ri fn2 T2 D2 s j)∈w1.obs→s≠.busy→(∀q∈(D,Obj.deferred (some []))::w0.obs,q∈w1.obs)→Sim B w1 st' a' w' m'→cH P fn.results.toList st' (fun _ h' n'=>Kv h' n') →
   a'.defers=[]∧∃v w4,(results fn a'.tmps).run P w'=.ok v w'∧(Instr.endLoop (w.heap.size+1)).run P w'=.ok j w4∧∃(w2:Ctx fk)(h':ab)(n':Nat)(m2:Mm),w2.w=w0.w∧w2.r=none∧k9 w2∧Kv h' n'∧Sim B w2 ⟨env,h',n',nt⟩ { a with defers:=[{ target:=.collected w.heap.size,args:=#[] }]++a.defers } w4 m2:=by
   intro fk' w1 fn2 T2 D2 s j st' a' w' m' Kv hk1 hww hF1 hds1 hrin hsb hobs1 hs' hr';refine⟨by have:=hs'.defers;rw[hds1] at this;exact this,?_⟩;unfold cH at hr';split at hr'
   ·rename_i vs' d hres;obtain⟨hdd,hkv⟩:=hr';obtain⟨us,h1,h2,h3⟩:=lK hs' _ _ _ hres hdd
    have hrun:(results fn a'.tmps).run P w'=.ok (if h:us.toArray.size=1 then us.toArray[0] else .tuple us.toArray) w':=by
     have he:results fn a'.tmps=(do
      let vs ←fn.results.mapM (jS a'.tmps)
      pure (if h:vs.size=1 then vs[0] else .tuple vs)):=rfl
     rw[he,Array.mapM_eq_mapM_toList];simp only[Sem.run_bind,Sem.run_map,h1,Result.andThen_ok,Sem.run_pure]
    obtain⟨hBl,hll,hLl,hl⟩:=hs'.fr.2.2 (ri.l,aO ri fn2 T2 D2 s j) hrin
    replace hl:w'.heap[w.heap.size+1]?=some (aO ri fn2 T2 D2 s j):=by rw[←hrl];exact hl
    replace hll:w.heap.size+1<w'.heap.size:=by rw[←hrl];exact hll
    have hno:(aO ri fn2 T2 D2 s j).isCells=false:=rfl;refine⟨_,w'.putObj (w.heap.size+1) (aO ri fn2 T2 D2 .exhausted j),hrun,run_endLoop hl hsb,?_⟩
    have hcm:∀ad v,w'.cell? ad=some v→(w'.putObj (w.heap.size+1) (aO ri fn2 T2 D2 .exhausted j)).cell? ad=some v:=fun ad v h=>qw hl hno ad v h
    have hfr':=hs'.fr.2.1
    have hold:∀t,ae B (LB m' st'.heap) m' (w'.putObj (w.heap.size+1) (aO ri fn2 T2 D2 .exhausted j)) (get env t) (a.tmps.getD t undef):=by
     intro t
     rcases nC env t with ⟨v,hv⟩|hu
     ·exact ((hfr' (get env t,a.tmps.getD t undef) (hF1 _ (List.mem_append.2 (.inr (List.mem_map.2 ⟨(t,v),hv,rfl⟩))))).2).ij hcm
     ·rw[hu];exact .w (.undef _) (fun h=>by cases h)
    have hbase:Sim B (⟨w0.w,[],none,[],[],fun ri h=>(by cases h),w0.ok⟩:Ctx ⟨0,none⟩) st' a' (w'.putObj (w.heap.size+1) (aO ri fn2 T2 D2 .exhausted j)) m':=
     Sim.put (w1:=(⟨w0.w,[],none,[],[],fun ri h=>(by cases h),w0.ok⟩:Ctx ⟨0,none⟩)) (o':=aO ri fn2 T2 D2 .exhausted j) hs' hl hno (fun _ _ h=>by cases h) (by rw[←hrl];exact hBl) hww.symm rfl (by have:=hs'.defers;rw[hds1] at this;exact this) ⟨Nat.zero_le _,(fun p hp=>by cases hp),fun q hq=>by cases hq⟩
    have hobs:∀q,q∈(D,Obj.deferred (some []))::w0.obs→B.n≤q.1∧q.1<(w'.putObj (w.heap.size+1) (aO ri fn2 T2 D2 .exhausted j)).heap.size∧¬LB m' st'.heap q.1∧(w'.putObj (w.heap.size+1) (aO ri fn2 T2 D2 .exhausted j)).heap[q.1]?=some q.2:=by
     intro q hq
     have hne:q.1≠w.heap.size+1:=by
      rcases List.mem_cons.1 hq with e|hq
      ·subst e;simp only[hD];omega
      ·have:=(hs.fr.2.2 q hq).2.1;omega
     obtain⟨o1,o2,o3,o4⟩:=hs'.fr.2.2 q (hobs1 q hq);exact⟨o1,by simpa using o2,o3,(World.putObj_heap_other hne).trans o4⟩
    refine⟨⟨w0.w,w0.F,none,(D,.deferred (some []))::w0.obs,D::w0.ds,fun ri' e=>?_,w0.ok⟩,st'.heap,st'.nxt,m',rfl,rfl,⟨?_,?_⟩,hkv,⟨hbase.base,hbase.below,?_,hs.size,hold,hbase.heap,hbase.dom,hbase.ids,Nat.le_trans hs.fr.1 (by have:=hs'.fr.1;rw[hk1] at this;exact this),fun p hp=>?_,hobs⟩⟩
    ·obtain⟨f1,T1,D1,g1,g2,g3⟩:=w0.aO ri' e;exact⟨f1,T1,D1,List.mem_cons_of_mem _ g1,g2,g3⟩
    ·refine List.nodup_cons.2 ⟨fun hin=>?_,hd.1⟩;have:=(hs.fr.2.2 _ (hd.2 D hin)).2.1;simp only[hD] at this;omega
    ·intro D' hD'
     rcases List.mem_cons.1 hD' with e|hD'
     ·subst e;simp
     ·exact List.mem_cons_of_mem _ (hd.2 D' hD')
    ·show [_]++a.defers=marks (D::w0.ds);rw[hs.defers,hD];rfl
    ·exact⟨(hs.fr.2.1 p hp).1,((hfr' p (hF1 p (List.mem_append.2 (.inl hp)))).2).ij hcm⟩
   ·exact hr'.elim
  refine bC (hw' _ _ _ _ _ hsim) (fun e a' w' hq=>?_)
  have fin1:∀(st':St)(m':Mm),cH P fn.results.toList st' (fun _ h' n'=>K .normal ⟨env,h',n',nt⟩)→Sim B (⟨w0.w,w0.F++env.map (fun p=>(get env p.1,a.tmps.getD p.1 undef)),none,(ri.l,aO ri fni a.tmps D .ready none)::(D,.deferred (some []))::w0.obs,[],hrec0,w0.ok⟩:Ctx ⟨n,some ri⟩) st' a' w' m' →
   a'.defers=[]∧∀w1x,EnvD.E w' w1x→∃v,(results fn a'.tmps).run P w1x=.ok v w1x∧vj P (w.heap.size+1) none (fun e a' w'=>∃(w1:Ctx fk)(st':St)(m':Mm),w1.w=w0.w∧w1.r=none∧k9 w1∧K e st'∧Sim B w1 st' a' w' m') { a with defers:=[{ target:=.collected w.heap.size,args:=#[] }]++a.defers } (.returned v) w1x:=by
   intro st' m' hr' hs';refine⟨(main (⟨w0.w,w0.F++env.map (fun p=>(get env p.1,a.tmps.getD p.1 undef)),none,(ri.l,aO ri fni a.tmps D .ready none)::(D,.deferred (some []))::w0.obs,[],hrec0,w0.ok⟩:Ctx ⟨n,some ri⟩) fni a.tmps D .ready none st' a' w' m' (fun h' n'=>K .normal ⟨env,h',n',nt⟩) rfl rfl (fun p hp=>hp) rfl (by simp) (by simp) (fun q hq=>List.mem_cons_of_mem _ hq) hs' hr').1,fun w1x e1=>?_⟩;obtain⟨_,v,_,h2,_⟩:=main (⟨w0.w,w0.F++env.map (fun p=>(get env p.1,a.tmps.getD p.1 undef)),none,(ri.l,aO ri fni a.tmps D .ready none)::(D,.deferred (some []))::w0.obs,[],hrec0,w0.ok⟩:Ctx ⟨n,some ri⟩) fni a.tmps D .ready none st' a' w1x m' (fun h' n'=>K .normal ⟨env,h',n',nt⟩) rfl rfl (fun p hp=>hp) rfl (by simp) (by simp) (fun q hq=>List.mem_cons_of_mem _ hq) (hs'.move e1) hr';refine⟨v,h2,fun w2x e2=>?_⟩;obtain⟨_,_,w4,_,h3,w2,h',n',m2,g1,g2,g3,g4,g5⟩:=main (⟨w0.w,w0.F++env.map (fun p=>(get env p.1,a.tmps.getD p.1 undef)),none,(ri.l,aO ri fni a.tmps D .ready none)::(D,.deferred (some []))::w0.obs,[],hrec0,w0.ok⟩:Ctx ⟨n,some ri⟩) fni a.tmps D .ready none st' a' w2x m' (fun h' n'=>K .normal ⟨env,h',n',nt⟩) rfl rfl (fun p hp=>hp) rfl (by simp) (by simp) (fun q hq=>List.mem_cons_of_mem _ hq) ((hs'.move e1).move e2) hr';exact⟨none,w4,h3,w2,_,m2,g1,g2,g3,g4,g5⟩
  have fin2:∀(w1:Ctx ⟨n,none⟩)(st':St)(m':Mm),k8 (⟨w0.w,w0.F++env.map (fun p=>(get env p.1,a.tmps.getD p.1 undef)),none,(ri.l,aO ri fni a.tmps D .ready none)::(D,.deferred (some []))::w0.obs,[],hrec0,w0.ok⟩:Ctx ⟨n,some ri⟩) w1 →
   cH P fn.results.toList st' (fun _ h' n'=>K .ret ⟨env,h',n',nt⟩)→Sim B w1 st' a' w' m' →
   a'.defers=[]∧∀w1x,EnvD.E w' w1x→∃v,(results fn a'.tmps).run P w1x=.ok v w1x∧vj P (w.heap.size+1) none (fun e a' w'=>∃(w1:Ctx fk)(st':St)(m':Mm),w1.w=w0.w∧w1.r=none∧k9 w1∧K e st'∧Sim B w1 st' a' w' m') { a with defers:=[{ target:=.collected w.heap.size,args:=#[] }]++a.defers } (.returned v) w1x:=by
   rintro w1 st' m' ⟨l1,l2,l3,l4,⟨fn2,T2,D2,l5⟩,l6⟩ hr' hs'
   have hq0:∀q∈(D,Obj.deferred (some []))::w0.obs,q∈w1.obs:=fun q hq=>l6 q (List.mem_cons_of_mem _ hq) (by
    rcases List.mem_cons.1 hq with e|hq
    ·subst e;simp only[hrl,hD];omega
    ·have:=(hs.fr.2.2 q hq).2.1;omega)
   refine⟨(main w1 fn2 T2 D2 .done (some .ret) st' a' w' m' (fun h' n'=>K .ret ⟨env,h',n',nt⟩) rfl l1 (fun p hp=>by rw[l2];exact hp) l4 l5 (by simp) hq0 hs' hr').1,fun w1x e1=>?_⟩;obtain⟨_,v,_,h2,_⟩:=main w1 fn2 T2 D2 .done (some .ret) st' a' w1x m' (fun h' n'=>K .ret ⟨env,h',n',nt⟩) rfl l1 (fun p hp=>by rw[l2];exact hp) l4 l5 (by simp) hq0 (hs'.move e1) hr';refine⟨v,h2,fun w2x e2=>?_⟩;obtain⟨_,_,w4,_,h3,w2,h',n',m2,g1,g2,g3,g4,g5⟩:=main w1 fn2 T2 D2 .done (some .ret) st' a' w2x m' (fun h' n'=>K .ret ⟨env,h',n',nt⟩) rfl l1 (fun p hp=>by rw[l2];exact hp) l4 l5 (by simp) hq0 ((hs'.move e1).move e2) hr';exact⟨some .ret,w4,h3,wH ⟨w2,_,m2,g1,g2,g3,g4,g5⟩⟩
  rcases hq with ⟨st',m',hk,hs'⟩|⟨w1,hl,st',m',hk,hs'⟩
  ·cases e with
   |normal=>exact fin1 st' m' hk hs'
   |ret=>exact fin1 st' m' hk hs'
   |_=>exact hk.elim
  ·cases e with
   |normal=>exact fin2 w1 st' m' hl hk hs'
   |ret=>exact fin2 w1 st' m' hl hk hs'
   |_=>exact hk.elim
theorem uW{g:Operand}{ps:Array Tmp}{assign body:Code}{env:Env}{h:ab}{n nt:Nat}{gf:FuncId}{av:List AV}(hf:cd (ev env g)=some (gf,av)){fn:Func}{c:Code}(hfn:P.funcs[gf]?=some fn) (hname:(fn.name == "runtime.NumGoroutine")=false) (hb:fn.body=some c) (hnt:av.length+1≤fn.ntmps) (hw:∀l,aG ⟨n,some ⟨l,env,nt,ps,assign,body⟩⟩ P c ⟨ck 0 (.w false false (.yl l)::av),h,n,fn.ntmps⟩ (dI P fn.results.toList fun _ h' n'=>K .normal ⟨env,h',n',nt⟩)):bX fk P (.rangeFunc g ps assign body) ⟨env,h,n,nt⟩ K:=
 Ah hf hfn hname hb hnt (fun l=>Ag (hw l))
theorem qy{f:FuncId}{fn:Func}{c:Code}{args:List PV}{res:PV}{fr:Bool}(hf:P.funcs[f]?=some fn) (hname:(fn.name == "runtime.NumGoroutine")=false) (hb:fn.body=some c) (hnt:args.length≤fn.ntmps) (h:bX fk0 P c ⟨dW 0 args,[],0,fn.ntmps⟩ (mA P fn.results.toList res fr)):az P f args res fr:=by
 refine⟨⟨fn,hf,hname,by rw[hb];rfl⟩,fun G w vs hok hlen hrep=>?_⟩;refine wI hf hb ?_
 have hsim:Sim ⟨w.heap.size,G⟩ (⟨w,[],none,[],[],fun ri h=>(by cases h),hok⟩:Ctx fk0) ⟨dW 0 args,[],0,fn.ntmps⟩ { tmps:=vs++Array.replicate (fn.ntmps-vs.size) undef,defers:=[] } w ⟨fun _ _=>none,fun _=>0,fun _=>False⟩:=by
  refine⟨rfl,Bel.refl _ _,rfl,by simp;omega,fun t=>?_,⟨fun id cells hin=>(by cases hin),List.Pairwise.nil⟩,fun i=>⟨fun h=>h.elim,fun h=>absurd h (Nat.not_lt_zero i)⟩,fun id c hin=>(by cases hin),Nat.zero_le _,(fun p hp=>by cases hp),fun q hq=>by cases hq⟩;show ae _ _ _ _ (get (dW 0 args) t) _;rw[ql];split
  ·rename_i ht
   have hlt:t<args.length:=by omega
   refine .w ?_ (fun h=>by cases h)
   have:(vs++Array.replicate (fn.ntmps-vs.size) undef).getD t undef=vs[t]'(by omega):=by
    rw[Array.getD_eq_getD_getElem?,Array.getElem?_append_left (by omega),Array.getElem?_eq_getElem (by omega)];rfl
   rw[this]
   refine (hrep t _ _ (by simpa using getD_some hlt) (Array.getElem?_eq_getElem (by omega))).imp fun b hg=>⟨?_,(fun h=>by cases h),fun _=>hg⟩
   rintro⟨id,cells,C,hin,_⟩
   cases hin
  ·exact .w (.undef _) (fun h=>by cases h)
 refine bC (h _ _ _ _ _ rfl ⟨List.nodup_nil,fun D h=>by cases h⟩ hsim) (fun e a' w' ⟨w1,st',m',g1,g2,g3,hk,hs⟩=>?_)
 have main:jb P fn.results.toList st' res fr→∀(ds:List Nat)(w1:Ctx fk0)(a1:Act)(W:World),w1.w=w→w1.ds=ds→k9 w1→Sim ⟨w.heap.size,G⟩ w1 st' a1 W m' →
  jA P fn a1.tmps (fun e w'=>∃v,e=.returned v∧Bel w.heap.size w w'∧Rep (fun b=>(b<w.heap.size→G b)∧(fr=true→w.heap.size≤b)) w' res v) (marks ds) W:=by
  intro hr ds
  induction ds with
  |nil=>
   intro w1 a1 W hw1 hds hdk hs;intro W e1;replace hs:=hs.move e1;unfold jb at hr;split at hr
   ·rename_i vs' d hres;obtain⟨hd,hfz,hfr⟩:=hr;obtain⟨us,h1,h2,h3⟩:=lK hs _ _ _ hres hd
    have hrun:(results fn a1.tmps).run P W=.ok (if h:us.toArray.size=1 then us.toArray[0] else .tuple us.toArray) W:=by
     have he:results fn a1.tmps=(do
      let vs ←fn.results.mapM (jS a1.tmps)
      pure (if h:vs.size=1 then vs[0] else .tuple vs)):=rfl
     rw[he,Array.mapM_eq_mapM_toList];simp only[Sem.run_bind,Sem.run_map,h1,Result.andThen_ok,Sem.run_pure]
    have hone:ae ⟨w.heap.size,G⟩ (LB m' st'.heap) m' W (oneOf vs') (if h:us.toArray.size=1 then us.toArray[0] else .tuple us.toArray):=by
     have tupc:vs'.length≠1→ae ⟨w.heap.size,G⟩ (LB m' st'.heap) m' W (.tup vs') (if h:us.toArray.size=1 then us.toArray[0] else .tuple us.toArray):=by
      intro hne;rw[dif_neg (by simp;omega)];exact .tup (by simpa using h2) (fun j p u hp hu=>h3 j p u hp (by simpa using hu))
     match vs',h2,h3,tupc with
     |[],h2,h3,tupc=>exact tupc (by simp)
     |[v],h2,h3,tupc=>
      obtain⟨u,rfl⟩:∃u,us=[u]:=List.length_eq_one_iff.1 (by simpa using h2.symm);exact h3 0 v u rfl rfl
     |v::v2::r,h2,h3,tupc=>exact tupc (by simp)
    refine⟨_,hrun,_,rfl,?_,?_⟩
    ·have hbl:=hs.below;rw[hw1] at hbl;exact hbl
    exact iu (B:=⟨w.heap.size,G⟩) hs.heap (fun id cs e=>cn e) fr (fun b hb=>⟨fun hl=>by simp only at hb;omega,fun _=>hb⟩) (fun hf b hg=>⟨hg.2.2,fun h=>by rw[hf] at h;cases h⟩) 6 _ _ _ hfz hfr hone
   ·exact hr.elim
  |cons D ds ih=>
   intro w1 a1 W hw1 hds hdk hs;intro W e1;replace hs:=hs.move e1;obtain⟨hBD,hDl,hLD,hDh⟩:=hs.fr.2.2 _ (hdk.2 D (by rw[hds];simp));refine⟨D,_,rfl,run_takeDeferred hDh,?_⟩;have hnd:=hdk.1;rw[hds] at hnd;obtain⟨hn1,hn2⟩:=List.nodup_cons.1 hnd;refine ih (⟨w1.w,[],none,w1.obs.filter (fun q=>decide (q.1≠D)),ds,fun ri h=>(by cases h),w1.ok⟩:Ctx fk0) { a1 with defers:=marks ds } _ hw1 rfl ⟨hn2,fun D' hD'=>List.mem_filter.2 ⟨hdk.2 D' (by rw[hds];simp[hD']),by simp;rintro rfl;exact hn1 hD'⟩⟩ ?_;refine Sim.put (w1:=(⟨w1.w,[],none,w1.obs.filter (fun q=>decide (q.1≠D)),ds,fun ri h=>(by cases h),w1.ok⟩:Ctx fk0)) (o':=.deferred none) hs hDh rfl (fun _ _ h=>by cases h) hBD rfl rfl rfl ⟨Nat.zero_le _,(fun p hp=>by cases hp),fun q hq=>?_⟩;obtain⟨hq,hne⟩:=List.mem_filter.1 hq;obtain⟨o1,o2,o3,o4⟩:=hs.fr.2.2 q hq;exact⟨o1,by simpa using o2,o3,(World.putObj_heap_other (by simpa using hne)).trans o4⟩
 cases e with
 |normal=>
  show jA _ _ _ _ a'.defers _;rw[hs.defers];exact main hk _ _ _ _ g1 rfl g3 hs
 |ret=>
  show jA _ _ _ _ a'.defers _;rw[hs.defers];exact main hk _ _ _ _ g1 rfl g3 hs
 |_=>exact hk.elim
end
section
variable{P:Program}{K:Exit→St→Prop}{st st':St}
end
section
variable{P:Program}{K:Exit→St→Prop}
theorem lO{ops:Array Oper}{nt:Nat}{B:Base}{w0:Ctx fk}{Kr:Env→ab→Nat→Prop}{Q:Exit→Act→World→Prop}(rest:List Oper)(hQ:∀e h n a w m,Kr e h n→Sim B w0 ⟨e,h,n,nt⟩ a w m→dw w0.r P ops Q rest a w):∀(os:List Oper)(e:Env)(h:ab)(n:Nat)(a:Act)(w:World)(m:Mm),aQ P ops nt os e h n Kr→Sim B w0 ⟨e,h,n,nt⟩ a w m→dw w0.r P ops Q (os++rest) a w
 |[],e,h,n,a,w,m,hk,hs=>hQ e h n a w m hk hs
 |o::os,e,h,n,a,w,m,hk,hs=>by
  simp only[aQ] at hk;split at hk
  ·rename_i g hg;have hw:=j4 hg hs;simp only[List.cons_append,dw,hw];intro w e1;replace hs:=hs.move e1
   cases g with
   |true=>
    simp only[if_true];exact eO (oZ (hk.2.1 rfl)) (o6 w0 o (K:=fun v h' n'=>aQ P ops nt os (put e o.dst v) h' n' Kr) (hk.2.1 rfl) hs hk.1 Q _ (fun v h' n' a' w' m' hk' hs'=>lO rest hQ os _ _ _ _ _ m' hk' hs'))
   |false=>
    simp only[Bool.false_eq_true,if_false];refine lO rest hQ os _ _ _ _ _ m (hk.2.2 rfl) ⟨hs.base,hs.below,by rw[fC];exact hs.defers,by rw[fB];exact hs.size,?_,hs.heap,hs.dom,hs.ids,hs.fr⟩;exact iv e a o.dst _ _ (by rw[hs.size];exact hk.1) (.tup rfl (fun j p v hp=>by simp at hp)) hs.env
  ·exact hk.elim
def YW(P:Program)(ri:RI)(nt:Nat)(e:Env)(h:ab)(n:Nat)(o:Oper)(K:Env→ab→Nat→Prop):Prop:=
 match o.op with
 |.call { callee:=.value f,args:=args,argTypes:=_ }=>dOk nt o.dst∧(∃ow fl,ev e f=.w ow fl (.yl ri.l)) ∧
   Round P ri (args.toList.map (ev e)) h n (fun h' n'=>K (put e o.dst (.w false false (.bool true))) h' n')
 |_=>False
def gYW(P:Program)(ri:RI)(ops:Array Oper)(nt:Nat)(e:Env)(h:ab)(n:Nat)(o:Oper)(K:Env→ab→Nat→Prop):Prop:=
 match cg ops e o with
 |some g=>dOk nt o.dst∧(g=true→YW P ri nt e h n o K)∧(g=false→K (put e o.dst (.tup [])) h n)
 |none=>False
theorem Hs{k:Nat}{ri:RI}{id:Nat}{ops:Array Oper}{env:Env}{h:ab}{n nt:Nat}(pre:List Oper)(o:Oper)(post:List Oper)(hops:ops.toList=pre++o::post)(hk:aQ P ops nt pre env h n fun e' h' n'=>gYW P ri ops nt e' h' n' o fun e'' h'' n''=>aQ P ops nt post e'' h'' n'' fun e3 h3 n3=>K .normal ⟨e3,h3,n3,nt⟩):aG ⟨k,some ri⟩ P (.region id ops false) ⟨env,h,n,nt⟩ K:=by
 intro B w0 a w m hs;refine lA ?_;rw[hops];refine lO (o::post) ?_ pre env h n a w m hk hs;intro e h n a w m hy hs;unfold gYW at hy;split at hy
 ·rename_i g hg;have hw:=j4 hg hs;simp only[dw,hw];intro w e1;replace hs:=hs.move e1
  have hrest:∀e'' h'' n'' a'' w'' m'',(aQ P ops nt post e'' h'' n'' fun e3 h3 n3=>K .normal ⟨e3,h3,n3,nt⟩)→Sim B w0 ⟨e'',h'',n'',nt⟩ a'' w'' m''→dw w0.r P ops (fun e a' w'=>∃st' m',K e st'∧Sim B w0 st' a' w' m') post a'' w'':=
   fun e'' h'' n'' a'' w'' m'' hk' hs'=>iw (fun _ _ _ _ _ m hk' hs'=>⟨_,m,hk',hs'⟩) post _ _ _ _ _ m'' hk' hs'
  cases g with
  |true=>
   simp only[if_true];have hy1:=hy.2.1 rfl;unfold YW at hy1;split at hy1
   ·rename_i f args tys ho;obtain⟨hdk,⟨ow,fl,hf⟩,hr⟩:=hy1;exact Hq o f args tys ho hf (Kv:=fun v h' n'=>v=.w false false (.bool true)∧aQ P ops nt post (put e o.dst (.w false false (.bool true))) h' n' fun e3 h3 n3=>K .normal ⟨e3,h3,n3,nt⟩)
     ⟨hr.1,hr.2.1,mV hr.2.2 (fun e s hk=>by
       cases e with
       |normal=>exact mV hk (fun e s hk=>by
         cases e with
         |normal=>
          obtain⟨h',n',nt',h1,h2⟩:=hk;exact⟨h',n',nt',h1,rfl,h2⟩
         |_=>exact hk.elim)
       |_=>exact hk.elim)⟩ hs hdk _ _ (fun v h' n' a' w' m' hkv hs'=>by
        obtain⟨rfl,hkv⟩:=hkv
        exact hrest _ _ _ _ _ m' hkv hs')
   ·exact hy1.elim
  |false=>
   simp only[Bool.false_eq_true,if_false];refine hrest _ _ _ _ _ m (hy.2.2 rfl) ⟨hs.base,hs.below,by rw[fC];exact hs.defers,by rw[fB];exact hs.size,?_,hs.heap,hs.dom,hs.ids,hs.fr⟩;exact iv e a o.dst _ _ (by rw[hs.size];exact hy.1) (.tup rfl (fun j p v hp=>by simp at hp)) hs.env
 ·exact hy.elim
def IW(P:Program)(nt:Nat)(e:Env)(h:ab)(n:Nat)(o:Oper)(g:FuncId)(av:List AV)(fn:Func)(c:Code)(args:List AV)(K:Env→ab→Nat→Prop):Prop:=
 dOk nt o.dst∧o.guard=none∧aG ⟨n,none⟩ P c ⟨ck 0 (args++av),h,n,fn.ntmps⟩ (dI P fn.results.toList fun v h' n'=>K (put e o.dst v) h' n')
theorem Ht{id:Nat}{ops:Array Oper}{env:Env}{h:ab}{n nt:Nat}(pre:List Oper)(o:Oper)(post:List Oper)(hops:ops.toList=pre++o::post){f:Operand}{args:Array Operand}{tys:Array TypeId}(ho:o.op=.call { callee:=.value f,args:=args,argTypes:=tys }){g:FuncId}{fn:Func}{c:Code}(hfn:P.funcs[g]?=some fn) (hname:(fn.name == "runtime.NumGoroutine")=false) (hb:fn.body=some c) (hk:aQ P ops nt pre env h n fun e' h' n'=>∃av,cd (ev e' f)=some (g,av)∧(args.toList.map (ev e')++av).length≤fn.ntmps∧IW P nt e' h' n' o g av fn c (args.toList.map (ev e')) fun e'' h'' n''=>aQ P ops nt post e'' h'' n'' fun e3 h3 n3=>K .normal ⟨e3,h3,n3,nt⟩):aG fk P (.region id ops false) ⟨env,h,n,nt⟩ K:=by
 intro B w0 a w m hs;refine lA ?_;rw[hops];refine lO (o::post) ?_ pre env h n a w m hk hs
 rintro e h n a w m ⟨av,hf,hnt,hdk,hgu,hw⟩ hs
 have hrest:∀e'' h'' n'' a'' w'' m'',(aQ P ops nt post e'' h'' n'' fun e3 h3 n3=>K .normal ⟨e3,h3,n3,nt⟩)→Sim B w0 ⟨e'',h'',n'',nt⟩ a'' w'' m''→dw w0.r P ops (fun e a' w'=>∃st' m',K e st'∧Sim B w0 st' a' w' m') post a'' w'':=
  fun e'' h'' n'' a'' w'' m'' hk' hs'=>iw (fun _ _ _ _ _ m hk' hs'=>⟨_,m,hk',hs'⟩) post _ _ _ _ _ m'' hk' hs'
 simp only[dw,Region.wanted,hgu,if_true];intro w e1;replace hs:=hs.move e1;exact eO (fun c e=>by rw[ho] at e;cases e) (Ad o f args tys ho hf hfn hname hb hnt none (fun _ h=>by cases h) hw hs hdk _ _ (fun v h' n' a' w' m' hkv hs'=>hrest _ _ _ _ _ m' hkv hs'))
end
def EqV(x:AV)(E:List (List AV))(v:AV):Prop:=x=v∧E=[]
def EqE(x:AV)(h':ab)(n':Nat)(v:AV)(h:ab)(n:Nat):Prop:=x=v∧h'=h∧n'=n
section
omit [ah]
@[congr] theorem Tt{x x' v:AV}{E E':List (List AV)}(h:x=x')(h2:E=E'):EqV x E v=EqV x' E' v:=by rw[h,h2]
@[congr] theorem Tu{x x' v:AV}{h h' h0:ab}{n n' n0:Nat}(e1:x=x')(e2:h=h')(e3:n=n'):EqE x h n v h0 n0=EqE x' h' n' v h0 n0:=by rw[e1,e2,e3]
theorem MY{o f:Bool}{p:PV}{h:ab}{n:Nat}:EqE (.w o f p) h n (.w o f p) h n:=⟨rfl,rfl,rfl⟩
theorem Ih{a b c:Nat}{h:ab}{n:Nat}:EqE (.ptr a b c) h n (.ptr a b c) h n:=⟨rfl,rfl,rfl⟩
end
section
variable{P:Program}{ops:Array Oper}{nt:Nat}{env:Env}{h:ab}{n:Nat}
theorem AA{op:Op}{K K':AV→List (List AV)→Prop}(hq:aL P env h n op K)(hk:∀v E,K v E→K' v E):aL P env h n op K':=by
 unfold aL at *;split
 ·rename_i f args tys;simp only at hq;split at hq
  ·rename_i g av e;unfold lU at *;split at hq
   ·rename_i pvs e2
    rcases hq with ⟨res,fr,h1,h2,h3⟩|⟨E,v,h1,h3⟩
    ·exact .inl ⟨res,fr,h1,h2,hk _ _ h3⟩
    ·exact .inr ⟨E,v,h1,hk _ _ h3⟩
   ·exact hq.elim
  ·exact hq.elim
 ·rename_i hne;split at hq
  ·rename_i f args tys;exact (hne f args tys rfl).elim
  ·split at hq
   ·exact⟨hq.1,hk _ _ hq.2⟩
   ·exact hq.elim
omit [ah] in
theorem Ii{t:TypeId}{ad x:Operand}{K K':AV→ab→Nat→Prop}(hq:iO P env h n t ad x K)(hk:∀v h' n',K v h' n'→K' v h' n'):iO P env h n t ad x K':=by
 unfold iO at *;split at hq
 ·split at hq
  ·exact⟨hq.1,hk _ _ _ hq.2⟩
  ·exact hq.elim
 ·exact hq.elim
omit [ah] in
theorem Ij{args:List Operand}{tys:List TypeId}{K K':AV→ab→Nat→Prop}(hq:iN P env h n args tys K)(hk:∀v h' n',K v h' n'→K' v h' n'):iN P env h n args tys K':=by
 unfold iN at *;split at hq
 ·split at hq
  ·split at hq
   ·split at hq
    ·split at hq
     ·exact⟨hq.1,hk _ _ _ hq.2⟩
     ·exact hq.elim
    ·rename_i own k cells e;generalize hb:(own&&decide (k=0)&&cells.isEmpty)=bb at hq ⊢;cases bb
     ·simp only[cond_false] at hq ⊢;split at hq
      ·exact⟨hq.1,hk _ _ _ hq.2⟩
      ·exact hq.elim
     ·exact⟨hq.1,hk _ _ _ hq.2⟩
    ·exact hq.elim
   ·exact hq.elim
  ·exact hq.elim
 ·exact hq.elim
theorem Ik{src dst:TypeId}{x:Operand}{K K':AV→ab→Nat→Prop}(hq:kK P env h n src dst x K)(hk:∀v h' n',K v h' n'→K' v h' n'):kK P env h n src dst x K':=by
 unfold kK at *;split at hq
 ·exact⟨hq.1,hk _ _ _ hq.2⟩
 ·exact AA hq fun v E hK=>hk _ _ _ hK
omit [ah] in
theorem Il{t:TypeId}{x k v:Operand}{K K':AV→ab→Nat→Prop}(hq:iQ P env h n t x k v K)(hk:∀v h' n',K v h' n'→K' v h' n'):iQ P env h n t x k v K':=by
 unfold iQ at *;split at hq
 ·split at hq
  ·exact⟨hq.1,hk _ _ _ hq.2⟩
  ·exact hq.elim
 ·exact hq.elim
omit [ah] in
theorem Im{args:List Operand}{tys:List TypeId}{K K':AV→ab→Nat→Prop}(hq:iP P env h n args tys K)(hk:∀v h' n',K v h' n'→K' v h' n'):iP P env h n args tys K':=by
 unfold iP at *;split at hq
 ·exact⟨hq.1,hk _ _ _ hq.2⟩
 ·exact hq.elim
theorem Io{op:Op}{K K':AV→ab→Nat→Prop}(hq:aN P env h n op K)(hk:∀v h' n',K v h' n'→K' v h' n'):aN P env h n op K':=by
 unfold aN at *;split
 ·exact Ii hq hk
 ·exact Ij hq hk
 ·exact Im hq hk
 ·exact Ik hq hk
 ·exact⟨hq.1,hk _ _ _ hq.2⟩
 ·exact Il hq hk
 ·rename_i h1 h2 h3 h4 h5 h6;split at hq
  ·exact (h1 _ _ _ rfl).elim
  ·exact (h2 _ _ rfl).elim
  ·exact (h3 _ _ rfl).elim
  ·exact (h4 _ _ _ rfl).elim
  ·exact (h5 _ rfl).elim
  ·exact (h6 _ _ _ _ rfl).elim
  ·exact AA hq fun v E hK=>hk _ _ _ hK
section
variable{op:Op}{b:Bool}{v:AV}
theorem Ip{K:AV→ab→Nat→Prop}{mk:Mark K}(hx:b=true→aN P env h n op fun v' h' n'=>EqE v' h' n' v h n)(hk:K (gdV b v) h n):gE (some b) P env h n op K mk:=by
 refine⟨fun hb=>?_,fun hb=>?_⟩
 ·refine Io (hx hb) ?_
  rintro v' h' n' ⟨rfl,rfl,rfl⟩
  rw[hb,G6] at hk;exact hk
 ·rw[hb,G7] at hk;exact hk
end
end
theorem ai{P:Program}{g:FuncId}{args args':List PV}{K:PV→Bool→Prop}{K2:List (List AV)→AV→Prop}{res:PV}{fr:Bool}{mk:Mark (K,K2)}(h:az P g args res fr)(e:args'=args)(hk:K res fr):CW P g args' K K2 mk:=.inl ⟨res,fr,e▸h,hk⟩
section
variable{P:Program}{K:Exit→St→Prop}
@[simp ↓] theorem Tv(b:Code)(s:St):rp fk P b K .normal s=bX fk P b s K:=rfl
@[simp ↓] theorem Tx(b:Code)(s:St):rp fk P b K .ret s=K .ret s:=rfl
@[simp ↓] theorem Ty(b:Code)(id:Nat)(s:St):rp fk P b K (.exit id) s=K (.exit id) s:=rfl
@[congr] theorem TA{c:Code}{st st':St}(h:st=st'):bX fk P c st K=bX fk P c st' K:=by rw[h]
def rr(P:Program)(ri:RI)(avs:List AV)(h:ab)(n:Nat)(K:ab→Nat→Prop)(_:Mark (ri,K)):Prop:=Round P ri avs h n K
@[congr] theorem TB{ri:RI}{avs avs':List AV}{h h':ab}{n n':Nat}{K:ab→Nat→Prop}{mk:Mark (ri,K)}(e1:avs=avs')(e2:h=h')(e3:n=n'):rr P ri avs h n K mk=rr P ri avs' h' n' K mk:=by rw[e1,e2,e3]
theorem vb{ri:RI}{avs:List AV}{h:ab}{n:Nat}{K:ab→Nat→Prop}{mk:Mark (ri,K)}(h1:avs.length=ri.ps.size)(h2:∀t∈ri.ps,t<ri.nt)(hk:aG ⟨n,none⟩ P ri.assign ⟨ik ri.env ri.ps.toList avs,h,n,ri.nt⟩ (oe P n ri.body K)):rr P ri avs h n K mk:=⟨h1,h2,hk⟩
@[simp ↓] theorem TC(k:Nat)(body:Code)(K:ab→Nat→Prop)(s:St):oe P k body K .normal s=aG ⟨k,none⟩ P body s (mE k K):=rfl
theorem AB{k:Nat}{K:ab→Nat→Prop}{s:St}(h':ab)(n':Nat)(nt':Nat)(hle:Lek ⟨k,none⟩ s ⟨[],h',n',nt'⟩)(hk:K h' n'):mE k K .normal s:=⟨h',n',nt',hle,hk⟩
@[congr] theorem TD{k:Nat}{K:ab→Nat→Prop}{e e':Exit}{s s':St}(h1:e=e')(h2:s=s'):mE k K e s=mE k K e' s':=by rw[h1,h2]
@[congr] theorem TE{k:Nat}{body:Code}{K:ab→Nat→Prop}{e e':Exit}{s s':St}(h1:e=e')(h2:s=s'):oe P k body K e s=oe P k body K e' s':=by rw[h1,h2]
section
variable{ri:RI}{ops:Array Oper}{nt:Nat}{e:Env}{h:ab}{n:Nat}{dst:Option Tmp}{op:Op}{ty:TypeId}{pos:String}{after:Array Edge}{j:Nat}{want:Bool}{Kr:Env→ab→Nat→Prop}
def yM(P:Program)(ri:RI)(nt:Nat)(e:Env)(h:ab)(n:Nat)(o:Oper)(K:Env→ab→Nat→Prop)(_:Mark K):Prop:=YW P ri nt e h n o K
@[congr] theorem TF{e e':Env}{h h':ab}{n n':Nat}{o:Oper}{K:Env→ab→Nat→Prop}{mk:Mark K}(e1:e=e')(e2:h=h')(e3:n=n'):yM P ri nt e h n o K mk=yM P ri nt e' h' n' o K mk:=by rw[e1,e2,e3]
def gY(P:Program)(ri:RI)(ops:Array Oper)(nt:Nat)(e:Env)(h:ab)(n:Nat)(o:Oper)(K:Env→ab→Nat→Prop)(_:Mark K):Prop:=gYW P ri ops nt e h n o K
@[congr] theorem TG{e e':Env}{h h':ab}{n n':Nat}{o:Oper}{K:Env→ab→Nat→Prop}{mk:Mark K}(e1:e=e')(e2:h=h')(e3:n=n'):gY P ri ops nt e h n o K mk=gY P ri ops nt e' h' n' o K mk:=by rw[e1,e2,e3]
def gYm(g:Option Bool)(P:Program)(ri:RI)(nt:Nat)(e:Env)(h:ab)(n:Nat)(o:Oper)(K:Env→ab→Nat→Prop)(_:Mark K):Prop:=gW g (YW P ri nt e h n o K) (K (put e o.dst (.tup [])) h n)
@[congr] theorem TH{g g':Option Bool}{e:Env}{h:ab}{n:Nat}{o:Oper}{K:Env→ab→Nat→Prop}{mk:Mark K}(e0:g=g'):gYm g P ri nt e h n o K mk=gYm g' P ri nt e h n o K mk:=by rw[e0]
@[simp] theorem TI{o:Oper}{mk:Mark Kr}:gYm (some true) P ri nt e h n o Kr mk=YW P ri nt e h n o Kr:=by unfold gYm;exact uL _ _
@[simp] theorem TJ{o:Oper}{mk:Mark Kr}:gYm (some false) P ri nt e h n o Kr mk=Kr (put e o.dst (.tup [])) h n:=by unfold gYm;exact uM _ _
@[simp ↓] theorem TK{mk:Mark Kr}:gY P ri ops nt e h n ⟨dst,op,ty,pos,after,some (j,want)⟩ Kr mk=(dOk nt dst∧gYm (gOf ops e j want) P ri nt e h n ⟨dst,op,ty,pos,after,some (j,want)⟩ Kr .it):=by
 unfold gY gYW;rw[uN]
 cases gOf ops e j want<;>simp[gYm,gW]
@[simp ↓] theorem TL{f:Operand}{args:Array Operand}{tys:Array TypeId}{g:Option (Nat×Bool)}:YW P ri nt e h n ⟨dst,.call ⟨.value f,args,tys⟩,ty,pos,after,g⟩ Kr=(dOk nt dst∧(∃ow fl,ev e f=.w ow fl (.yl ri.l))∧rr P ri (args.toList.map (ev e)) h n (fun h' n'=>Kr (put e dst (.w false false (.bool true))) h' n') .it):=rfl
end
theorem qB{k:Nat}{ri:RI}{id:Nat}{ops:Array Oper}{env:Env}{h:ab}{n nt:Nat}(i:Nat)(hi:i<ops.toList.length)(hk:aQ P ops nt (ops.toList.take i) env h n fun e' h' n'=>gY P ri ops nt e' h' n' (ops.toList.getD i default) (fun e'' h'' n''=>aQ P ops nt (ops.toList.drop (i+1)) e'' h'' n'' fun e3 h3 n3=>K .normal ⟨e3,h3,n3,nt⟩) .it):aG ⟨k,some ri⟩ P (.region id ops false) ⟨env,h,n,nt⟩ K:=by
 refine Hs (ops.toList.take i) (ops.toList.getD i default) (ops.toList.drop (i+1)) ?_ hk
 have e:ops.toList.getD i default=ops.toList[i]:=by simp[List.getD_eq_getElem?_getD,List.getElem?_eq_getElem hi]
 rw[e,List.getElem_cons_drop,List.take_append_drop]
end
section
variable{P:Program}{K:Exit→St→Prop}
def Cw(fk:Fk)(P:Program)(ops:Array Oper)(nt:Nat)(os:List Oper)(e:Env)(h:ab)(n:Nat)(K:Env→ab→Nat→Prop)(_:Mark (os,K)):Prop:=
 ∃e2 h2 n2,Lek fk ⟨e,h,n,nt⟩ ⟨e2,h2,n2,nt⟩∧aQ P ops nt os e2 h2 n2 K
@[congr] theorem TU{ops:Array Oper}{nt:Nat}{os:List Oper}{e e':Env}{h h':ab}{n n':Nat}{K:Env→ab→Nat→Prop}{mk:Mark (os,K)}(h1:e=e')(h2:h=h')(h3:n=n'):Cw fk P ops nt os e h n K mk=Cw fk P ops nt os e' h' n' K mk:=by rw[h1,h2,h3]
end
section
variable{P:Program}{K:Exit→St→Prop}
def rA(P:Program)(ops:Array Oper)(nt:Nat)(o:Oper)(post:List Oper)(g:FuncId)(fn:Func)(c:Code)(args:Array Operand)(e:Env)(h:ab)(n:Nat)(K:Env→ab→Nat→Prop)(_:Mark (o,post,c,K)):Prop:=
 ∃av,cd (ev e (.func g))=some (g,av)∧(args.toList.map (ev e)++av).length≤fn.ntmps∧IW P nt e h n o g av fn c (args.toList.map (ev e)) fun e'' h'' n''=>aQ P ops nt post e'' h'' n'' K
@[congr] theorem TV{ops:Array Oper}{nt:Nat}{o:Oper}{post:List Oper}{g:FuncId}{fn:Func}{c:Code}{args:Array Operand}{e e':Env}{h h':ab}{n n':Nat}{K:Env→ab→Nat→Prop}{mk:Mark (o,post,c,K)}(h1:e=e')(h2:h=h')(h3:n=n'):rA P ops nt o post g fn c args e h n K mk=rA P ops nt o post g fn c args e' h' n' K mk:=by rw[h1,h2,h3]
theorem AP{ops:Array Oper}{nt:Nat}{o:Oper}{post:List Oper}{g:FuncId}{fn:Func}{c:Code}{args:Array Operand}{e:Env}{h:ab}{n:Nat}{K:Env→ab→Nat→Prop}{mk:Mark (o,post,c,K)}(hl:args.toList.length≤fn.ntmps)(hd:dOk nt o.dst)(hg:o.guard=none)(hk:aG ⟨n,none⟩ P c ⟨ck 0 (args.toList.map (ev e)),h,n,fn.ntmps⟩ (dI P fn.results.toList fun v h' n'=>aQ P ops nt post (put e o.dst v) h' n' K)):rA P ops nt o post g fn c args e h n K mk:=
 ⟨[],rfl,by rw[List.append_nil,List.length_map];exact hl,hd,hg,by rw[List.append_nil];exact hk⟩
theorem nI{id:Nat}{ops:Array Oper}{env:Env}{h:ab}{n nt:Nat}(i:Nat){g:FuncId}{fn:Func}{c:Code}(hfn:P.funcs[g]?=some fn) (hname:(fn.name == "runtime.NumGoroutine")=false) (hb:fn.body=some c) (hi:i<ops.toList.length) {args:Array Operand} {tys:Array TypeId} (ho:(ops.toList.getD i default).op=.call { callee:=.value (.func g),args:=args,argTypes:=tys }) (hk:aQ P ops nt (ops.toList.take i) env h n fun e' h' n'=>rA P ops nt (ops.toList.getD i default) (ops.toList.drop (i+1)) g fn c args e' h' n' (fun e3 h3 n3=>K .normal ⟨e3,h3,n3,nt⟩) .it):aG fk P (.region id ops false) ⟨env,h,n,nt⟩ K:=by
 refine Ht (ops.toList.take i) (ops.toList.getD i default) (ops.toList.drop (i+1)) ?_ ho hfn hname hb hk
 have e:ops.toList.getD i default=ops.toList[i]:=by simp[List.getD_eq_getElem?_getD,List.getElem?_eq_getElem hi]
 rw[e,List.getElem_cons_drop,List.take_append_drop]
end
def M1(P:Program)(f:FuncId)(args:List AV)(h:ab)(n:Nat)(id:Nat)(c:List AV)(v:AV):Prop:=
 vr P f∧∀(B:Base)(m:Mm)(w:World)(vs:Array Value),B.n≤w.heap.size→aI B h m w→(∀i c,(i,c)∈h→m.dom i)→args.length=vs.size→(∀(j:Nat)(p:AV)(u:Value),args[j]?=some p→vs[j]?=some u→ae B (LB m h) m w p u) →
  fb P f vs w fun e w'=>∃u m',e=.returned u∧EPost B h m w n (a7 h id c) n v u w' m'
section
variable{P:Program}{B:Base}{env:Env}{h:ab}{n nt:Nat}{a:Act}{w:World}{m:Mm}
def CB(P:Program)(ops:Array Oper)(nt:Nat)(o:Oper)(post:List Oper)(g:FuncId)(args:Array Operand)(e:Env)(h:ab)(n:Nat)(K:Env→ab→Nat→Prop)(_:Mark (o,post,K)):Prop:=
 dOk nt o.dst∧o.guard=none∧∃id c v,M1 P g (args.toList.map (ev e)) h n id c v∧aQ P ops nt post (put e o.dst v) (a7 h id c) n K
omit [ah] in
@[congr] theorem TZ[ah]{ops:Array Oper}{nt:Nat}{o:Oper}{post:List Oper}{g:FuncId}{args:Array Operand}{e e':Env}{h h':ab}{n n':Nat}{K:Env→ab→Nat→Prop}{mk:Mark (o,post,K)}(h1:e=e')(h2:h=h')(h3:n=n'):CB P ops nt o post g args e h n K mk=CB P ops nt o post g args e' h' n' K mk:=by rw[h1,h2,h3]
end
section
variable{P:Program}{K:Exit→St→Prop}
def IWY(r:Option RI)(P:Program)(nt:Nat)(e:Env)(h:ab)(n:Nat)(o:Oper)(g:FuncId)(av:List AV)(fn:Func)(c:Code)(args:List AV)(K:Env→ab→Nat→Prop):Prop:=
 dOk nt o.dst∧o.guard=none∧aG ⟨n,r⟩ P c ⟨ck 0 (args++av),h,n,fn.ntmps⟩ (dI P fn.results.toList fun v h' n'=>K (put e o.dst v) h' n')
def CC(r:Option RI)(P:Program)(ops:Array Oper)(nt:Nat)(o:Oper)(post:List Oper)(f:Operand)(g:FuncId)(fn:Func)(c:Code)(args:Array Operand)(e:Env)(h:ab)(n:Nat)(K:Env→ab→Nat→Prop)(_:Mark (o,post,c,K)):Prop:=
 ∃av,cd (ev e f)=some (g,av)∧(args.toList.map (ev e)++av).length≤fn.ntmps∧IWY r P nt e h n o g av fn c (args.toList.map (ev e)) fun e'' h'' n''=>aQ P ops nt post e'' h'' n'' K
@[congr] theorem T0{r:Option RI}{ops:Array Oper}{nt:Nat}{o:Oper}{post:List Oper}{f:Operand}{g:FuncId}{fn:Func}{c:Code}{args:Array Operand}{e e':Env}{h h':ab}{n n':Nat}{K:Env→ab→Nat→Prop}{mk:Mark (o,post,c,K)}(h1:e=e')(h2:h=h')(h3:n=n'):CC r P ops nt o post f g fn c args e h n K mk=CC r P ops nt o post f g fn c args e' h' n' K mk:=by rw[h1,h2,h3]
end
section
variable{P:Program}{env:Env}{h:ab}{n nt:Nat}
end
section
variable{P:Program}{env:Env}{h:ab}{n nt:Nat}
def rC(r:Option RI)(P:Program)(ops:Array Oper)(nt:Nat)(o:Oper)(post:List Oper)(f:Operand)(g:FuncId)(fn:Func)(c:Code)(args:Array Operand)(e:Env)(h:ab)(n:Nat)(K:Env→ab→Nat→Prop)(_:Mark (o,post,c,K)):Prop:=
 ∃av,cd (ev e f)=some (g,av)∧(args.toList.map (ev e)++av).length≤fn.ntmps∧dOk nt o.dst∧cg ops e o=some true∧aG ⟨n,r⟩ P c ⟨ck 0 (args.toList.map (ev e)++av),h,n,fn.ntmps⟩ (dI P fn.results.toList fun v h' n'=>aQ P ops nt post (put e o.dst v) h' n' K)
@[congr] theorem T3{r:Option RI}{ops:Array Oper}{nt:Nat}{o:Oper}{post:List Oper}{f:Operand}{g:FuncId}{fn:Func}{c:Code}{args:Array Operand}{e e':Env}{h h':ab}{n n':Nat}{K:Env→ab→Nat→Prop}{mk:Mark (o,post,c,K)}(h1:e=e')(h2:h=h')(h3:n=n'):rC r P ops nt o post f g fn c args e h n K mk=rC r P ops nt o post f g fn c args e' h' n' K mk:=by rw[h1,h2,h3]
theorem AU{r:Option RI}{ops:Array Oper}{nt:Nat}{o:Oper}{post:List Oper}{f:Operand}{g:FuncId}{fn:Func}{c:Code}{args:Array Operand}{e:Env}{h:ab}{n:Nat}{K:Env→ab→Nat→Prop}{mk:Mark (o,post,c,K)}(av:List AV)(hf:cd (ev e f)=some (g,av))(hl:args.toList.length+av.length≤fn.ntmps)(hd:dOk nt o.dst)(hg:cg ops e o=some true)(hk:aG ⟨n,r⟩ P c ⟨ck 0 (args.toList.map (ev e)++av),h,n,fn.ntmps⟩ (dI P fn.results.toList fun v h' n'=>aQ P ops nt post (put e o.dst v) h' n' K)):rC r P ops nt o post f g fn c args e h n K mk:=
 ⟨av,hf,by rw[List.length_append,List.length_map];exact hl,hd,hg,hk⟩
theorem AW{K:Exit→St→Prop}{id:Nat}{ops:Array Oper}(k:Nat)(g:FuncId)(hm:P.follows .mixedOrders=true)(hchk:nQ ops k=true)(hkl:k<ops.size){fn:Func}{c:Code}(hfn:P.funcs[g]?=some fn) (hname:(fn.name == "runtime.NumGoroutine")=false) (hb:fn.body=some c) {f:Operand} {args:Array Operand} {tys:Array TypeId} (ho:(ops.toList.getD k default).op=.call { callee:=.value f,args:=args,argTypes:=tys }) (hk:cq P ops nt (ops.toList.take k) env h n fun e' h' n'=>rC fk.ri P ops nt (ops.toList.getD k default) (ops.toList.drop (k+1)) f g fn c args e' h' n' (fun e3 h3 n3=>K .normal ⟨e3,h3,n3,nt⟩) .it):aG fk P (.region id ops true) ⟨env,h,n,nt⟩ K:=by
 obtain⟨hc,hseq⟩:=sP hchk;refine xI k hm hc hk (fun B w0 e' h' n' hK f' listed a w m hsz hcl hl hop hs=>?_);obtain⟨av,hf,hnt,hdk,hgu,hw⟩:=hK
 cases f' with
 |zero=>
  exfalso;have:=j6 (Nat.le_zero.1 hop) (i:=k) (by omega);have:=(hl k hkl).1 this;omega
 |succ f'=>
  have hne:=lB hsz hc.down k hkl (by
   cases hq:listed.getD k false with
   |true=>have:=(hl k hkl).1 hq;omega
   |false=>rfl)
  refine⟨fun hnil=>absurd hnil hne,fun x hx2=>?_⟩;obtain⟨o,ho2,hff,he⟩:=iA hsz hx2;have hxs:=(Array.getElem?_eq_some_iff.1 ho2).1
  have hxi:x=k:=by
   have h1:¬x<k:=fun hxl=>by
    have:=(hl x hxs).2 hxl;rw[Array.getD_eq_getD_getElem?,hff] at this;cases this
   rcases Nat.lt_or_ge k x with h2|h2
   ·have:=gD hcl 8 x k o ho2 he (hseq x (by omega) hxs k h2);have:=(hl k hkl).1 this;omega
   ·omega
  subst hxi
  have hoo:ops.toList.getD x default=o:=by
   rw[List.getD_eq_getElem?_getD,Array.getElem?_toList,ho2];rfl
  rw[hoo] at ho hgu hdk hw;unfold fH;rw[ho2];simp only[];intro w e1;replace hs:=hs.move e1;rw[j4 hgu hs];simp only[if_true];refine eO (fun c e=>by rw[ho] at e;cases e) (Ad o f args tys ho hf hfn hname hb hnt fk.ri (fun _ h=>h) hw hs hdk _ _ (fun v h' n' a' w' m' hk2 hs'=>?_));refine o7 (Kr:=fun e'' h'' n''=>K .normal ⟨e'',h'',n'',nt⟩) (fun e' h' n' a' w' m' hk' hsim=>⟨_,m',hk',hsim⟩) hc.down hseq f' (x+1) (listed.setIfInBounds x true) _ _ _ a' w' m' (by omega) (by omega) (by simpa using hsz) (hcl.set ho2 he) (fun j hj=>?_) (by have:=j5 hff;omega) hk2 hs';by_cases hxj:x=j
  ·subst hxj;rw[Array.getD_eq_getD_getElem?,Array.getElem?_setIfInBounds];simp[hsz,hj]
  ·rw[getD_set_ne false hxj,hl j hj];omega
end
end Go.Fi
namespace Go.Fi
open Go Go.RowKit
variable[ah]
section
variable{k:Nat}{ri:RI}{P:Program}{K Kd K' Kd':Exit→St→Prop}{st st':St}
def mM(k:Nat)(ri:RI)(P:Program)(b:Code)(K Kd:Exit→St→Prop):Exit→St→Prop
 |.normal,s=>bQ k ri P b s K Kd
 |e,s=>K e s
def mN(k:Nat)(P:Program)(b:Code)(Kd:Exit→St→Prop):Exit→St→Prop
 |.normal,s=>aG ⟨k,none⟩ P b s Kd
 |e,s=>Kd e s
@[simp ↓] theorem T4(b:Code)(s:St):mM k ri P b K Kd .normal s=bQ k ri P b s K Kd:=rfl
@[simp ↓] theorem T5(b:Code)(s:St):mM k ri P b K Kd .ret s=K .ret s:=rfl
@[simp ↓] theorem T6(b:Code)(i:Nat)(s:St):mM k ri P b K Kd (.exit i) s=K (.exit i) s:=rfl
@[simp ↓] theorem T7(b:Code)(s:St):mN k P b Kd .normal s=aG ⟨k,none⟩ P b s Kd:=rfl
@[simp ↓] theorem T8(b:Code)(s:St):mN k P b Kd .ret s=Kd .ret s:=rfl
@[simp ↓] theorem T9(b:Code)(i:Nat)(s:St):mN k P b Kd (.exit i) s=Kd (.exit i) s:=rfl
@[congr] theorem Ua{c:Code}(h:st=st'):bQ k ri P c st K Kd=bQ k ri P c st' K Kd:=by rw[h]
@[congr] theorem Ub{b:Code}{e e':Exit}(h1:e=e')(h2:st=st'):mM k ri P b K Kd e st=mM k ri P b K Kd e' st':=by rw[h1,h2]
@[congr] theorem Uc{b:Code}{e e':Exit}(h1:e=e')(h2:st=st'):mN k P b Kd e st=mN k P b Kd e' st':=by rw[h1,h2]
theorem IL{x y:Code}(h:bQ k ri P x st (mM k ri P y K Kd) (mN k P y Kd)):bQ k ri P (.seq x y) st K Kd:=
 fun B w0 a w m hs=>rX (bC (h B w0 a w m hs) (fun e a' w' hx=>by
  rcases hx with ⟨st',m',h1,h2⟩|⟨w1,hl,st',m',h1,h2⟩
  ·cases e with
   |normal=>exact h1 B w0 a' w' m' h2
   |_=>exact .inl ⟨st',m',h1,h2⟩
  ·cases e with
   |normal=>
    have:=h1 B w1 a' w' m' h2;rw[hl.2.2.1] at this;exact bC this (fun e a2 w2 ⟨s2,m2,g1,g2⟩=>.inr ⟨w1,hl,s2,m2,g1,g2⟩)
   |_=>exact .inr ⟨w1,hl,st',m',h1,h2⟩))
theorem IM{id:Nat}{c:Code}(h:bQ k ri P c st (dD id K) (dD id Kd)):bQ k ri P (.block id c) st K Kd:=
 fun B w0 a w m hs=>rY (bC (h B w0 a w m hs) (fun e a' w' hx=>by
  rcases hx with ⟨st',m',h1,h2⟩|⟨w1,hl,st',m',h1,h2⟩
  ·cases e with
   |exit id'=>
    simp only[Exit.inBlock];simp only[dD] at h1;split
    ·rename_i hid;simp only[hid,if_true] at h1;exact .inl ⟨st',m',h1,h2⟩
    ·rename_i hid;simp only[hid,if_false] at h1;exact .inl ⟨st',m',h1,h2⟩
   |_=>exact .inl ⟨st',m',h1,h2⟩
  ·cases e with
   |exit id'=>
    simp only[Exit.inBlock];simp only[dD] at h1;split
    ·rename_i hid;simp only[hid,if_true] at h1;exact .inr ⟨w1,hl,st',m',h1,h2⟩
    ·rename_i hid;simp only[hid,if_false] at h1;exact .inr ⟨w1,hl,st',m',h1,h2⟩
   |_=>exact .inr ⟨w1,hl,st',m',h1,h2⟩))
def lp(Kd:Exit→St→Prop):Exit→St→Prop
 |.normal,_=>False
 |e,s=>Kd e s
section
omit [ah]
@[simp ↓] theorem Ud(s:St):lp Kd .ret s=Kd .ret s:=rfl
@[simp ↓] theorem Ue(i:Nat)(s:St):lp Kd (.exit i) s=Kd (.exit i) s:=rfl
@[congr] theorem Uf{e e':Exit}(h1:e=e')(h2:st=st'):lp Kd e st=lp Kd e' st':=by rw[h1,h2]
end
theorem IN{c:Code}{α:Type}(J:α→Prop)(I:α→St)(μ:α→Nat)(x0:α)(hJ:J x0)(h0:Lek ⟨k,some ri⟩ st (I x0))(round:∀x,J x→bQ k ri P c (I x) (fL ⟨k,some ri⟩ J I μ x K) (lp Kd)):bQ k ri P (.loop c) st K Kd:=by
 intro B w0 a w m hs;refine rZ (fun k a w=>∃x m,J x∧μ x=k∧Sim B w0 (I x) a w m) (μ x0) (by obtain⟨m',h⟩:=h0 B w0 a w m hs;exact⟨x0,m',hJ,rfl,h⟩) ?_
 rintro j a w ⟨x,m,hx,rfl,hsx⟩
 refine bC (round x hx B w0 a w m hsx) (fun e a' w' hq=>?_)
 rcases hq with ⟨st',m',h2,h3⟩|⟨w1,hl,st',m',h2,h3⟩
 ·cases e with
  |normal=>
   obtain⟨y,hy,hlt,hle⟩:=h2;obtain⟨m'',h4⟩:=hle B w0 a' w' m' h3;exact⟨μ y,hlt,y,m'',hy,rfl,h4⟩
  |_=>exact .inl ⟨st',m',h2,h3⟩
 ·cases e with
  |normal=>exact h2.elim
  |_=>exact .inr ⟨w1,hl,st',m',h2,h3⟩
def YW2(P:Program)(ri:RI)(nt:Nat)(o:Oper)(f:Operand)(args:Array Operand)(e:Env)(h:ab)(n:Nat)(K Kl:Env→ab→Nat→Prop)(_:Mark (K,Kl)):Prop:=
 (∃ow fl,ev e f=.w ow fl (.yl ri.l))∧Cr P ri (args.toList.map (ev e)) h n (fun h' n'=>K (put e o.dst (.w false false (.bool true))) h' n') (fun h' n'=>Kl (put e o.dst (.w false false (.bool false))) h' n')
@[congr] theorem Ug{nt:Nat}{o:Oper}{f:Operand}{args:Array Operand}{e e':Env}{h h':ab}{n n':Nat}{K Kl:Env→ab→Nat→Prop}{mk:Mark (K,Kl)}(h1:e=e')(h2:h=h')(h3:n=n'):YW2 P ri nt o f args e h n K Kl mk=YW2 P ri nt o f args e' h' n' K Kl mk:=by rw[h1,h2,h3]
theorem IP{nt:Nat}{o:Oper}{f:Operand}{args:Array Operand}{e:Env}{h:ab}{n:Nat}{K Kl:Env→ab→Nat→Prop}{mk:Mark (K,Kl)}(ow fl:Bool)(h1:ev e f=.w ow fl (.yl ri.l))(hl:args.toList.length=ri.ps.size)(hlt:∀t∈ri.ps,t<ri.nt)(hk:aG ⟨n,none⟩ P ri.assign ⟨ik ri.env ri.ps.toList (args.toList.map (ev e)),h,n,ri.nt⟩ (og P n ri.body (fun h' n'=>K (put e o.dst (.w false false (.bool true))) h' n') (fun h' n'=>Kl (put e o.dst (.w false false (.bool false))) h' n'))):YW2 P ri nt o f args e h n K Kl mk:=
 ⟨⟨ow,fl,h1⟩,by rw[List.length_map];exact hl,hlt,hk⟩
theorem IQ{id:Nat}{ops:Array Oper}{env:Env}{h:ab}{n nt:Nat}(i:Nat)(hi:i<ops.toList.length){f:Operand}{args:Array Operand}{tys:Array TypeId}(ho:(ops.toList.getD i default).op=.call { callee:=.value f,args:=args,argTypes:=tys })(hg:(ops.toList.getD i default).guard=none)(hd:dOk nt (ops.toList.getD i default).dst)(hk:aQ P ops nt (ops.toList.take i) env h n fun e' h' n'=>YW2 P ri nt (ops.toList.getD i default) f args e' h' n' (fun e'' h'' n''=>aQ P ops nt (ops.toList.drop (i+1)) e'' h'' n'' fun e3 h3 n3=>K .normal ⟨e3,h3,n3,nt⟩) (fun e'' h'' n''=>aQ P ops nt (ops.toList.drop (i+1)) e'' h'' n'' fun e3 h3 n3=>Kd .normal ⟨e3,h3,n3,nt⟩) .it):bQ k ri P (.region id ops false) ⟨env,h,n,nt⟩ K Kd:=by
 have e:ops.toList.getD i default=ops.toList[i]:=by simp[List.getD_eq_getElem?_getD,List.getElem?_eq_getElem hi]
 have hops:ops.toList=ops.toList.take i++ops.toList.getD i default::ops.toList.drop (i+1):=by rw[e,List.getElem_cons_drop,List.take_append_drop]
 generalize ops.toList.getD i default=o at *;generalize ops.toList.take i=pre at *;generalize ops.toList.drop (i+1)=post at *;intro B w0 a w m hs;refine lA ?_;rw[hops];refine lO (o::post) ?_ pre env h n a w m hk hs
 rintro e h n a w m ⟨⟨ow,fl,hf⟩,hr⟩ hs
 simp only[dw,Region.wanted,hg,if_true];intro w e1;replace hs:=hs.move e1;refine Af o f args tys ho hf hr hs hd _ _ (fun h' n' a' w' m' hkv hs'=>?_) (fun w1 h' n' a' w' m' hl hkv hs'=>?_)
 ·exact iw (fun _ _ _ _ _ m hk' hs'=>.inl ⟨_,m,hk',hs'⟩) post _ _ _ _ _ m' hkv hs'
 ·have:=iw (Q:=fun e a' w'=>(∃st' m',K e st'∧Sim B w0 st' a' w' m')∨∃w1:Ctx ⟨k,none⟩,k8 w0 w1∧∃st' m',Kd e st'∧Sim B w1 st' a' w' m') (w0:=w1) (P:=P) (ops:=ops) (fun _ _ _ _ _ m hk' hs'=>.inr ⟨w1,hl,_,m,hk',hs'⟩) post _ _ _ _ _ m' hkv hs';rw[hl.2.2.1] at this;exact this
end
section
variable{k:Nat}{ri:RI}{B:Base}{m:Mm}{w:World}{h:ab}{n:Nat}{env:Env}{a:Act}{P:Program}
theorem AX{w0:Ctx ⟨k,some ri⟩}{nt:Nat}(o:Oper)(f:Operand)(args:Array Operand)(tys:Array TypeId)(ho:o.op=.call { callee:=.value f,args:=args,argTypes:=tys }){g:FuncId}{av:List AV}(hf:cd (ev env f)=some (g,av)){fn:Func}{c:Code}(hfn:P.funcs[g]?=some fn) (hname:(fn.name == "runtime.NumGoroutine")=false) (hb:fn.body=some c) (hnt:(args.toList.map (ev env)++av).length≤fn.ntmps) {Kv Kl:AV→ab→Nat→Prop} (hw:bQ n ri P c ⟨ck 0 (args.toList.map (ev env)++av),h,n,fn.ntmps⟩ (dI P fn.results.toList Kv) (dI P fn.results.toList Kl)) (hs:Sim B w0 ⟨env,h,n,nt⟩ a w m) (hdk:dOk nt o.dst) (Q:Exit→Act→World→Prop) (K':Act→World→Prop) (hK:∀v h' n' a' w' m',Kv v h' n'→Sim B w0 ⟨put env o.dst v,h',n',nt⟩ a' w' m'→K' a' w') (hKl:∀(w1:Ctx ⟨k,none⟩) v h' n' a' w' m',k8 w0 w1→Kl v h' n'→Sim B w1 ⟨put env o.dst v,h',n',nt⟩ a' w' m'→K' a' w'):o.wpt P a w K' Q:=by
 refine Ac o f args tys ho hf hfn hname hb hnt (some ri) (fun _ h=>h) Q K' (fun w1 a1 e1 e2 e3 e4 e5 hs1=>bC (e3▸hw B w1 a1 w m hs1) (fun e a' w' hq=>?_)) hs hdk
 rcases hq with ⟨st',m',hk,hs'⟩|⟨wl,hl,st',m',hk,hs'⟩
 ·have fin:∀e:Exit,(e=.normal∨e=.ret)→cH P fn.results.toList st' Kv→rn P B w0 env a n nt o fn K' e a' w':=fun e he hk=>
   ⟨he,_,_,w1,w0,st',m',Kv,rfl,rfl,e1,e2,e5,rfl,rfl,rfl,fun q hq=>e4▸hq,hs',hk,hK⟩
  cases e with
  |normal=>exact fin _ (.inl rfl) hk
  |ret=>exact fin _ (.inr rfl) hk
  |_=>exact hk.elim
 ·obtain⟨l1,l2,l3,l4,⟨fn2,T2,D2,l5⟩,l6⟩:=hl
  have fin:∀e:Exit,(e=.normal∨e=.ret)→cH P fn.results.toList st' Kl→rn P B w0 env a n nt o fn K' e a' w':=fun e he hk=>
   ⟨he,_,_,wl,(⟨w0.w,w0.F,w0.r,(ri.l,aO ri fn2 T2 D2 .done (some .ret))::w0.obs.filter (fun q=>decide (q.1≠ri.l)),w0.ds,fun ri h=>(by cases h),w0.ok⟩:Ctx ⟨k,none⟩),st',m',Kl,rfl,rfl,l1.trans e1,l2.trans e2,l4.trans e5,rfl,rfl,rfl,
     fun q hq=>by
      rcases List.mem_cons.1 hq with e|hq
      ·rw[e];exact l5
      ·obtain⟨hq,hne⟩:=List.mem_filter.1 hq
       exact l6 q (e4▸hq) (by simpa using hne),hs',hk,
     (hKl _ · · · · · · ⟨rfl,rfl,rfl,rfl,⟨fn2,T2,D2,by simp⟩,fun q hq hne=>List.mem_cons_of_mem _ (List.mem_filter.2 ⟨hq,by simpa using hne⟩)⟩)⟩
  cases e with
  |normal=>exact fin _ (.inl rfl) hk
  |ret=>exact fin _ (.inr rfl) hk
  |_=>exact hk.elim
end
section
variable{k:Nat}{ri:RI}{P:Program}{K Kd:Exit→St→Prop}{st:St}
theorem AY{c:Operand}{x y:Code}{o f b:Bool}(hv:ev st.env c=.w o f (.bool b))(h:bQ k ri P (bif b then x else y) st K Kd):bQ k ri P (.cond c x y) st K Kd:=by
 intro B w0 a w m hs;have hc:ae B (LB m st.heap) m w (ev st.env c) (a.eval c):=gA c (fun t _=>hs.env t);rw[hv] at hc;refine oB hc.fe ?_;cases b
 ·exact h B w0 a w m hs
 ·exact h B w0 a w m hs
variable{env:Env}{h:ab}{n nt:Nat}
def oo(ri:RI)(P:Program)(ops:Array Oper)(nt:Nat)(o:Oper)(post:List Oper)(f:Operand)(g:FuncId)(fn:Func)(c:Code)(args:Array Operand)(e:Env)(h:ab)(n:Nat)(K Kd:Env→ab→Nat→Prop)(_:Mark (o,post,c,K,Kd)):Prop:=
 ∃av,cd (ev e f)=some (g,av)∧(args.toList.map (ev e)++av).length≤fn.ntmps∧dOk nt o.dst∧cg ops e o=some true ∧
  bQ n ri P c ⟨ck 0 (args.toList.map (ev e)++av),h,n,fn.ntmps⟩ (dI P fn.results.toList fun v h' n'=>aQ P ops nt post (put e o.dst v) h' n' K) (dI P fn.results.toList fun v h' n'=>aQ P ops nt post (put e o.dst v) h' n' Kd)
@[congr] theorem Uh{ops:Array Oper}{nt:Nat}{o:Oper}{post:List Oper}{f:Operand}{g:FuncId}{fn:Func}{c:Code}{args:Array Operand}{e e':Env}{h h':ab}{n n':Nat}{K Kd:Env→ab→Nat→Prop}{mk:Mark (o,post,c,K,Kd)}(h1:e=e')(h2:h=h')(h3:n=n'):oo ri P ops nt o post f g fn c args e h n K Kd mk=oo ri P ops nt o post f g fn c args e' h' n' K Kd mk:=by rw[h1,h2,h3]
theorem IS{ops:Array Oper}{nt:Nat}{o:Oper}{post:List Oper}{f:Operand}{g:FuncId}{fn:Func}{c:Code}{args:Array Operand}{e:Env}{h:ab}{n:Nat}{K Kd:Env→ab→Nat→Prop}{mk:Mark (o,post,c,K,Kd)}(av:List AV)(hf:cd (ev e f)=some (g,av))(hl:args.toList.length+av.length≤fn.ntmps)(hd:dOk nt o.dst)(hg:cg ops e o=some true)(hk:bQ n ri P c ⟨ck 0 (args.toList.map (ev e)++av),h,n,fn.ntmps⟩ (dI P fn.results.toList fun v h' n'=>aQ P ops nt post (put e o.dst v) h' n' K) (dI P fn.results.toList fun v h' n'=>aQ P ops nt post (put e o.dst v) h' n' Kd)):oo ri P ops nt o post f g fn c args e h n K Kd mk:=
 ⟨av,hf,by rw[List.length_append,List.length_map];exact hl,hd,hg,hk⟩
theorem IT{id:Nat}{ops:Array Oper}(i:Nat)(g:FuncId){fn:Func}{c:Code}(hfn:P.funcs[g]?=some fn) (hname:(fn.name == "runtime.NumGoroutine")=false) (hb:fn.body=some c) (hi:i<ops.toList.length) {f:Operand} {args:Array Operand} {tys:Array TypeId} (ho:(ops.toList.getD i default).op=.call { callee:=.value f,args:=args,argTypes:=tys }) (hk:aQ P ops nt (ops.toList.take i) env h n fun e' h' n'=>oo ri P ops nt (ops.toList.getD i default) (ops.toList.drop (i+1)) f g fn c args e' h' n' (fun e3 h3 n3=>K .normal ⟨e3,h3,n3,nt⟩) (fun e3 h3 n3=>Kd .normal ⟨e3,h3,n3,nt⟩) .it):bQ k ri P (.region id ops false) ⟨env,h,n,nt⟩ K Kd:=by
 have e:ops.toList.getD i default=ops.toList[i]:=by simp[List.getD_eq_getElem?_getD,List.getElem?_eq_getElem hi]
 have hops:ops.toList=ops.toList.take i++ops.toList.getD i default::ops.toList.drop (i+1):=by rw[e,List.getElem_cons_drop,List.take_append_drop]
 generalize ops.toList.getD i default=o at *;generalize ops.toList.take i=pre at *;generalize ops.toList.drop (i+1)=post at *;intro B w0 a w m hs;refine lA ?_;rw[hops];refine lO (o::post) ?_ pre env h n a w m hk hs
 rintro e h n a w m ⟨av,hf,hnt,hdk,hgu,hw⟩ hs
 simp only[dw];intro w e1;replace hs:=hs.move e1;rw[j4 hgu hs];simp only[if_true];refine eO (fun c e=>by rw[ho] at e;cases e) (AX o f args tys ho hf hfn hname hb hnt hw hs hdk _ _ (fun v h' n' a' w' m' hkv hs'=>?_) (fun w1 v h' n' a' w' m' hl hkv hs'=>?_))
 ·exact iw (fun _ _ _ _ _ m hk' hs'=>.inl ⟨_,m,hk',hs'⟩) post _ _ _ _ _ m' hkv hs'
 ·have:=iw (Q:=fun e a' w'=>(∃st' m',K e st'∧Sim B w0 st' a' w' m')∨∃w1:Ctx ⟨k,none⟩,k8 w0 w1∧∃st' m',Kd e st'∧Sim B w1 st' a' w' m') (w0:=w1) (P:=P) (ops:=ops) (fun _ _ _ _ _ m hk' hs'=>.inr ⟨w1,hl,_,m,hk',hs'⟩) post _ _ _ _ _ m' hkv hs';rw[hl.2.2.1] at this;exact this
theorem IU{fk:Fk}{B:Base}{w0:Ctx fk}{a:Act}{w:World}{m:Mm}{Q:Exit→Act→World→Prop}{ops:Array Oper}{e:Env}(k:Nat){id:Nat}{Kp:Env→ab→Nat→Prop}(hm:P.follows .mixedOrders=true)(hc:Chk ops k)(hk:cq P ops nt (ops.toList.take k) e h n Kp)(hs:Sim B w0 ⟨e,h,n,nt⟩ a w m)(hlast:∀(e':Env)(h':ab)(n':Nat),Kp e' h' n'→∀(f:Nat)(listed:Array Bool)(a:Act)(w:World)(m:Mm),listed.size=ops.size→Closed ops listed→(∀j,j<ops.size→(listed.getD j false=true↔j<k))→open_ listed≤f→Sim B w0 ⟨e',h',n',nt⟩ a w m→ew w0.r P .any ops Q f listed a w):(Code.region id ops true).wpT w0.r P Q a w:=by
 obtain⟨T,hK⟩:=sN _ _ _ _ hk
 have hlen:(ops.toList.take k).length=k:=by simp[hc.le]
 rw[hlen] at hK
 refine r4 hm fun w e1=>?_
 replace hs:=hs.move e1
 have hs':Sim B w0 ⟨e,h,n,nt⟩ a { w with drawn:=w.drawn+1 } m:=by
  have hb:Bel w.heap.size w { w with drawn:=w.drawn+1 }:=(Bel.refl _ _).drew;have hB:=hs.room;exact⟨hs.base,hs.below.trans (hb.mono hB),hs.defers,hs.size,fun t=>(hs.env t).mono (Mm.le.refl m) (fun _ _ h=>h) (fun b hb' _=>hb.block b hb'),hs.heap.below hb,hs.dom,hs.ids,hs.fr.mono (Mm.le.refl m) (fun _ _ h=>h) (fun b hb' _=>hb.block b hb') (Nat.le_refl _)⟩
 obtain⟨h1,h2,h3⟩:=xG (T:=T) hc.le hs'.heap hs'.dom hs'.ids k (Nat.le_refl _)
 have hf:∀i,(Array.replicate ops.size false).getD i false=false:=by
  intro i;rw[Array.getD_eq_getD_getElem?,Array.getElem?_replicate]
  split<;>rfl
 refine xH (T:=T) hc h3 (fun f listed a w m=>hlast _ _ _ hK f listed a w m) ops.size _ a _ m (by simp) (fun i o ho hl=>by rw[hf] at hl;cases hl) ?_ (fun i _ _=>hf i) ⟨hs'.base,hs'.below,hs'.defers,hs'.size,h1,fun id=>?_,(fun i t hi hl=>by rw[hf] at hl;cases hl),fun t _=>?_,by rw[h2];exact hs'.fr⟩
 ·unfold open_;refine Nat.le_trans List.countP_le_length ?_;simp
 ·rw[hs'.dom];constructor
  ·exact .inl
  ·rintro (h|⟨i,_,hl,_⟩)
   ·exact h
   ·rw[hf] at hl;cases hl
 ·rw[h2];exact hs'.env t
theorem IV{id:Nat}{ops:Array Oper}(i:Nat)(g:FuncId)(hm:P.follows .mixedOrders=true)(hchk:nQ ops i=true)(hkl:i<ops.size){fn:Func}{c:Code}(hfn:P.funcs[g]?=some fn) (hname:(fn.name == "runtime.NumGoroutine")=false) (hb:fn.body=some c) {f:Operand} {args:Array Operand} {tys:Array TypeId} (ho:(ops.toList.getD i default).op=.call { callee:=.value f,args:=args,argTypes:=tys }) (hk:cq P ops nt (ops.toList.take i) env h n fun e' h' n'=>oo ri P ops nt (ops.toList.getD i default) (ops.toList.drop (i+1)) f g fn c args e' h' n' (fun e3 h3 n3=>K .normal ⟨e3,h3,n3,nt⟩) (fun e3 h3 n3=>Kd .normal ⟨e3,h3,n3,nt⟩) .it):bQ k ri P (.region id ops true) ⟨env,h,n,nt⟩ K Kd:=by
 obtain⟨hc,hseq⟩:=sP hchk;intro B w0 a w m hs;refine IU i hm hc hk hs (fun e' h' n' hK f' listed a w m hsz hcl hl hop hs=>?_);obtain⟨av,hf,hnt,hdk,hgu,hw⟩:=hK
 cases f' with
 |zero=>
  exfalso;have:=j6 (Nat.le_zero.1 hop) (i:=i) (by omega);have:=(hl i hkl).1 this;omega
 |succ f'=>
  have hne:=lB hsz hc.down i hkl (by
   cases hq:listed.getD i false with
   |true=>have:=(hl i hkl).1 hq;omega
   |false=>rfl)
  refine⟨fun hnil=>absurd hnil hne,fun x hx2=>?_⟩;obtain⟨o,ho2,hff,he⟩:=iA hsz hx2;have hxs:=(Array.getElem?_eq_some_iff.1 ho2).1
  have hxi:x=i:=by
   have h1:¬x<i:=fun hxl=>by
    have:=(hl x hxs).2 hxl;rw[Array.getD_eq_getD_getElem?,hff] at this;cases this
   rcases Nat.lt_or_ge i x with h2|h2
   ·have:=gD hcl 8 x i o ho2 he (hseq x (by omega) hxs i h2);have:=(hl i hkl).1 this;omega
   ·omega
  subst hxi
  have hoo:ops.toList.getD x default=o:=by
   rw[List.getD_eq_getElem?_getD,Array.getElem?_toList,ho2];rfl
  rw[hoo] at ho hgu hdk hw;unfold fH;rw[ho2];simp only[];intro w e1;replace hs:=hs.move e1;rw[j4 hgu hs];simp only[if_true]
  have a7:∀j,j<ops.size→((listed.setIfInBounds x true).getD j false=true↔j<x+1):=fun j hj=>by
   by_cases hxj:x=j
   ·subst hxj;rw[Array.getD_eq_getD_getElem?,Array.getElem?_setIfInBounds];simp[hsz,hj]
   ·rw[getD_set_ne false hxj,hl j hj];omega
  refine eO (fun c e=>by rw[ho] at e;cases e) (AX o f args tys ho hf hfn hname hb hnt hw hs hdk _ _ (fun v h' n' a' w' m' hk2 hs'=>?_) (fun w1 v h' n' a' w' m' hlf hk2 hs'=>?_))
  ·exact o7 (Kr:=fun e'' h'' n''=>K .normal ⟨e'',h'',n'',nt⟩) (fun e' h' n' a' w' m' hk' hsim=>.inl ⟨_,m',hk',hsim⟩) hc.down hseq f' (x+1) (listed.setIfInBounds x true) _ _ _ a' w' m' (by omega) (by omega) (by simpa using hsz) (hcl.set ho2 he) a7 (by have:=j5 hff;omega) hk2 hs'
  ·have:=o7 (w0:=w1) (Kr:=fun e'' h'' n''=>Kd .normal ⟨e'',h'',n'',nt⟩) (Q:=fun e a' w'=>(∃st' m',K e st'∧Sim B w0 st' a' w' m')∨∃w1:Ctx ⟨k,none⟩,k8 w0 w1∧∃st' m',Kd e st'∧Sim B w1 st' a' w' m') (fun e' h' n' a' w' m' hk' hsim=>.inr ⟨w1,hlf,_,m',hk',hsim⟩) hc.down hseq f' (x+1) (listed.setIfInBounds x true) _ _ _ a' w' m' (by omega) (by omega) (by simpa using hsz) (hcl.set ho2 he) a7 (by have:=j5 hff;omega) hk2 hs';rw[hlf.2.2.1] at this;exact this
end
section
variable{fk:Fk}{P:Program}{K:Exit→St→Prop}{st:St}
theorem IX{c:Code}{α:Type}(J:α→Prop)(I:α→St)(μ:α→Nat)(x0:α)(hJ:J x0)(h0:Lek fk st (I x0))(round:∀x,J x→bX fk P c (I x) (fL fk J I μ x K)):bX fk P (.loop c) st K:=by
 intro B w0 a w m hr hd hs;refine rZ (fun k a w=>∃(w1:Ctx fk)(x:α)(m:Mm),w1.w=w0.w∧w1.r=none∧k9 w1∧J x∧μ x=k∧Sim B w1 (I x) a w m) (μ x0) (by obtain⟨m',h⟩:=h0 B w0 a w m hs;exact⟨w0,x0,m',rfl,hr,hd,hJ,rfl,h⟩) ?_
 rintro k a w ⟨w1,x,m,g1,g2,g3,hx,rfl,hsx⟩
 refine bC (round x hx B w1 a w m g2 g3 hsx) (fun e a' w' ⟨w2,st',m',k1,k2,k3,h2,h3⟩=>?_)
 cases e<;>first
  |exact⟨w2,st',m',k1.trans g1,k2,k3,h2,h3⟩
  |(obtain⟨y,hy,hlt,hle⟩:=h2
    obtain⟨m'',h4⟩:=hle B w2 a' w' m' h3
    exact⟨μ y,hlt,w2,y,m'',k1.trans g1,k2,k3,hy,rfl,h4⟩)
theorem AZ{c:Operand}{x y:Code}{o f b:Bool}(hv:ev st.env c=.w o f (.bool b))(h:bX fk P (bif b then x else y) st K):bX fk P (.cond c x y) st K:=by
 intro B w0 a w m hr hd hs;have hc:ae B (LB m st.heap) m w (ev st.env c) (a.eval c):=gA c (fun t _=>hs.env t);rw[hv] at hc;refine oB hc.fe ?_;cases b
 ·exact h B w0 a w m hr hd hs
 ·exact h B w0 a w m hr hd hs
end
end Go.Fi
namespace Go.Fi
open Go Go.RowKit
variable[ah]
variable{fk:Fk}
def ln(P:Program)(rs:List ResultVar)(c0:Nat)(E:List (List AV))(v:AV)(D:List Nat)(st:St):Prop:=
 match eI P st.env st.heap rs with
 |some (vs,c)=>c∧jV D st.heap st.nxt (c0+E.length) (oneOf vs) (v.sh c0)∧k7 D st.heap st.nxt (c0+E.length) (aM [] c0 (E.map (AV.sh.shL c0)))
 |none=>False
def mkK(P:Program)(rs:List ResultVar)(c0:Nat)(E:List (List AV))(v:AV)(D:List Nat):Exit→St→Prop
 |.normal,s=>ln P rs c0 E v D s
 |.ret,s=>ln P rs c0 E v D s
 |_,_=>False
omit [ah] in
@[simp ↓] theorem TW(P:Program)(rs:List ResultVar)(c0:Nat)(E:List (List AV))(v:AV)(D:List Nat)(s:St):mkK P rs c0 E v D .normal s=ln P rs c0 E v D s:=rfl
omit [ah] in
@[simp ↓] theorem TX(P:Program)(rs:List ResultVar)(c0:Nat)(E:List (List AV))(v:AV)(D:List Nat)(s:St):mkK P rs c0 E v D .ret s=ln P rs c0 E v D s:=rfl
section
variable{B:Base}{L:Nat→Prop}{m mm:Mm}{w:World}
omit [ah] in
theorem ae.down{c:Nat}(hd:∀i,m.dom (i+c)→mm.dom i)(ht:∀i,mm.top i=m.top (i+c))(ha:∀i ver,mm.addr i ver=m.addr (i+c) ver){y:AV}{u:Value}(h:ae B L m w y u):∀x:AV,x.sh c=y→ae B L mm w x u:=by
 induction h with
 |@w own full p v hr hf=>
  intro x e
  cases x with
  |w o f q=>simp only[MH,AV.w.injEq] at e;obtain⟨rfl,rfl,rfl⟩:=e;exact .w hr hf
  |_=>simp[AV.sh] at e
 |@ptr id ver off b C hd' ht' ha' hC'=>
  intro x e
  cases x with
  |ptr i v o=>simp only[G9,AV.ptr.injEq] at e;obtain⟨rfl,rfl,rfl⟩:=e;exact .ptr (hd _ hd') (by rw[ht];exact ht') (by rw[ha];exact ha') hC'
  |_=>simp[AV.sh] at e
 |@mp id b hd' ht' ha'=>
  intro x e
  cases x with
  |mp i=>simp only[AV.sh,AV.mp.injEq] at e;subst e;exact .mp (hd _ hd') (by rw[ht];exact ht') (by rw[ha];exact ha')
  |_=>simp[AV.sh] at e
 |@msl id ver sz off n cap a hd' ht' hn h0 h1=>
  intro x e
  cases x with
  |msl i v s o k=>simp only[Ha,AV.msl.injEq] at e;obtain⟨rfl,rfl,rfl,rfl,rfl⟩:=e;exact .msl (hd _ hd') (by rw[ht];exact ht') hn (fun e=>h0 (by rw[←ha];exact e)) (fun b C e=>h1 b C (by rw[←ha];exact e))
  |_=>simp[AV.sh] at e
 |@agg cs vs hl _ ih=>
  intro x e
  cases x with
  |agg ds=>
   simp only[Hb,AV.agg.injEq,de] at e;subst e;exact .agg (by simpa using hl) (fun j p v hp hv=>ih j (p.sh c) v (by rw[List.getElem?_map,hp];rfl) hv p rfl)
  |_=>simp[AV.sh] at e
 |@tup cs vs hl _ ih=>
  intro x e
  cases x with
  |tup ds=>
   simp only[Hc,AV.tup.injEq,de] at e;subst e;exact .tup (by simpa using hl) (fun j p v hp hv=>ih j (p.sh c) v (by rw[List.getElem?_map,hp];rfl) hv p rfl)
  |_=>simp[AV.sh] at e
 |@fn f cs vs hl _ ih=>
  intro x e
  cases x with
  |fn g ds=>
   simp only[AV.sh,AV.fn.injEq,de] at e;obtain⟨rfl,rfl⟩:=e;exact .fn (by simpa using hl) (fun j p v hp hv=>ih j (p.sh c) v (by rw[List.getElem?_map,hp];rfl) hv p rfl)
  |_=>simp[AV.sh] at e
omit [ah] in
theorem AQ(c:Nat):∀(E:List (List AV))(n:Nat),aM [] (n+c) (E.map (AV.sh.shL c))=(aM [] n E).map fun p=>(p.1+c,AV.sh.shL c p.2)
 |[],n=>rfl
 |x::E,n=>by
  simp only[List.map_cons,aM];rw[show n+c+1=(n+1)+c by omega,AQ c E (n+1)]
end
theorem AR{P:Program}{f:FuncId}{fn:Func}{c:Code}{args:List PV}{E:List (List AV)}{v:AV}(c0:Nat)(D:List Nat)(hf:P.funcs[f]?=some fn) (hname:(fn.name == "runtime.NumGoroutine")=false) (hb:fn.body=some c) (hnt:args.length≤fn.ntmps) (hv:v.frs=true) (hE:∀c∈E,AV.frs.gR c=true) (h:aG fk0 P c ⟨dW 0 args,[],0,fn.ntmps⟩ (mkK P fn.results.toList c0 E v D)):kJ P f args E v:=by
 refine⟨⟨fn,hf,hname,by rw[hb];rfl⟩,hv,hE,fun G w vs hok hlen hrep=>?_⟩;refine oC hf hb ?_
 have hsim:Sim ⟨w.heap.size,G⟩ (⟨w,[],none,[],[],fun ri h=>(by cases h),hok⟩:Ctx fk0) ⟨dW 0 args,[],0,fn.ntmps⟩ { tmps:=vs++Array.replicate (fn.ntmps-vs.size) undef,defers:=[] } w ⟨fun _ _=>none,fun _=>0,fun _=>False⟩:=by
  refine⟨rfl,Bel.refl _ _,rfl,by simp;omega,fun t=>?_,⟨fun id cells hin=>(by cases hin),List.Pairwise.nil⟩,fun i=>⟨fun h=>h.elim,fun h=>absurd h (Nat.not_lt_zero i)⟩,fun id c hin=>(by cases hin),Nat.zero_le _,(fun p hp=>by cases hp),fun q hq=>by cases hq⟩;show ae _ _ _ _ (get (dW 0 args) t) _;rw[ql];split
  ·rename_i ht
   have hlt:t<args.length:=by omega
   refine .w ?_ (fun h=>by cases h)
   have:(vs++Array.replicate (fn.ntmps-vs.size) undef).getD t undef=vs[t]'(by omega):=by
    rw[Array.getD_eq_getD_getElem?,Array.getElem?_append_left (by omega),Array.getElem?_eq_getElem (by omega)];rfl
   rw[this]
   refine (hrep t _ _ (by simpa using getD_some hlt) (Array.getElem?_eq_getElem (by omega))).imp fun b hg=>⟨?_,(fun h=>by cases h),fun _=>hg⟩
   rintro⟨id,cells,C,hin,_⟩
   cases hin
  ·exact .w (.undef _) (fun h=>by cases h)
 refine bC (h _ _ _ _ _ hsim) (fun e a' w' ⟨st',m',hk,hs⟩=>?_)
 have main:ln P fn.results.toList c0 E v D st'→a'.defers=[]∧∀w1,EnvD.E w' w1→∃r,(results fn a'.tmps).run P w1=.ok r w1∧∃u mm,Ending.returned r=.returned u∧Bel w.heap.size w w1∧(∀i,mm.dom i↔i<E.length)∧aI ⟨w.heap.size,G⟩ (aM [] 0 E) mm w1∧ae ⟨w.heap.size,G⟩ (LB mm (aM [] 0 E)) mm w1 v u:=by
  intro hr;refine⟨hs.defers,fun w' e1=>?_⟩;replace hs:=hs.move e1;unfold ln at hr;split at hr
  ·rename_i vs' d hres;obtain⟨hd,hcl,hhl⟩:=hr;obtain⟨us,h1,h2,h3⟩:=lK hs _ _ _ hres hd
   have hrun:(results fn a'.tmps).run P w'=.ok (if h:us.toArray.size=1 then us.toArray[0] else .tuple us.toArray) w':=by
    have he:results fn a'.tmps=(do
     let vs ←fn.results.mapM (jS a'.tmps)
     pure (if h:vs.size=1 then vs[0] else .tuple vs)):=rfl
    rw[he,Array.mapM_eq_mapM_toList];simp only[Sem.run_bind,Sem.run_map,h1,Result.andThen_ok,Sem.run_pure]
   have hone:ae ⟨w.heap.size,G⟩ (LB m' st'.heap) m' w' (oneOf vs') (if h:us.toArray.size=1 then us.toArray[0] else .tuple us.toArray):=by
    have tupc:vs'.length≠1→ae ⟨w.heap.size,G⟩ (LB m' st'.heap) m' w' (.tup vs') (if h:us.toArray.size=1 then us.toArray[0] else .tuple us.toArray):=by
     intro hne;rw[dif_neg (by simp;omega)];exact .tup (by simpa using h2) (fun j p u hp hu=>h3 j p u hp (by simpa using hu))
    match vs',h2,h3,tupc with
    |[],h2,h3,tupc=>exact tupc (by simp)
    |[v],h2,h3,tupc=>
     obtain⟨u,rfl⟩:∃u,us=[u]:=List.length_eq_one_iff.1 (by simpa using h2.symm);exact h3 0 v u rfl rfl
    |v::v2::r,h2,h3,tupc=>exact tupc (by simp)
   obtain⟨m2,hs2,hconv⟩:=Aa (env':=[]) (h':=aM [] c0 (E.map (AV.sh.shL c0))) (n':=c0+E.length) D trivial hhl (Nat.zero_le _) hs;have hu:=hconv _ _ _ hcl hone;have hdom2:∀i,m2.dom i↔i<c0+E.length:=hs2.dom
   have hEq:aM [] c0 (E.map (AV.sh.shL c0))=(aM [] 0 E).map fun p=>(p.1+c0,AV.sh.shL c0 p.2):=by
    have:=AQ c0 E 0
    rwa [Nat.zero_add] at this
   refine⟨_,hrun,_,⟨fun id ver=>m2.addr (id+c0) ver,fun id=>m2.top (id+c0),fun id=>id<E.length⟩,rfl,hs.below,fun i=>Iff.rfl,?_⟩
   have hmem:∀k cl,(k,cl)∈aM [] 0 E→(k+c0,AV.sh.shL c0 cl)∈aM [] c0 (E.map (AV.sh.shL c0)):=fun k cl hin=>by
    rw[hEq];exact List.mem_map.2 ⟨(k,cl),hin,rfl⟩
   have hlt:∀k cl,(k,cl)∈aM [] 0 E→k<E.length:=fun k cl hin=>by
    rcases (sG E [] 0 k cl).1 hin with h|⟨j,h,rfl⟩
    ·cases h
    ·have:=(List.getElem?_eq_some_iff.1 h).1;omega
   have hLB:LB (⟨fun id ver=>m2.addr (id+c0) ver,fun id=>m2.top (id+c0),fun id=>id<E.length⟩:Mm) (aM [] 0 E)=LB m2 (aM [] c0 (E.map (AV.sh.shL c0))):=by
    funext b
    refine propext ⟨?_,?_⟩
    ·rintro⟨id,cl,C,hin,hd,ha⟩
     have hl:=hlt _ _ hin;exact⟨id+c0,AV.sh.shL c0 cl,C,hmem _ _ hin,(hdom2 _).2 (by omega),by rw[de,List.length_map];exact ha⟩
    ·rintro⟨id,cl,C,hin,hd,ha⟩
     rw[hEq] at hin;obtain⟨⟨k,c1⟩,h4,h5⟩:=List.mem_map.1 hin
     injection h5 with h5 h6
     subst h5;subst h6;rw[de,List.length_map] at ha;exact⟨k,c1,C,h4,hlt _ _ h4,ha⟩
   rw[hLB]
   have hdn:∀{x:AV}{u:Value},ae ⟨w.heap.size,G⟩ (LB m2 (aM [] c0 (E.map (AV.sh.shL c0)))) m2 w' (x.sh c0) u→ae ⟨w.heap.size,G⟩ (LB m2 (aM [] c0 (E.map (AV.sh.shL c0)))) ⟨fun id ver=>m2.addr (id+c0) ver,fun id=>m2.top (id+c0),fun id=>id<E.length⟩ w' x u:=
    fun {x u} hr=>ae.down (c:=c0) (fun i hd=>by have:=(hdom2 _).1 hd;show i<E.length;omega) (fun i=>rfl) (fun i ver=>rfl) hr x rfl
   refine⟨⟨fun id cl hin hd=>?_,?_⟩,hdn hu⟩
   ·rw[hLB];have hl:=hlt _ _ hin;obtain⟨e1,e2⟩:=hs2.heap.entry (id+c0) (AV.sh.shL c0 cl) (hmem _ _ hin) ((hdom2 _).2 (by omega))
    have hlen:(AV.sh.shL c0 cl).length=cl.length:=by rw[de,List.length_map]
    rw[hlen] at e1 e2;refine⟨e1,?_⟩
    rcases e2 with ⟨e3,e4⟩|⟨b,C,cs,e,f1,f2,f3,f4,f5,f6⟩|⟨b,es,clk,f1,f2,f3,f4,f5⟩
    ·exact .inl ⟨e3,by rw[de] at e4;simpa using e4⟩
    ·exact .inr (.inl ⟨b,C,cs,e,f1,f2,f3,f4,f5,fun j p u hp hu=>hdn (f6 j (p.sh c0) u (by rw[de,List.getElem?_map,hp];rfl) hu)⟩)
    ·exact .inr (.inr ⟨b,es,clk,f1,by rw[←xq];exact f2,f3,f4,fun l hl=>f5 l (DC hl)⟩)
   ·have hi:=hs2.heap.inj;rw[show (St.heap ⟨[],aM [] c0 (E.map (AV.sh.shL c0)),c0+E.length,fn.ntmps⟩)=_ from hEq,List.pairwise_map] at hi;refine List.Pairwise.imp_of_mem ?_ hi;intro x y hx hy ⟨hne,hxy⟩;refine⟨fun e=>hne (by rw[e]),fun b C C' hdx hdy hax hay=>?_⟩;have h1:=hlt x.1 x.2 hx;have h2:=hlt y.1 y.2 hy
    have l1:(AV.sh.shL c0 x.2).length=x.2.length:=by rw[de,List.length_map]
    have l2:(AV.sh.shL c0 y.2).length=y.2.length:=by rw[de,List.length_map]
    exact hxy b C C' ((hdom2 _).2 (by omega)) ((hdom2 _).2 (by omega)) (by rw[l1];exact hax) (by rw[l2];exact hay)
  ·exact hr.elim
 cases e<;>first|exact main hk|exact hk.elim
omit [ah] in
@[simp ↓] theorem TY(h:ab)(n:Nat)(K:AV→ab→Nat→Prop)(v:AV)(c:List AV)(E:List (List AV)):eK h n K v (c::E)=K v ((n,c)::aM h (n+1) E) (n+(E.length+1)):=by unfold eK;rfl
attribute [simp] ln AV.frs AV.frs.gR
end Go.Fi
namespace Go.Fi
open Go Go.RowKit
variable[ah]
section
variable{fk:Fk}{P:Program}{K:Exit→St→Prop}{st:St}{c:Code}
def gz(R:St→Prop)(K:Exit→St→Prop):Exit→St→Prop
 |.normal,s=>R s
 |e,s=>K e s
def unr(fk:Fk)(P:Program)(c:Code)(K:Exit→St→Prop):Nat→St→Prop
 |0,_=>False
 |n+1,s=>aG fk P c s (gz (unr fk P c K n) K)
theorem eu(n:Nat)(h:unr fk P c K n st):aG fk P (.loop c) st K:=by
 refine sL (fun x:Nat×St=>unr fk P c K x.1 x.2) (·.2) (·.1) (n,st) h (fun B w0 a w m hs=>⟨m,hs⟩) ?_
 rintro⟨k,s⟩ hk
 cases k with
 |zero=>exact hk.elim
 |succ k=>
  refine mV hk (fun e s' h'=>?_)
  cases e<;>first|exact h'|exact⟨(k,s'),h',Nat.lt_succ_self k,fun B w0 a w m hs=>⟨m,hs⟩⟩
theorem eN{n:Nat}(h:aG fk P c st (gz (unr fk P c K n) K)):unr fk P c K (n+1) st:=h
section
omit [ah]
@[simp ↓] theorem TO(R:St→Prop)(s:St):gz R K .normal s=R s:=rfl
@[simp ↓] theorem TP(R:St→Prop)(s:St):gz R K .ret s=K .ret s:=rfl
@[simp ↓] theorem TR(R:St→Prop)(i:Nat)(s:St):gz R K (.exit i) s=K (.exit i) s:=rfl
@[congr] theorem TS{R:St→Prop}{K:Exit→St→Prop}{e e':Exit}{s s':St}(h:e=e')(h2:s=s'):gz R K e s=gz R K e' s':=by rw[h,h2]
end
@[congr] theorem TT{n:Nat}{s s':St}(h:s=s'):unr fk P c K n s=unr fk P c K n s':=by rw[h]
omit [ah] in
theorem cN{k:IntKind}{n:Int}(h:(decide (k.min≤n)&&decide (n≤k.max))=true):inI k n:=by simpa[inI] using h
theorem ve{env:Env}{h:ab}{n nt:Nat}:Lek fk ⟨env,h,n,nt⟩ ⟨[],h,n,nt⟩:=
 fun B w0 a w m hs=>⟨m,hs.base,hs.below,hs.defers,hs.size,fun t=>.w (.undef _) (fun h=>by cases h),hs.heap,hs.dom,hs.ids,hs.fr⟩
theorem AL{k:Nat}{K:ab→Nat→Prop}{env:Env}{h:ab}{n nt:Nat}(hk:K h n):mE k K .normal ⟨env,h,n,nt⟩:=AB h n nt ve hk
theorem IB{k:Nat}{K Kl:ab→Nat→Prop}{env:Env}{h:ab}{n nt:Nat}(hk:K h n):jW k K Kl .normal ⟨env,h,n,nt⟩:=Hn h n nt ve hk
theorem IC{k:Nat}{K Kl:ab→Nat→Prop}{env:Env}{h:ab}{n nt:Nat}(hk:Kl h n):jW k K Kl .ret ⟨env,h,n,nt⟩:=Ho h n nt ve hk
end
section
variable{fk:Fk}{P:Program}{K Kd:Exit→St→Prop}{st:St}{c x y:Code}{k:Nat}{ri:RI}{v:Operand}{o f:Bool}
def lq(fk:Fk)(P:Program)(c:Code)(K:Exit→St→Prop):Nat→St→Prop
 |0,_=>False
 |n+1,s=>bX fk P c s (gz (lq fk P c K n) K)
theorem A7(n:Nat)(h:lq fk P c K n st):bX fk P (.loop c) st K:=by
 refine IX (fun x:Nat×St=>lq fk P c K x.1 x.2) (·.2) (·.1) (n,st) h (fun B w0 a w m hs=>⟨m,hs⟩) ?_
 rintro⟨k,s⟩ hk
 cases k with
 |zero=>exact hk.elim
 |succ k=>
  refine Hr hk (fun e s' h'=>?_)
  cases e<;>first|exact h'|exact⟨(k,s'),h',Nat.lt_succ_self k,fun B w0 a w m hs=>⟨m,hs⟩⟩
theorem A8{n:Nat}(h:bX fk P c st (gz (lq fk P c K n) K)):lq fk P c K (n+1) st:=h
@[congr] theorem Ui{n:Nat}{s s':St}(h:s=s'):lq fk P c K n s=lq fk P c K n s':=by rw[h]
theorem A9(hv:ev st.env v=.w o f (.bool true))(h:bX fk P x st K):bX fk P (.cond v x y) st K:=AZ hv h
theorem Ba(hv:ev st.env v=.w o f (.bool false))(h:bX fk P y st K):bX fk P (.cond v x y) st K:=AZ hv h
def lu(k:Nat)(ri:RI)(P:Program)(c:Code)(K Kd:Exit→St→Prop):Nat→St→Prop
 |0,_=>False
 |n+1,s=>bQ k ri P c s (gz (lu k ri P c K Kd n) K) (lp Kd)
theorem IY(n:Nat)(h:lu k ri P c K Kd n st):bQ k ri P (.loop c) st K Kd:=by
 refine IN (fun x:Nat×St=>lu k ri P c K Kd x.1 x.2) (·.2) (·.1) (n,st) h (fun B w0 a w m hs=>⟨m,hs⟩) ?_
 rintro⟨j,s⟩ hk B w0 a w m hs
 cases j with
 |zero=>exact hk.elim
 |succ j=>
  refine bC (hk B w0 a w m hs) (fun e a' w' hq=>?_)
  rcases hq with ⟨st',m',h1,h2⟩|h
  ·refine .inl ⟨st',m',?_,h2⟩
   cases e<;>first|exact h1|exact⟨(j,st'),h1,Nat.lt_succ_self j,fun B w0 a w m hs=>⟨m,hs⟩⟩
  ·exact .inr h
theorem IZ{n:Nat}(h:bQ k ri P c st (gz (lu k ri P c K Kd n) K) (lp Kd)):lu k ri P c K Kd (n+1) st:=h
@[congr] theorem Uj{n:Nat}{s s':St}(h:s=s'):lu k ri P c K Kd n s=lu k ri P c K Kd n s':=by rw[h]
theorem I0(hv:ev st.env v=.w o f (.bool true))(h:bQ k ri P x st K Kd):bQ k ri P (.cond v x y) st K Kd:=AY hv h
theorem I4(hv:ev st.env v=.w o f (.bool false))(h:bQ k ri P y st K Kd):bQ k ri P (.cond v x y) st K Kd:=AY hv h
end
end Go.Fi
