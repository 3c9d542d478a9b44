/- Lemmas. -/
import Derived.Test.YthpkmilhiganjaaGreatPLa
import Derived.Lib.ConvBytes
import Derived.TacticsIn
import Derived.OrdersIn
import Derived.RangeFuncRecord
import Derived.RangeFuncCalls
set_option linter.all false
set_option maxHeartbeats 32000000
set_option maxRecDepth 100000
namespace Go.Fi
open Go Go.RowKit
variable[ak]
section
omit [ak]
variable{P:Program}{B:Base}{m:Mm}{w w':World}{H h:ae}{n:Nat}{env:Env}{a:Act}{L:Nat->Prop}
theorem uI{w w':World}{p:PV}(hf:flat p=true){G G':Nat->Prop}{v:Value}(h:Rep G w p v):Rep G' w' p v:=by
 cases h<;>first
  |exact .undef _
  |exact .iI _
  |exact .bool _
  |exact .int _ _
  |exact .str _
  |exact .gl
  |exact .jS
  |(cases hf;done)
theorem Dk:∀{l:List PV},fD l=true->∀(j:Nat)(x:PV),l[j]?=some x->flat x=true
 |[],_,j,x,h=>by simp at h
 |y::l,hp,j,x,h=>by
  simp only[fD,di] at hp
  cases j with
  |zero=>simp_all
  |succ j=>exact Dk hp.2 j x (by simpa using h)
theorem Dl:∀{l:List AV}{q:List PV},pvs l=some q->l.length=q.length/\∀(j:Nat)(p:PV),q[j]?=some p->∃o f,l[j]?=some (.w o f p)
 |[],q,h=>by injection h with h;simp_all
 |x::l,q,h=>by
  cases x with
  |w o f p=>
   simp only[pvs] at h;split at h
   .rename_i q' hq;cases h;obtain⟨h1,h2⟩:=Dl hq
    grind
   .cases h
  |_=>simp[pvs] at h
theorem mL(sz k:Nat)(a0:Option Addr)(cap:Nat)(us:List Value)(hl:us.length=k*sz)(h0:a0=none->k*sz=0)(hc:∀ad,a0=some ad->∀j u,us[j]?=some u->w.cell? (ad.add j)=some u):(Builtin.firstCells sz k (.slice a0 k cap)).run P w=.ok us.toArray w:=by
 cases a0 with
 |none=>
  have:us=[]:=ia (by rw[hl,h0 rfl]);subst this;rfl
 |some ad=>
  have:=run_loadCells_list (P:=P) w ad us (hc ad rfl);rw[hl] at this;trivial
theorem uJ{sz k:Nat}{x:AV}{v:Value}{news:List AV}{c:Prop}(h0:gO h sz x=some (k,news,c))(hc:c)(hs:aY B H m w)(a5:∀id cs,aU h id=some cs->(id,cs)∈H)(hx:al B (LB m H) m w x v):∃(ax:Option Addr)(cx:Nat)(us:List Value),v=.slice ax k cx/\us.length=k*sz/\news.length=k*sz/\(∀ea,ea.heap=w.heap->(Builtin.firstCells sz k v).run P ea=.ok us.toArray ea)/\∀(j:Nat)(p:AV)(u:Value),news[j]?=some p->us[j]?=some u->al B (LB m H) m w p u:=by
 unfold gO at h0;split at h0
 .rename_i id ver z off k';split at h0
  .rename_i cells hg;simp only[a7,bE] at h0;obtain⟨rfl,rfl,rfl⟩:=h0;obtain⟨c1,c2,c3⟩:=hc;subst c2;obtain⟨ax,cx,rfl,hk,hd,_,h3,h4⟩:=hx.m8;rw[ya]
   have hlen:((cells.drop off).take (k'*z)).length=k'*z:=by simp;omega
   rw[<-c1] at h3 h4
   cases ha:m.addr id cells.length with
   |none=>
    obtain⟨rfl,h5⟩:=h3 ha
    have dp:k'=0:=by omega
    subst dp;exact⟨ax,0,[],rfl,by simp,hlen,λea _=>mL z 0 ax 0 [] (by simp) (λ_=>by simp) (λ_ _ j u hj=>by simp at hj),λj p u hp hu=>by simp at hu⟩
   |some bc=>
    obtain⟨b,C⟩:=bc;obtain⟨h5,h6,h7⟩:=h4 b C ha;obtain⟨cs,e,hh,hC,hle,_,a6⟩:=hs.read (a5 id cells hg) hd ha (by omega)
    have hin:∀j,j<k'*z->off+j<cs.size:=by intro j hj;omega
    refine⟨ax,cx,(List.range (k'*z)).map (λj=>cs.getD (off+j) undef),rfl,by simp,hlen,λea hw=>?_,λj p u hp hu=>?_⟩
    .refine mL z k' ax cx _ (by simp) (λe=>?_) (λad e j u hj=>?_)
     .rcases jI cx with h|h
      .have:k'=0:=by omega
       simp[this]
      .rw[h5 h] at e;cases e
     .obtain⟨y,hy,rfl⟩:=fS hj;obtain⟨av,rfl⟩:=dP.1 hy;simp only[oV] at av;simp only[rO]
      have fi:0<cx:=by
       rcases jI cx with h|h
       .have:k'=0:=by omega
        rw[this] at av;simp at av
       .exact h
      rw[h5 fi] at e;injection e with e;subst e
      rw[Addr.ja,mJ (by rw[hw];exact hh)];simp[hin j av]
    .obtain⟨y,hy,rfl⟩:=fS hu;obtain⟨av,rfl⟩:=dP.1 hy;simp only[oV] at av;simp only[rO];rw[jH] at hp;rw[az av,xl] at hp;exact a6 _ p _ hp (by simp[hin j av])
  .cases h0
 .rename_i own f k' cells;simp only[a7,bE] at h0;obtain⟨rfl,rfl,rfl⟩:=h0;obtain⟨ax,cx,rfl,hk,_,h1,h2⟩:=hx.m7
  cases dc:cells with
  |nil=>
   have co:k'*sz=0:=by rw[<-hc,dc];rfl
   exact⟨ax,cx,[],rfl,co.symm,by simp[co],λea _=>mL sz k' ax cx [] co.symm (λ_=>co) (λ_ _ j u hj=>by simp at hj),λj p u hp hu=>by simp at hu⟩
  |cons y ys=>
   obtain⟨b,off,vals,rfl,h3,h4,h5⟩:=h2 (by rw[dc];simp);rw[<-dc];refine⟨_,cx,(List.range cells.length).map vals,rfl,by simp[hc],by simp[hc],λea hw=>?_,λj p u hp hu=>?_⟩
   .refine mL sz k' _ cx _ (by simp[hc]) (λe=>by cases e) (λad e j u hj=>?_)
    injection e with e;subst e
    obtain⟨y',hy,rfl⟩:=fS hj;obtain⟨av,rfl⟩:=dP.1 hy;simp only[oV] at av;simp only[rO];rw[Addr.ja];have:=h3 j av;simpa[World.cell?,hw] using this
   .obtain⟨q,hq,rfl⟩:=fS hp;obtain⟨y',hy,rfl⟩:=fS hu;obtain⟨av,rfl⟩:=dP.1 hy;simp only[rO];exact .w (h5 j q hq) (λh=>by cases h)
 .cases h0
theorem yq{t tx e ex sz:Nat}{i:TypeInfo}(ht:P.underlying t=some (.slice e))(bf:P.underlying tx=some (.slice ex))(hi:P.info? e=some i)(hz:i.size=sz)(ty:TypeId)(a0:Option Addr)(k cap k2:Nat)(x:Value)(ax:Option Addr)(cx:Nat)(hx:x=.slice ax k2 cx)(us:List Value)(hn:(Builtin.firstCells sz k2 x).run P w=.ok us.toArray w)(b5:k+k2<=cap)(w2:World)(d':∀ad,a0=some ad->(storeCells (ad.add (k*sz)) us).run P w=.ok () w2)(g6:a0=none->w2=w):(Builtin.append_ #[t,tx] ty #[.slice a0 k cap,x]).run P w=.ok (.slice a0 (k+k2) cap) w2:=by
 subst hx
 cases a0 with
 |none=>
  have:=g6 rfl;subst this;simp[Builtin.append_,run_underlying ht,run_underlying bf,sizeOf,typeInfo,hi,hz,Builtin.lenOf,b5,hn]
 |some ad=>
  have:=d' ad rfl;simp[Builtin.append_,run_underlying ht,run_underlying bf,sizeOf,typeInfo,hi,hz,Builtin.lenOf,b5,hn,this]
theorem yr{t tx e ex sz:Nat}{i:TypeInfo}{z:Value}(ht:P.underlying t=some (.slice e))(bf:P.underlying tx=some (.slice ex))(hi:P.info? e=some i)(hz:i.size=sz)(hzero:i.zero=some z)(ty:TypeId)(a0:Option Addr)(k cap k2:Nat)(x:Value)(ax:Option Addr)(cx:Nat)(hx:x=.slice ax k2 cx)(us os:List Value)(hn:(Builtin.firstCells sz k2 x).run P w.drew=.ok us.toArray w.drew)(ho:(Builtin.firstCells sz k (.slice a0 k cap)).run P w.drew=.ok os.toArray w.drew)(b5:¬k+k2<=cap)(h1:k+k2<=1000000000)(bi:i.bytes<=100000):∃nc rest,k+k2<=nc/\rest.size=(nc-(k+k2))*z.cells.size/\(Builtin.append_ #[t,tx] ty #[.slice a0 k cap,x]).run P w=.ok (.slice (some ⟨w.heap.size,0,none⟩) (k+k2) nc) (w.drew.alloc (.cells (os.toArray++us.toArray++rest) e)):=by
 subst hx
 have hb:=growslice_fits (need:=k+k2) (old:=cap) (bytes:=i.bytes) (by omega) (by
  have:(k+k2)*i.bytes<=1000000000*100000:=Nat.mul_le_mul h1 bi
  omega)
 have f8:¬(9223372036854775807<((k:Int)+(k2:Int))):=by omega
 have f7:¬(281474976710656<Builtin.nextslicecap (k+k2) cap*i.bytes):=by omega
 refine⟨grownCap w (k+k2) cap e,Builtin.zeroCells z.cells (grownCap w (k+k2) cap e-(k+k2)),grownCap_ge w _ _ e,size_zeroCells _ _,?_⟩;simp[Builtin.append_,run_underlying ht,run_underlying bf,sizeOf,typeInfo,zeroValue,hi,hz,hzero,Builtin.lenOf,b5,f8,f7,Question.forced,hn,ho,newRow,grownCap]
 grind
theorem aY.below(hs:aY B H m w){w':World}(hb:Bel w.heap.size w w'):aY B H m w':=by
 refine⟨λid cells hin hd=>?_,hs.inj⟩;obtain⟨ht,fl⟩:=hs.entry id cells hin hd;refine⟨ht,?_⟩
 rcases fl with h|⟨b,C,cs,e,h1,h2,h3,h4,h5,h6⟩|⟨b,es,clk,h1,h2,h3,h4,h5⟩
 .exact .inl h
 .exact .inr (.inl ⟨b,C,cs,e,h1,(hb.block b (dR hs ⟨id,cells,C,hin,hd,h1⟩)).trans h2,h3,h4,h5,λj p v hp hv=>(h6 j p v hp hv).mono (Mm.le.refl m) (λ_ _ h=>h) (λb bv _=>hb.block b bv)⟩)
 .exact .inr (.inr ⟨b,es,clk,h1,h2,(hb.block b (dR hs ⟨id,cells,0,hin,hd,h1⟩)).trans h3,h4,h5⟩)
theorem Dm(hs:aY B H m w)(a5:∀id cs,aU h id=some cs->(id,cs)∈H)(hB:B.n<=w.heap.size){t tx e sz:Nat}{ex:TypeId×Nat}{by_:Nat}{z:List AV}(ht:slE P t=some (e,sz))(bf:slE P tx=some ex)(bi:byE P e=some by_)(hz:dW P e=some z){x s:Value}{xa:AV}{k2:Nat}{news:List AV}{c:Prop}(ao:gO h sz xa=some (k2,news,c))(hc:c)(hx:al B (LB m H) m w xa x){q:List PV}(hq:pvs news=some q){own:Bool}{k:Nat}{cells:List PV}(dr:al B (LB m H) m w (.w own true (.sl k cells)) s)(c1:cells.length=k*sz)(c3:z.length=sz)(c6:k+k2<=1000000000)(c7:by_<=100000)(ty:TypeId):∃v' w',(Builtin.append_ #[t,tx] ty #[s,x]).run P w=.ok v' w'/\Bel w.heap.size w w'/\aY B H m w'/\al B (LB m H) m w' (.w (fD q&&(own || cells.isEmpty)) false (.sl (k+k2) (cells++q))) v':=by
 obtain⟨ba,i,hi,bq⟩:=jm ht;obtain⟨bg,_⟩:=jm (e:=ex.1) (z:=ex.2) bf;obtain⟨iz,vz,dl,hzero,rfl⟩:=o7 hz;rw[hi] at dl;cases dl
 have ck:i.bytes<=100000:=by
  have:i.bytes=by_:=by simpa[byE,hi] using bi
  omega
 obtain⟨ax,cx,us,rfl,cf,ct,ag,d6⟩:=uJ ao hc hs a5 hx;obtain⟨a0,cap,rfl,hk,cm,gv,dw⟩:=dr.m7;have b4:=cm rfl;subst b4;obtain⟨gh,j2⟩:=Dl hq
 have i0:vz.cells.size=sz:=by rw[<-c3];simp
 have ej:∀(w2:World)(j:Nat)(p:PV)(u:Value),q[j]?=some p->us[j]?=some u->(∀b,b<w.heap.size->¬LB m H b->w2.heap[b]?=w.heap[b]?)->Rep (Good B (LB m H) (fD q&&(own || cells.isEmpty))) w2 p u:=by
  intro w2 j p u hp hu jg;obtain⟨o,f,hn⟩:=j2 j p hp;have:=d6 j _ u hn hu
  cases this with
  |w hr _=>
   cases i9:fD q with
   |true=>exact uI (Dk i9 j p hp) hr
   |false=>exact hr.mono (λb _ hg=>⟨hg.1,(λh=>by simp at h),hg.2.2⟩) (λb hb hg=>jg b hb hg.1)
 by_cases g0:k2=0
 .subst g0;have eu:us=[]:=ia (by omega);have j6:q=[]:=ia (by rw[<-gh,ct];simp);subst eu;subst j6;refine⟨_,w,yq ba bg hi bq ty a0 k k 0 _ ax cx rfl [] (ag w rfl) (by omega) w (λad _=>rfl) (λ_=>rfl),Bel.refl _ _,hs,?_⟩;simp only[xp,nK,fD,fz];refine .w ?_ nofun
  cases dr with
  |w hr _=>
   cases eb:cells with
   |nil=>
    rw[eb] at hr
    cases hr with
    |slnil=>exact .slnil
    |sl vals h1 h2 h3 h4=>exact .slz h1
    |slz h1=>exact .slz h1
   |cons y ys=>
    rw[eb] at hr
    grind
 .obtain⟨os,io,bh,gw⟩:∃os:List Value,os.length=k*sz/\(Builtin.firstCells sz k (.slice a0 k k)).run P w.drew=.ok os.toArray w.drew/\∀(j:Nat)(p:PV)(v:Value),cells[j]?=some p->os[j]?=some v->Rep (Good B (LB m H) own) w p v:=by
   cases eb:cells with
   |nil=>
    have co:k*sz=0:=by rw[<-c1,eb];rfl
    exact⟨[],co.symm,mL sz k a0 k [] co.symm (λ_=>co) (λ_ _ j u hj=>by simp at hj),λj p v hp=>by simp at hp⟩
   |cons y ys=>
    obtain⟨b,off,vals,rfl,h3,h4,h5⟩:=dw (by rw[eb];simp);rw[<-eb];refine⟨(List.range cells.length).map vals,by simp[c1],mL sz k _ k _ (by simp[c1]) nofun (λad e j u hj=>?_),λj p v hp hv=>?_⟩
    .cases e;obtain⟨y',hy,rfl⟩:=fS hj;obtain⟨av,rfl⟩:=dP.1 hy;simp only[oV] at av;simp only[rO];rw[Addr.ja];exact h3 j av
    grind
  obtain⟨nc,rest,dg,d3,a4⟩:=yr ba bg hi bq hzero ty a0 k k k2 _ ax cx rfl us os (ag w.drew rfl) bh (by omega) c6 ck;have aq:(k+k2)*sz=k*sz+k2*sz:=fL _ _ _;refine⟨_,_,a4,⟨rfl,rfl,by rw[yj];simp,λb hb=>iU w.drew _ hb⟩,hs.below ⟨rfl,rfl,by rw[yj];simp,λb hb=>iU w.drew _ hb⟩,.w ?_ nofun⟩;have b9:=uD w.drew (.cells (os.toArray++us.toArray++rest) e)
  have a6:∀j,j<os.length+us.length->(w.drew.alloc (.cells (os.toArray++us.toArray++rest) e)).cell? ⟨w.heap.size,0+j,none⟩=some ((os++us).getD j undef):=by
   intro j hj;rw[cY,mJ (b:=w.heap.size) b9];rw[xq,az (by simpa using hj)];simp_all
  refine .sl (b:=w.heap.size) (off:=0) (λj=>(os++us).getD j undef) dg (λj hj=>a6 j ?_) (λ_=>⟨λhl=>?_,λ_=>hB,λhl=>?_⟩) (λj p hp=>?_)
  .have j7:q.length=us.length:=by rw[<-gh,ct,cf]
   have:j<cells.length+q.length:=by grind
   omega
  .have:=dR hs hl;omega
  .omega
  .rw[Ii] at hp;split at hp
   .rename_i hj
    have dm:j<os.length:=by omega
    have hv:(os++us).getD j undef=os[j]:=by grind
    rw[hv];have hr:=gw j p _ hp (cG dm);refine hr.mono (λb _ hg=>⟨hg.1,λhf=>?_,hg.2.2⟩) (λb hb hg=>iU w.drew _ hb)
    cases own with
    |true=>exact hg.2.1 rfl
    |false=>
     have aw:cells≠[]:=by rintro rfl;simp at hj
     have:cells.isEmpty=false:=by cases cells<;>simp_all
     simp_all
   .rename_i hj;have jt:j-cells.length<q.length:=(dP.1 hp).1
    have ii:j-os.length<us.length:=by
     have j7:q.length=us.length:=by rw[<-gh,ct,cf]
     omega
    have hv:(os++us).getD j undef=us[j-os.length]:=by grind
    rw[hv]
    have e1:j-cells.length=j-os.length:=by omega
    rw[e1] at hp;exact ej _ (j-os.length) p _ hp (cG ii) (λb hb _=>iU w.drew _ hb)
theorem Jt(args:Array Operand)(tys:Array TypeId)(o:Oper)(ho:o.op=.call { callee:=.builtin .append,args:=args,argTypes:=tys }){c:Prop}{v:AV}{E:List (List AV)}(h0:aOp P h n (ev env) (.call { callee:=.builtin .append,args:=args,argTypes:=tys })=some (c,v,E))(hc:c)(hs:aY B H m w)(hB:B.n<=w.heap.size)(a5:∀id cs,aU h id=some cs->(id,cs)∈H)(aa:∀x∈args.toList,al B (LB m H) m w (ev env x) (a.eval x)):QOk P B H m w n E.length (execOp a.eval o) v:=by
 simp only[aOp] at h0
 match hA:args.toList,hT:tys.toList with
 |[s,x],[t,tx]=>
  rw[hA,hT] at h0;simp only[nN,xr,Bc,Bb] at h0;split at h0
  .rename_i e sz _ ht bf;split at h0
   .rename_i by_ z k2 news c0 bi hz ao;split at h0
    .rename_i own k cells es;split at h0
     .rename_i q hq;cases h0;obtain⟨i1,c1,c3,_,c6,c7⟩:=hc;have h1:=aa s (by rw[hA];simp);have h2:=aa x (by rw[hA];simp);rw[es] at h1;obtain⟨v',w',a4,hb,ee,hv⟩:=Dm hs a5 hB ht bf bi hz ao i1 h2 hq h1 c1 c3 c6 c7 o.type;refine⟨v',w',m,?_,Mm.le.refl m,λi=>⟨.inl,λh=>h.elim id λh=>by grind⟩,hb,ee,λb hb=>.inl hb,hv⟩
      have ha:args=#[s,x]:=by rw[<-nL (xs:=args),hA]
      have er:tys=#[t,tx]:=by rw[<-nL (xs:=tys),hT]
      subst ha er;simp[execOp,ho,resolve,invoke,builtin,a4]
     .cases h0
    .cases h0
   .cases h0
  .cases h0
 |[],_=>rw[hA] at h0;trivial
 |[_],_=>rw[hA] at h0;trivial
 |_::_::_::_,_=>rw[hA] at h0;trivial
 |[_,_],[]=>rw[hA,hT] at h0;trivial
 |[_,_],[_]=>rw[hA,hT] at h0;trivial
 |[_,_],_::_::_::_=>rw[hA,hT] at h0;trivial
end
section
variable{P:Program}{B:Base}{m:Mm}{w:World}{H h:ae}{n:Nat}{env:Env}{a:Act}{L:Nat->Prop}
omit [ak] in
theorem fo{r:Sem Next}{v:AV}{E:List (List AV)}(hs:aY B H m w)(hv:E=[]/\fe P B H m w r v):QOk P B H m w n E.length r v:=by
 obtain⟨rfl,hv⟩:=hv;exact hv.q hs
omit [ak] in
theorem Ju(o:Oper){c:Prop}{v:AV}{E:List (List AV)}(h0:aOp P h n (ev env) o.op=some (c,v,E))(hc:c)(hs:aY B H m w)(hB:B.n<=w.heap.size)(a5:∀id cs,aU h id=some cs->(id,cs)∈H)(hE:∀k cs,E[k]?=some cs->(n+k,cs)∈H)(aj:∀k,k<E.length->¬m.dom (n+k))(hx:∀x,x∈o.op.operands->al B (LB m H) m w (ev env x) (a.eval x)):QOk P B H m w n E.length (execOp a.eval o) v:=by
 cases ho:o.op with
 |move x=>
  rw[ho] at h0 hx;simp only[aOp,a7,bE] at h0;obtain⟨rfl,rfl,rfl⟩:=h0;exact fo hs ⟨rfl,_,by simp[execOp,ho],hx x (by simp[Op.operands])⟩
 |assign x=>
  rw[ho] at h0 hx;simp only[aOp,a7,bE] at h0;obtain⟨rfl,rfl,rfl⟩:=h0;exact fo hs ⟨rfl,_,by simp[execOp,ho],hx x (by simp[Op.operands])⟩
 |pick x y z=>rw[ho] at h0 hx;exact fo hs (IX x y z o ho h0 (hx x (by simp[Op.operands])) (hx y (by simp[Op.operands])) (hx z (by simp[Op.operands])))
 |alloc t=>rw[ho] at h0;exact Jm t o ho h0 hs hB hE aj
 |box t x=>rw[ho] at h0 hx;exact Jn t x o ho h0 hc hs hB hE aj (hx x (by simp[Op.operands]))
 |build t ps=>rw[ho] at h0 hx;exact fo hs (Jl t ps o ho h0 (λx hm=>hx x (by simpa[Op.operands] using hm)))
 |buildSlice t l ps=>rw[ho] at h0 hx;exact Jo t l ps o ho h0 hc hs hB hE aj (λx hm=>hx x (by simpa[Op.operands] using hm))
 |load t x=>rw[ho] at h0 hx;exact fo hs (CY t x o ho h0 hc hs a5 (hx x (by simp[Op.operands])))
 |nilCheck x=>rw[ho] at h0 hx;exact fo hs (Jd x o ho h0 (hx x (by simp[Op.operands])))
 |binOp op t x y yt=>
  rw[ho] at h0 hx;have h1:=hx x (by simp[Op.operands]);have h2:=hx y (by simp[Op.operands]);simp only[aOp] at h0;split at h0
  .rename_i k hk;split at h0
   .rename_i r hr;split at h0
    .cases h0;exact fo hs ⟨rfl,CV .eql (.inl rfl) t x y yt hk hr h1 h2 hc.1 hc.2 o ho⟩
    .cases h0;exact fo hs ⟨rfl,CV .neq (.inr rfl) t x y yt hk hr h1 h2 hc.1 hc.2 o ho⟩
    .cases h0
   .cases h0
  .split at h0
   .rename_i ox fx p oy fy q ex ey;split at h0
    .rename_i c' v' hb;cases h0;exact fo hs ⟨rfl,IT op t x y yt ex ey hb hc h1 h2 o ho⟩
    .cases h0
   .cases h0
 |unOp op t x=>rw[ho] at h0 hx;exact fo hs (Pv op t x o ho h0 hc (hx x (by simp[Op.operands])))
 |convert s d x=>rw[ho] at h0 hx;exact fo hs (IV s d x o ho h0 hc (hx x (by simp[Op.operands])))
 |makeInterface t x=>rw[ho] at h0 hx;exact fo hs (IU t x o ho h0 (hx x (by simp[Op.operands])))
 |makeFunc f fs cs=>rw[ho] at h0 hx;exact fo hs (Je f fs cs o ho h0 (λx hm=>hx x (by simp[Op.operands,qm.1 hm])))
 |makeSlice t x y=>rw[ho] at h0 hx;exact Jp t x y o ho h0 hc hs hB hE aj (hx x (by simp[Op.operands])) (hx y (by simp[Op.operands]))
 |slice t x lo hi mx=>
  rw[ho] at h0 hx;exact fo hs (Jh t x lo hi mx o ho h0 hc (hx x (by simp[Op.operands])) (λy e=>hx y (by simp[Op.operands,e])) (λy e=>hx y (by simp[Op.operands,e])) (λy e=>hx y (by simp[Op.operands,e])))
 |fieldAddr s x f=>rw[ho] at h0 hx;exact fo hs (IY s x f o ho h0 (hx x (by simp[Op.operands])))
 |field s x f=>rw[ho] at h0 hx;exact fo hs (I5 s x f o ho h0 hc (hx x (by simp[Op.operands])))
 |indexAddr t x i=>rw[ho] at h0 hx;exact fo hs (I7 t x i o ho h0 hc (hx x (by simp[Op.operands])) (hx i (by simp[Op.operands])))
 |index t x i=>rw[ho] at h0 hx;exact fo hs (I8 t x i o ho h0 hc (hx x (by simp[Op.operands])) (hx i (by simp[Op.operands])))
 |lookup t x k c0=>rw[ho] at h0 hx;exact fo hs (Js t x k c0 o ho h0 hc hs a5 (hx x (by simp[Op.operands])) (hx k (by simp[Op.operands])))
 |extract x i=>rw[ho] at h0 hx;exact fo hs (I9 x i o ho h0 (hx x (by simp[Op.operands])))
 |call cl=>
  rw[ho] at h0 hx;obtain⟨callee,args,tys⟩:=cl
  cases callee with
  |builtin b=>
   have aa:∀x∈args.toList,al B (LB m H) m w (ev env x) (a.eval x):=λx hm=>hx x (by simp[Op.operands,Call.operands,qm.1 hm])
   cases b with
   |len=>exact fo hs (Ja args tys o ho h0 aa)
   |max=>exact fo hs (Jb args tys o ho h0 aa)
   |min=>exact fo hs (Jc args tys o ho h0 aa)
   |append=>exact Jt args tys o ho h0 hc hs hB a5 aa
   |_=>simp[aOp] at h0
  |_=>simp[aOp] at h0
 |_=>rw[ho] at h0;simp[aOp] at h0
end
def Bf(P:Program)(f:FuncId):Prop:=∃fn,P.funcs[f]?=some fn/\(fn.name == "runtime.NumGoroutine")=false/\fn.body.isNone=false
def aB(P:Program)(f:FuncId)(args:List PV)(res:PV)(fr:Bool):Prop:=
 Bf P f/\∀(G:Nat->Prop)(w:World)(vs:Array Value),ak.ok w->args.length=vs.size->(∀(j:Nat)(p:PV)(v:Value),args[j]?=some p->vs[j]?=some v->Rep G w p v) ->
  jw P f vs w λe w'=>∃v,e=.returned v/\Bel w.heap.size w w'/\Rep (λb=>(b<w.heap.size->G b)/\(fr=true->w.heap.size<=b)) w' res v
def isW:AV->Bool
 |.w _ _ _=>true
 |_=>false
def qN:List AV->Bool
 |[]=>true
 |x::r=>isW x&&qN r
def wF:AV->Bool
 |.w _ _ _=>true
 |.agg cs=>qN cs
 |.fn _ cs=>qN cs
 |_=>false
def lX:List AV->Bool
 |[]=>true
 |x::r=>wF x&&lX r
section
variable{P:Program}{B:Base}{m:Mm}{w:World}{H h:ae}{n:Nat}{env:Env}{a:Act}{L:Nat->Prop}
omit [ak] in
theorem jo{α β:Type}{f:α->Option β}:∀{l:List α}{r:List β},l.mapM f=some r->l.length=r.length/\∀(j:Nat)(y:β),r[j]?=some y->∃x,l[j]?=some x/\f x=some y
 |[],r,h=>by simp_all
 |x::l,r,h=>by
  simp only[xo] at h
  cases hx:f x with
  |none=>grind
  |some y=>
   simp only[hx,Option.bind_eq_bind,iP] at h
   cases hr:l.mapM f with
   |none=>grind
   |some r'=>
    simp only[hr,iP] at h;cases h;obtain⟨h1,h2⟩:=jo hr
    grind
def dY(h:ae):Nat->AV->Bool
 |_,.w own _ p=>own || flat p
 |0,_=>false
 |d+1,.ptr id _ _=>match aU h id with
  |some cells=>cells.all (dY h d)
  |none=>false
 |d+1,.msl id _ _ _ _=>match aU h id with
  |some cells=>cells.all (dY h d)
  |none=>false
 |d+1,.agg cs=>cs.all (dY h d)
 |d+1,.tup cs=>cs.all (dY h d)
 |d+1,.fn _ c=>c.all (dY h d)
 |_+1,.mp _=>false
omit [ak] in
theorem mM(hs:aY B H m w)(a5:∀id cs,aU h id=some cs->(id,cs)∈H){G':Nat->Prop}(fr:Bool)(hG1:∀b,B.n<=b->G' b)(hG2:fr=false->∀b,Good B (LB m H) false b->G' b):∀(d:Nat)(x:AV)(p:PV)(v:Value),frz h d x=some p->(fr=true->dY h d x=true)->al B (LB m H) m w x v->Rep G' w p v
 |d,.w o f q,p,v,hf,au,hr=>by
  have:q=p:=by cases d<;>(simp[frz] at hf;exact hf)
  subst this
  cases hr with
  |w hr _=>
   cases ed:fr with
   |false=>exact hr.imp λb hg=>hG2 ed b ⟨hg.1,nofun,hg.2.2⟩
   |true=>
    have h1:=au ed
    have h2:(o || flat q)=true:=by cases d<;>exact h1
    cases o with
    |true=>exact hr.imp λb hg=>hG1 b (hg.2.1 rfl)
    |false=>exact uI (by grind) hr
 |0,.ptr ..,_,_,hf,_,_=>by trivial
 |0,.msl ..,_,_,hf,_,_=>by trivial
 |0,.agg _,_,_,hf,_,_=>by trivial
 |0,.tup _,_,_,hf,_,_=>by trivial
 |0,.fn _ _,_,_,hf,_,_=>by trivial
 |0,.mp _,_,_,hf,_,_=>by trivial
 |_+1,.mp _,_,_,hf,_,_=>by trivial
 |d+1,.ptr id ver off,p,v,hf,au,hr=>by
  simp only[frz] at hf;split at hf
  .rename_i cells hg;split at hf
   .rename_i d7
    cases hm:cells.mapM (frz h d) with
    |none=>grind
    |some r=>
     simp only[hm,cQ,a7] at hf;subst hf;obtain⟨h1,h2⟩:=jo hm;obtain⟨b,C,rfl,hd,hvC,ha⟩:=hr.oC;rw[<-d7] at ha hvC;obtain⟨cs,e,hh,hC,hle,hbB,a6⟩:=hs.read (a5 id cells hg) hd ha hvC.2
     have:=Rep.ip (G:=G') (w:=w) (o:=off) (b:=b) (off:=0) (cells:=r) (λj=>cs.getD j undef) (λj hj=>by
      have:j<cs.size:=by omega
      rw[cY,mJ hh];simp[this]) (λ_=>hG1 b hbB) (λj q hq=>by
      obtain⟨x,hx,dj⟩:=h2 j q hq
      have hj:j<cs.size:=by have:=(dP.1 hx).1;omega
      exact mM hs a5 fr hG1 hG2 d x q _ dj (λe=>by have:=au e;simp only[dY,hg] at this;grind) (a6 j x _ hx (by simp[hj])))
     rw[cY] at this;exact this
   .cases hf
  .cases hf
 |d+1,.msl id ver sz off k,p,v,hf,au,hr=>by
  simp only[frz] at hf;split at hf
  .rename_i cells hg;split at hf
   .rename_i d7
    cases hm:cells.mapM (frz h d) with
    |none=>grind
    |some r=>
     simp only[hm,cQ,a7,ya] at hf;subst hf;obtain⟨h1,h2⟩:=jo hm;obtain⟨a0,cap,rfl,hk,hd,_,h3,h4⟩:=hr.m8;rw[<-d7] at h3 h4
     cases ha:m.addr id cells.length with
     |none=>
      obtain⟨rfl,h5⟩:=h3 ha;have j8:r=[]:=ia (by omega);subst j8
      have:k=0:=by omega
      subst this
      cases a0 with
      |none=>simpa using Rep.slnil
      |some a1=>simpa using Rep.slz (aD _)
     |some bc=>
      obtain⟨b,C⟩:=bc;obtain⟨h5,h6,h7⟩:=h4 b C ha;obtain⟨cs,e,hh,hC,hle,hbB,a6⟩:=hs.read (a5 id cells hg) hd ha (by omega)
      cases hL:(r.drop off).take (k*sz) with
      |nil=>
       cases a0 with
       |none=>
        have b4:cap=0:=by
         simp_all
        subst b4
        have:k=0:=by omega
        subst this;exact .slnil
       |some a1=>exact .slz hk
      |cons x xs=>
       have b4:0<cap:=by
        rcases jI cap with h|h
        .have:k=0:=by omega
         rw[this] at hL;simp at hL
        .exact h
       rw[h5 b4,<-hL];refine .sl (λj=>cs.getD (off+j) undef) hk (λj hj=>?_) (λ_=>hG1 b hbB) (λj q hq=>?_)
       .rw[nM,xn] at hj
        have:off+j<cs.size:=by omega
        rw[mJ hh];simp[this]
       .rw[jH] at hq;split at hq
        .rw[xl] at hq;obtain⟨x,hx,dj⟩:=h2 _ q hq
         have hj:off+j<cs.size:=by have:=(dP.1 hx).1;omega
         exact mM hs a5 fr hG1 hG2 d x q _ dj (λe=>by have:=au e;simp only[dY,hg] at this;grind) (a6 _ x _ hx (by simp[hj]))
        .cases hq
   .cases hf
  .cases hf
 |d+1,.agg cs,p,v,hf,au,hr=>by
  simp only[frz] at hf
  cases hm:cs.mapM (frz h d) with
  |none=>grind
  |some r=>
   simp only[hm,cQ,a7] at hf;subst hf;obtain⟨h1,h2⟩:=jo hm;obtain⟨vs,rfl,hl,hc⟩:=hr.GY
   exact .agg (by omega) (λj q u hq hu=>by
    obtain⟨x,hx,dj⟩:=h2 j q hq
    exact mM hs a5 fr hG1 hG2 d x q u dj (λe=>by have:=au e;simp only[dY] at this;grind) (hc j x u hx hu))
 |d+1,.tup cs,p,v,hf,au,hr=>by
  simp only[frz] at hf
  cases hm:cs.mapM (frz h d) with
  |none=>grind
  |some r=>
   simp only[hm,cQ,a7] at hf;subst hf;obtain⟨h1,h2⟩:=jo hm;obtain⟨vs,rfl,hl,hc⟩:=hr.wD
   exact .tup (by omega) (λj q u hq hu=>by
    obtain⟨x,hx,dj⟩:=h2 j q hq
    exact mM hs a5 fr hG1 hG2 d x q u dj (λe=>by have:=au e;simp only[dY] at this;grind) (hc j x u hx hu))
 |d+1,.fn g cs,p,v,hf,au,hr=>by
  simp only[frz] at hf
  cases hm:cs.mapM (frz h d) with
  |none=>grind
  |some r=>
   simp only[hm,cQ,a7] at hf;subst hf;obtain⟨h1,h2⟩:=jo hm
   cases hr with
   |fn hl hc=>
    exact .fn (by omega) (λj q u hq hu=>by
     obtain⟨x,hx,dj⟩:=h2 j q hq
     exact mM hs a5 fr hG1 hG2 d x q u dj (λe=>by have:=au e;simp only[dY] at this;grind) (hc j x u hx hu))
end
def jW(h:ae):List AV->Option (List PV)
 |[]=>some []
 |x::r=>match frz h 6 x with
  |some p=>match jW h r with
   |some q=>some (p::q)
   |none=>none
  |none=>none
inductive Mark{α:Type}(a:α):Type where
 |it
def oD(fr:Bool)(p:PV):Bool:=fr && !flat p
def AV.sh(n:Nat):AV->AV
 |.w o f p=>.w o f p
 |.ptr id v off=>.ptr (id+n) v off
 |.msl id v sz off k=>.msl (id+n) v sz off k
 |.mp id=>.mp (id+n)
 |.agg cs=>.agg (shL n cs)
 |.tup cs=>.tup (shL n cs)
 |.fn f cs=>.fn f (shL n cs)
where shL (n:Nat):List AV->List AV
 |[]=>[]
 |x::r=>x.sh n::shL n r
def AV.frs:AV->Bool
 |.w o _ p=>o || flat p
 |.ptr _ _ _=>true
 |.msl _ _ _ _ _=>true
 |.mp _=>true
 |.agg cs=>jb cs
 |.tup cs=>jb cs
 |.fn _ cs=>jb cs
where jb:List AV->Bool
 |[]=>true
 |x::r=>x.frs&&jb r
section
omit [ak]
theorem Dn{n:Nat}{c:List AV}:iZ (AV.sh.shL n c)=iZ c:=by
 match c with
 |[]=>rfl
 |[x]=>cases x<;>simp[AV.sh.shL,AV.sh,iZ]
 |x::y::r=>simp[AV.sh.shL,iZ]
theorem Jv{n:Nat}{c:List AV}{l:List (PV×PV)}(h:eH (AV.sh.shL n c)=some l):eH c=some l:=by
 match c with
 |[]=>trivial
 |[x]=>
  cases x with
  |w o f p=>trivial
  |_=>simp[AV.sh.shL,AV.sh,eH] at h
 |x::y::r=>simp[AV.sh.shL,eH] at h
theorem Jw{n:Nat}{c:List AV}{l:List (PV×PV)}(h:eH c=some l):eH (AV.sh.shL n c)=some l:=by
 match c with
 |[]=>trivial
 |[x]=>
  cases x with
  |w o f p=>trivial
  |_=>simp[eH] at h
 |x::y::r=>simp[eH] at h
end
def aX(h:ae)(n:Nat):List (List AV)->ae
 |[]=>h
 |c::E=>(n,c)::aX h (n+1) E
def jz(P:Program)(f:FuncId)(args:List PV)(E:List (List AV))(v:AV):Prop:=
 Bf P f/\v.frs=true/\(∀c∈E,AV.frs.jb c=true)/\∀(G:Nat->Prop)(w:World)(vs:Array Value),ak.ok w->args.length=vs.size->(∀(j:Nat)(p:PV)(v:Value),args[j]?=some p->vs[j]?=some v->Rep G w p v) ->
  jw P f vs w λe w'=>∃u mm,e=.returned u/\Bel w.heap.size w w'/\(∀i,mm.dom i↔i<E.length)/\aY ⟨w.heap.size,G⟩ (aX [] 0 E) mm w'/\al ⟨w.heap.size,G⟩ (LB mm (aX [] 0 E)) mm w' v u
def CW(P:Program)(g:FuncId)(args:List PV)(K:PV->Bool->Prop)(K2:List (List AV)->AV->Prop)(_:Mark (K,K2)):Prop:=(∃res fr,aB P g args res fr/\K res fr)\/∃E v,jz P g args E v/\K2 E v
def qO(P:Program)(h:ae)(n:Nat)(g:FuncId)(args:List AV)(K:AV->List (List AV)->Prop):Prop:=
 match jW h args with
 |some pvs=>CW P g pvs (λres fr=>(fr=true\/lX args=true)/\K (.w (oD fr res) false res) []) (λE v=>K (v.sh n) (E.map (AV.sh.shL n))) .it
 |none=>False
def fp:AV->Option (FuncId×List AV)
 |.fn g aF=>some (g,aF)
 |.w own _ (.fn g aF)=>some (g,aF.map (AV.w own false))
 |_=>none
def bj(P:Program)(env:Env)(h:ae)(n:Nat)(op:Op)(K:AV->List (List AV)->Prop):Prop:=
 match op with
 |.call { callee:=.value f,args:=args,argTypes:=_ } =>
  match fp (ev env f) with
  |some (g,aF)=>qO P h n g (args.toList.map (ev env)++aF) K
  |none=>False
 |op=>match aOp P h n (ev env) op with
  |some (c,v,E)=>c/\K v E
  |none=>False
def ir(B:Base)(H:ae)(m:Mm)(w:World)(n k:Nat)(v:AV)(v':Value)(w':World)(m':Mm):Prop:=
 m.le m'/\(∀i,m'.dom i↔m.dom i\/(n<=i/\i<n+k))/\Bel w.heap.size w w'/\aY B H m' w'/\(∀b,LB m' H b->LB m H b\/w.heap.size<=b)/\al B (LB m' H) m' w' v v'
omit [ak] in
theorem Jx{fr:Bool}{p:PV}(h:oD fr p=true):fr=true:=by
 unfold oD at h;simp_all
section
variable{P:Program}{B:Base}{m:Mm}{w:World}{H h:ae}{n:Nat}{env:Env}{a:Act}{L:Nat->Prop}
section
omit [ak]
theorem yu:∀{l:List AV}{r:List PV},jW h l=some r->l.length=r.length/\∀(j:Nat)(p:PV),r[j]?=some p->∃x,l[j]?=some x/\frz h 6 x=some p
 |[],r,e=>by simp[jW] at e;simp_all
 |x::l,r,e=>by
  simp only[jW] at e;split at e
  .rename_i p hp;split at e
   .rename_i q hq;cases e;obtain⟨h1,h2⟩:=yu hq
    grind
   .cases e
  .cases e
theorem Dp:∀{l:List AV},lX l=true->∀(j:Nat)(x:AV),l[j]?=some x->wF x=true
 |[],_,j,x,h=>by simp at h
 |y::l,hp,j,x,h=>by
  simp only[lX,di] at hp
  cases j with
  |zero=>simp_all
  |succ j=>exact Dp hp.2 j x (by simpa using h)
theorem yw:∀{l:List AV},qN l=true->∀(j:Nat)(x:AV),l[j]?=some x->isW x=true
 |[],_,j,x,h=>by simp at h
 |y::l,hp,j,x,h=>by
  simp only[qN,di] at hp
  cases j with
  |zero=>simp_all
  |succ j=>exact yw hp.2 j x (by simpa using h)
end
theorem Jy(hO:ak.ok w)(hs:aY B H m w)(hB:B.n<=w.heap.size)(a5:∀id cs,aU h id=some cs->(id,cs)∈H)(o:Oper)(f:Operand)(args:Array Operand)(tys:Array TypeId)(ho:o.op=.call { callee:=.value f,args:=args,argTypes:=tys })(hx:∀x,x∈o.op.operands->al B (LB m H) m w (ev env x) (a.eval x)){g:FuncId}{aF:List AV}(hf:fp (ev env f)=some (g,aF)){pvs:List PV}(hp:jW h (args.toList.map (ev env)++aF)=some pvs){res:PV}{fr:Bool}(hc:aB P g pvs res fr)(au:fr=true\/lX (args.toList.map (ev env)++aF)=true)(K:Act->World->Prop)(Q:Exit->Act->World->Prop)(hK:∀v' w' m',ir B H m w n 0 (.w (oD fr res) false res) v' w' m'->K (a.put o.dst v') w'):o.wpt P a w K Q:=by
 obtain⟨⟨fn,fq,ek,eg⟩,bl⟩:=hc;have bz:al B (LB m H) m w (ev env f) (a.eval f):=hx f (by rw[ho];simp[Op.operands,Call.operands])
 have jp:∀x∈args.toList,al B (LB m H) m w (ev env x) (a.eval x):=λx hm=>hx x (by rw[ho];simp[Op.operands,Call.operands,qm.1 hm])
 have ed:∃cv:Array Value,a.eval f=.func (.func g) #[] cv/\aF.length=cv.size/\∀(j:Nat)(p:AV)(v:Value),aF[j]?=some p->cv[j]?=some v->al B (LB m H) m w p v:=by
  unfold fp at hf;split at hf
  .rename_i g' cg e
   injection hf with hf;injection hf with h1 h2;subst h1;subst h2
   rw[e] at bz;generalize hv:a.eval f=vf at bz
   cases bz with|fn h1 h2=>grind
  .rename_i own f' g' cg e
   injection hf with hf;injection hf with h1 h2;subst h1;subst h2
   rw[e] at bz;generalize hv:a.eval f=vf at bz
   cases bz with
   |w h1 _=>
    cases h1 with
    |fn h1 h2=>
     refine⟨_,rfl,by grind,λj p v hp hv=>?_⟩;obtain⟨q,hq,rfl⟩:=fS hp;exact .w (h2 j q v hq hv) nofun
  .cases hf
 obtain⟨cv,fm,dc,i6⟩:=ed
 have ez:∀(j:Nat)(x:AV)(v:Value),(args.toList.map (ev env)++aF)[j]?=some x->(args.map a.eval++cv)[j]?=some v->al B (LB m H) m w x v:=by
  grind
 obtain⟨g1,ew⟩:=yu hp
 have hlen:pvs.length=(args.map a.eval++cv).size:=by rw[<-g1];simp[dc]
 have a4:(execOp a.eval o).run P w=.ok (.enter g (args.map a.eval++cv)) w:=by
  have g2:¬fn.name = "runtime.NumGoroutine" := by simp_all
  have bv:¬fn.body=none:=by grind
  simp[execOp,ho,resolve,fm,Deferred.ofValue,invoke,callFunc,fq,g2,bv]
 unfold Oper.wpt;rw[a4,Oper.AZ]
 rcases au with au|em
 .subst au
  refine (bl (λ_=>True) w _ hO hlen (λj p v hp hv=>by
   obtain⟨x,hx,d8⟩:=ew j p hp
   exact mM hs a5 false (λ_ _=>trivial) (λ_ _ _=>trivial) 6 x p v d8 nofun (ez j x v hx hv))).mono ?_
  rintro e w' ⟨v,rfl,hb,hr⟩
  refine hK v w' m ⟨Mm.le.refl m,λi=>⟨.inl,λh=>h.elim id λh=>by omega⟩,hb,hs.below hb,λb h=>.inl h,.w (hr.imp λb hg=>?_) nofun⟩;have bv:=hg.2 rfl;exact⟨λhl=>by have:=dR hs hl;omega,λ_=>by omega,λh=>by omega⟩
 .refine (bl (Good B (LB m H) false) w _ hO hlen (λj p v hp hv=>by
   obtain⟨x,hx,d8⟩:=ew j p hp;have g8:=Dp em j x hx;have hr:=ez j x v hx hv
   cases x with
   |w o f q=>
    have:q=p:=by simpa[frz] using d8
    subst this
    cases hr with|w hr _=>exact hr.imp λb hg=>⟨hg.1,nofun,hg.2.2⟩
   |agg cs=>
    cases hm:cs.mapM (frz h 5) with
    |none=>simp[frz,hm] at d8
    |some r=>
     simp only[frz,hm,cQ,a7] at d8;subst d8;obtain⟨h1,h2⟩:=jo hm
     cases hr with
     |agg hl a6=>
      refine .agg (by omega) (λi q u hq hu=>?_);obtain⟨y,hy,gi⟩:=h2 i q hq;have gk:isW y=true:=yw g8 i y hy;have gj:=a6 i y u hy hu
      cases y with
      |w o f q'=>
       have:q'=q:=by simpa[frz] using gi
       subst this
       cases gj with|w hr _=>exact hr.imp λb hg=>⟨hg.1,nofun,hg.2.2⟩
      |_=>cases gk
   |fn gg cs=>
    cases hm:cs.mapM (frz h 5) with
    |none=>simp[frz,hm] at d8
    |some r=>
     simp only[frz,hm,cQ,a7] at d8;subst d8;obtain⟨h1,h2⟩:=jo hm
     cases hr with
     |fn hl a6=>
      refine .fn (by omega) (λi q u hq hu=>?_);obtain⟨y,hy,gi⟩:=h2 i q hq;have gk:isW y=true:=yw g8 i y hy;have gj:=a6 i y u hy hu
      cases y with
      |w o f q'=>
       have:q'=q:=by simpa[frz] using gi
       subst this
       cases gj with|w hr _=>exact hr.imp λb hg=>⟨hg.1,nofun,hg.2.2⟩
      |_=>cases gk
   |_=>cases g8)).mono ?_
  rintro e w' ⟨v,rfl,hb,hr⟩
  refine hK v w' m ⟨Mm.le.refl m,λi=>⟨.inl,λh=>h.elim id λh=>by omega⟩,hb,hs.below hb,λb h=>.inl h,.w (hr.imp λb hg=>?_) nofun⟩
  rcases dN b w.heap.size with av|js
  .have gq:=hg.1 av;exact⟨gq.1,λh=>by have:=hg.2 (Jx h);omega,gq.2.2⟩
  .exact⟨λhl=>by have:=dR hs hl;omega,λ_=>by omega,λh=>by omega⟩
section
omit [ak]
theorem gd(n:Nat):∀cs:List AV,AV.sh.shL n cs=cs.map (AV.sh n)
 |[]=>rfl
 |x::r=>by simp[AV.sh.shL,gd n r]
theorem r8:∀{cs:List AV},AV.frs.jb cs=true->∀(j:Nat)(x:AV),cs[j]?=some x->x.frs=true
 |[],_,j,x,h=>by simp at h
 |y::l,hp,j,x,h=>by
  simp only[AV.frs.jb,di] at hp
  cases j with
  |zero=>simp_all
  |succ j=>exact r8 hp.2 j x (by simpa using h)
theorem al.up{B1:Base}{L1 L2:Nat->Prop}{mm m':Mm}{w':World}{n:Nat}{x:AV}{v:Value}(h:al B1 L1 mm w' x v)(hd:∀i,mm.dom i->m'.dom (i+n))(ht:∀i,mm.dom i->m'.top (i+n)=mm.top i)(ha:∀i ver,mm.dom i->m'.addr (i+n) ver=mm.addr i ver)(hG:∀b,B1.n<=b->¬L1 b->Good B L2 true b)(au:x.frs=true):al B L2 m' w' (x.sh n) v:=by
 induction h with
 |@w own full p v hr hf=>
  refine .w ?_ hf
  cases own with
  |true=>exact hr.imp λb hg=>hG b (hg.2.1 rfl) hg.1
  |false=>exact uI (by trivial) hr
 |ptr bb ba f9 hC=>exact .ptr (hd _ bb) (by rw[ht _ bb];exact ba) ((ha _ _ bb).trans f9) hC
 |mp bb ba f9=>exact .mp (hd _ bb) (by rw[ht _ bb];exact ba) ((ha _ _ bb).trans f9)
 |msl bb ba hn h0 h1=>exact .msl (hd _ bb) (by rw[ht _ bb];exact ba) hn (λe=>h0 ((ha _ _ bb).symm.trans e)) (λb C e=>h1 b C ((ha _ _ bb).symm.trans e))
 |@agg cs vs hl _ ih=>
  rw[AV.sh,gd];refine .agg (by grind) (λj p v hp hv=>?_);obtain⟨q,hq,rfl⟩:=fS hp;exact ih j q v hq hv (r8 au j q hq)
 |@tup cs vs hl _ ih=>
  rw[AV.sh,gd];refine .tup (by grind) (λj p v hp hv=>?_);obtain⟨q,hq,rfl⟩:=fS hp;exact ih j q v hq hv (r8 au j q hq)
 |@fn f cs vs hl _ ih=>
  rw[AV.sh,gd];refine .fn (by grind) (λj p v hp hv=>?_);obtain⟨q,hq,rfl⟩:=fS hp;exact ih j q v hq hv (r8 au j q hq)
end
def Mm.glue(m mm:Mm)(n len:Nat):Mm:=
 ⟨λi ver=>if n<=i/\i<n+len then mm.addr (i-n) ver else m.addr i ver,λi=>if n<=i/\i<n+len then mm.top (i-n) else m.top i,λi=>m.dom i\/(n<=i/\i<n+len)⟩
section
omit [ak]
theorem yx:∀(E:List (List AV))(h:ae)(n:Nat)(id:Nat)(c:List AV),(id,c)∈aX h n E↔(id,c)∈h\/∃k,E[k]?=some c/\id=n+k
 |[],h,n,id,c=>by simp[aX]
 |x::E,h,n,id,c=>by
  simp only[aX,db,bE,yx E h (n+1) id c];constructor
  .rintro (⟨rfl,rfl⟩|h1|⟨k,h1,rfl⟩)
   .exact .inr ⟨0,rfl,rfl⟩
   .exact .inl h1
   .exact .inr ⟨k+1,by simpa using h1,by omega⟩
  grind
theorem Jz{α:Type}{R:α->α->Prop}{l:List α}(h:l.Pairwise R)(hs:∀a b,R a b->R b a){x y:α}(hx:x∈l)(hy:y∈l):x=y\/R x y:=by
 rw[rV] at h;obtain⟨p,hp,ep⟩:=lI hx;obtain⟨q,hq,eq⟩:=lI hy
 grind
theorem JA(hs:aY B H m w)(hB:B.n<=w.heap.size){E:List (List AV)}{v:AV}(hv:v.frs=true)(hEf:∀c∈E,AV.frs.jb c=true)(hE:∀k cs,(E.map (AV.sh.shL n))[k]?=some cs->(n+k,cs)∈H)(aj:∀k,k<E.length->¬m.dom (n+k)){G:Nat->Prop}{w':World}{u:Value}{mm:Mm}(hb:Bel w.heap.size w w')(bd:∀i,mm.dom i↔i<E.length)(en:aY ⟨w.heap.size,G⟩ (aX [] 0 E) mm w')(hr:al ⟨w.heap.size,G⟩ (LB mm (aX [] 0 E)) mm w' v u):ir B H m w n E.length (v.sh n) u w' (m.glue mm n E.length):=by
 have hold:∀i,m.dom i->¬(n<=i/\i<n+E.length):=λi hd hi=>by
  have:=aj (i-n) (by omega);rw[show n+(i-n)=i by omega] at this;exact this hd
 have hle:m.le (m.glue mm n E.length):=⟨λi hd=>.inl hd,λi hd=>by simp only[Mm.glue,ai (hold i hd)];exact aD _,λi ver hd _=>by simp only[Mm.glue,ai (hold i hd)]⟩
 have cq:∀k c,E[k]?=some c->(k,c)∈aX [] 0 E:=λk c hk=>(yx E [] 0 k c).2 (.inr ⟨k,hk,by omega⟩)
 have b9:∀k c,(n+k,c)∈H->k<E.length->∃c0,E[k]?=some c0/\c=AV.sh.shL n c0:=λk c hin hk=>by
  have h1:=cG hk;refine⟨E[k],h1,?_⟩;have h2:=hE k (AV.sh.shL n E[k]) (by rw[gH,h1];rfl);exact hs.key hin h2
 have hLB:∀b,LB (m.glue mm n E.length) H b->LB m H b\/LB mm (aX [] 0 E) b:=by
  rintro b ⟨id,c,C,hin,hd,ha⟩
  by_cases hi:n<=id/\id<n+E.length
  .obtain⟨c0,h1,h2⟩:=b9 (id-n) c (by rw[show n+(id-n)=id by omega];exact hin) (by omega);simp only[Mm.glue,az hi] at ha;rw[h2,gd,hZ] at ha;exact .inr ⟨id-n,c0,C,cq _ _ h1,(bd _).2 (by omega),ha⟩
  .have bb:m.dom id:=by
    rcases hd with hd|hd
    .exact hd
    .exact absurd hd hi
   simp only[Mm.glue,ai hi] at ha;exact .inl ⟨id,c,C,hin,bb,ha⟩
 have hmmB:∀b,LB mm (aX [] 0 E) b->w.heap.size<=b:=by
  rintro b ⟨id,c,C,hin,hd,ha⟩
  exact (en.block hin hd ha).2
 have hG:∀b,w.heap.size<=b->¬LB mm (aX [] 0 E) b->Good B (LB (m.glue mm n E.length) H) true b:=λb ef fb=>⟨λhl=>by
  rcases hLB b hl with h1|h1
  .have:=dR hs h1;omega
  .exact fb h1,λ_=>by omega,λh=>by omega⟩
 have gy:∀x u,al ⟨w.heap.size,G⟩ (LB mm (aX [] 0 E)) mm w' x u->x.frs=true->al B (LB (m.glue mm n E.length) H) (m.glue mm n E.length) w' (x.sh n) u:=λx u h hf=>
  h.up (λi hd=>.inr ⟨by omega,by have:=(bd i).1 hd;omega⟩) (λi hd=>by have:=(bd i).1 hd;simp only[Mm.glue];rw[az ⟨by omega,by omega⟩,Nat.add_sub_cancel])
   (λi ver hd=>by have:=(bd i).1 hd;simp only[Mm.glue];rw[az ⟨by omega,by omega⟩,Nat.add_sub_cancel]) hG hf
 have bo:∀x u,al B (LB m H) m w x u->al B (LB (m.glue mm n E.length) H) (m.glue mm n E.length) w' x u:=λx u h=>
  h.mono hle (λb ef fb hl=>by
   rcases hLB b hl with h1|h1
   .exact fb h1
   .have:=hmmB b h1;omega) (λb ef _=>hb.block b ef)
 refine⟨hle,λi=>Iff.rfl,hb,⟨λid c hin hd=>?_,?_⟩,λb hl=>?_,gy v u hr hv⟩
 .by_cases hi:n<=id/\id<n+E.length
  .obtain⟨c0,h1,h2⟩:=b9 (id-n) c (by rw[show n+(id-n)=id by omega];exact hin) (by omega)
   have hlen:c.length=c0.length:=by rw[h2,gd,hZ]
   obtain⟨e1,e2⟩:=en.entry (id-n) c0 (cq _ _ h1) ((bd _).2 (by omega));refine⟨by simp only[Mm.glue,az hi];rw[e1,hlen],?_⟩
   rcases e2 with ⟨e3,e4⟩|⟨b,C,cs,e,f1,f2,f3,f4,f5,f6⟩|⟨b,es,clk,f1,f2,f3,f4,f5⟩
   .exact .inl ⟨by simp only[Mm.glue,az hi];rw[hlen];exact e3,by rw[h2,e4];rfl⟩
   rotate_left
   .exact .inr (.inr ⟨b,es,clk,by simp only[Mm.glue,az hi];rw[hlen];exact f1,by rw[h2,Dn];exact f2,f3,by simp only at f4;omega,λl hl=>f5 l (Jv (by rw[<-h2];exact hl))⟩)
   .refine .inr (.inl ⟨b,C,cs,e,by simp only[Mm.glue,az hi];rw[hlen];exact f1,f2,f3,by omega,by simp only at f5;omega,λj p u hp hu=>?_⟩);rw[h2,gd] at hp;obtain⟨q,hq,rfl⟩:=fS hp;exact gy q u (f6 j q u hq hu) (r8 (hEf c0 (Ib h1)) j q hq)
  .have bb:m.dom id:=by
    rcases hd with hd|hd
    .exact hd
    .exact absurd hd hi
   obtain⟨e1,e2⟩:=hs.entry id c hin bb;refine⟨by simp only[Mm.glue,ai hi];exact e1,?_⟩
   rcases e2 with ⟨e3,e4⟩|⟨b,C,cs,e,f1,f2,f3,f4,f5,f6⟩|⟨b,es,clk,f1,f2,f3,f4,f5⟩
   .exact .inl ⟨by simp only[Mm.glue,ai hi];exact e3,e4⟩
   rotate_left
   .have du:b<w.heap.size:=dR hs ⟨id,c,0,hin,bb,f1⟩;exact .inr (.inr ⟨b,es,clk,by simp only[Mm.glue,ai hi];exact f1,f2,(hb.block b du).trans f3,f4,f5⟩)
   .have du:b<w.heap.size:=dR hs ⟨id,c,C,hin,bb,f1⟩;exact .inr (.inl ⟨b,C,cs,e,by simp only[Mm.glue,ai hi];exact f1,(hb.block b du).trans f2,f3,f4,f5,λj p u hp hu=>bo p u (f6 j p u hp hu)⟩)
 .refine rQ ?_ hs.inj;intro x y hx hy ⟨aw,gf⟩;refine⟨aw,λb C C' ec e8 dk d9=>?_⟩
  have key:∀z:Nat×List AV,z∈H->(m.glue mm n E.length).dom z.1->∀C,(m.glue mm n E.length).addr z.1 z.2.length=some (b,C)->(¬(n<=z.1/\z.1<n+E.length)/\m.dom z.1/\m.addr z.1 z.2.length=some (b,C)) \/
   ((n<=z.1/\z.1<n+E.length)/\∃c0,(z.1-n,c0)∈aX [] 0 E/\mm.addr (z.1-n) c0.length=some (b,C)):=by
   intro z hz df C ha;by_cases hi:n<=z.1/\z.1<n+E.length
   .obtain⟨c0,h1,h2⟩:=b9 (z.1-n) z.2 (by rw[show n+(z.1-n)=z.1 by omega];exact hz) (by omega);simp only[Mm.glue,az hi] at ha;rw[h2,gd,hZ] at ha;exact .inr ⟨hi,c0,cq _ _ h1,ha⟩
   .simp only[Mm.glue,ai hi] at ha
    rcases df with df|df
    .exact .inl ⟨hi,df,ha⟩
    .exact absurd df hi
  rcases key x hx ec C dk with ⟨_,dx,ax⟩|⟨ix,cx,mx,ax⟩
  .rcases key y hy e8 C' d9 with ⟨_,dy,ay⟩|⟨iy,cy,my,ay⟩
   .exact gf b C C' dx dy ax ay
   .have h1:b<w.heap.size:=dR hs ⟨x.1,x.2,C,hx,dx,ax⟩;have h2:=hmmB b ⟨y.1-n,cy,C',my,(bd _).2 (by omega),ay⟩;omega
  .rcases key y hy e8 C' d9 with ⟨_,dy,ay⟩|⟨iy,cy,my,ay⟩
   .have h1:b<w.heap.size:=dR hs ⟨y.1,y.2,C',hy,dy,ay⟩;have h2:=hmmB b ⟨x.1-n,cx,C,mx,(bd _).2 (by omega),ax⟩;omega
   .rcases Jz en.inj (λa c gm=>⟨λe=>gm.1 e.symm,λb C C' d1 d2 a1 a2=>gm.2 b C' C d2 d1 a2 a1⟩) mx my with h1|h1
    .injection h1 with h1 _
     exact aw (by omega)
    .exact h1.2 b C C' ((bd _).2 (by omega)) ((bd _).2 (by omega)) ax ay
 grind
end
theorem JB(hO:ak.ok w)(hs:aY B H m w)(hB:B.n<=w.heap.size)(a5:∀id cs,aU h id=some cs->(id,cs)∈H)(o:Oper)(f:Operand)(args:Array Operand)(tys:Array TypeId)(ho:o.op=.call { callee:=.value f,args:=args,argTypes:=tys })(hx:∀x,x∈o.op.operands->al B (LB m H) m w (ev env x) (a.eval x)){g:FuncId}{aF:List AV}(hf:fp (ev env f)=some (g,aF)){pvs:List PV}(hp:jW h (args.toList.map (ev env)++aF)=some pvs){E:List (List AV)}{v:AV}(hE:∀k cs,(E.map (AV.sh.shL n))[k]?=some cs->(n+k,cs)∈H)(aj:∀k,k<E.length->¬m.dom (n+k))(hc:jz P g pvs E v)(K:Act->World->Prop)(Q:Exit->Act->World->Prop)(hK:∀v' w' m',ir B H m w n E.length (v.sh n) v' w' m'->K (a.put o.dst v') w'):o.wpt P a w K Q:=by
 obtain⟨⟨fn,fq,ek,eg⟩,hv,hEf,bl⟩:=hc;have bz:al B (LB m H) m w (ev env f) (a.eval f):=hx f (by rw[ho];simp[Op.operands,Call.operands])
 have jp:∀x∈args.toList,al B (LB m H) m w (ev env x) (a.eval x):=λx hm=>hx x (by rw[ho];simp[Op.operands,Call.operands,qm.1 hm])
 have ed:∃cv:Array Value,a.eval f=.func (.func g) #[] cv/\aF.length=cv.size/\∀(j:Nat)(p:AV)(v:Value),aF[j]?=some p->cv[j]?=some v->al B (LB m H) m w p v:=by
  unfold fp at hf;split at hf
  .rename_i g' cg e
   injection hf with hf;injection hf with h1 h2;subst h1;subst h2
   rw[e] at bz;generalize hv:a.eval f=vf at bz
   cases bz with|fn h1 h2=>grind
  .rename_i own f' g' cg e
   injection hf with hf;injection hf with h1 h2;subst h1;subst h2
   rw[e] at bz;generalize hv:a.eval f=vf at bz
   cases bz with
   |w h1 _=>
    cases h1 with
    |fn h1 h2=>
     refine⟨_,rfl,by grind,λj p v hp hv=>?_⟩;obtain⟨q,hq,rfl⟩:=fS hp;exact .w (h2 j q v hq hv) nofun
  .cases hf
 obtain⟨cv,fm,dc,i6⟩:=ed
 have ez:∀(j:Nat)(x:AV)(v:Value),(args.toList.map (ev env)++aF)[j]?=some x->(args.map a.eval++cv)[j]?=some v->al B (LB m H) m w x v:=by
  grind
 obtain⟨g1,ew⟩:=yu hp
 have hlen:pvs.length=(args.map a.eval++cv).size:=by rw[<-g1];simp[dc]
 have a4:(execOp a.eval o).run P w=.ok (.enter g (args.map a.eval++cv)) w:=by
  have g2:¬fn.name = "runtime.NumGoroutine" := by simp_all
  have bv:¬fn.body=none:=by grind
  simp[execOp,ho,resolve,fm,Deferred.ofValue,invoke,callFunc,fq,g2,bv]
 unfold Oper.wpt;rw[a4,Oper.AZ]
 refine (bl (λ_=>True) w _ hO hlen (λj p v hp hv=>by
  obtain⟨x,hx,d8⟩:=ew j p hp
  exact mM hs a5 false (λ_ _=>trivial) (λ_ _ _=>trivial) 6 x p v d8 nofun (ez j x v hx hv))).mono ?_
 rintro e w' ⟨u,mm,rfl,hb,bd,en,hr⟩
 exact hK u w' _ (JA hs hB hv hEf hE aj hb bd en hr)
def QF(P:Program)(env:Env)(h:ae)(n:Nat)(op:Op)(v:AV)(E:List (List AV)):Prop:=
 (∃c,aOp P h n (ev env) op=some (c,v,E)/\c) \/
 ∃f args tys g aF pvs res fr,op=.call { callee:=.value f,args:=args,argTypes:=tys }/\fp (ev env f)=some (g,aF)/\jW h (args.toList.map (ev env)++aF)=some pvs /\
  ((aB P g pvs res fr/\(fr=true\/lX (args.toList.map (ev env)++aF)=true)/\v=.w (oD fr res) false res/\E=[]) \/
    ∃E0 v0,jz P g pvs E0 v0/\v=v0.sh n/\E=E0.map (AV.sh.shL n))
theorem bj.qf{op:Op}{K:AV->List (List AV)->Prop}(hq:bj P env h n op K):∃v E,QF P env h n op v E/\K v E:=by
 unfold bj at hq;split at hq
 .rename_i f args tys;split at hq
  .rename_i g aF hf;unfold qO at hq;split at hq
   .rename_i pvs hp
    rcases hq with ⟨res,fr,hc,au,hk⟩|⟨E,v,hc,hk⟩
    .exact⟨_,_,.inr ⟨f,args,tys,g,aF,pvs,res,fr,rfl,hf,hp,.inl ⟨hc,au,rfl,rfl⟩⟩,hk⟩
    .exact⟨_,_,.inr ⟨f,args,tys,g,aF,pvs,.undef,true,rfl,hf,hp,.inr ⟨E,v,hc,rfl,rfl⟩⟩,hk⟩
   .exact hq.elim
  trivial
 .split at hq
  .rename_i c v E he;exact⟨v,E,.inl ⟨c,he,hq.1⟩,hq.2⟩
  trivial
theorem QF.sound(o:Oper){v:AV}{E:List (List AV)}(hq:QF P env h n o.op v E)(hO:ak.ok w)(hs:aY B H m w)(hB:B.n<=w.heap.size)(a5:∀id cs,aU h id=some cs->(id,cs)∈H)(hE:∀k cs,E[k]?=some cs->(n+k,cs)∈H)(aj:∀k,k<E.length->¬m.dom (n+k))(hx:∀x,x∈o.op.operands->al B (LB m H) m w (ev env x) (a.eval x))(K:Act->World->Prop)(Q:Exit->Act->World->Prop)(hK:∀v' w' m',ir B H m w n E.length v v' w' m'->K (a.put o.dst v') w'):o.wpt P a w K Q:=by
 rcases hq with ⟨c,h0,hc⟩|⟨f,args,tys,g,aF,pvs,res,fr,ho,hf,hp,⟨hc,au,rfl,rfl⟩|⟨E0,v0,hc,rfl,rfl⟩⟩
 .obtain⟨v',w',m',a4,h1,h2,h3,h4,h5,h6⟩:=Ju o h0 hc hs hB a5 hE aj hx;unfold Oper.wpt;rw[a4,Oper.oo];exact hK v' w' m' ⟨h1,h2,h3,h4,h5,h6⟩
 .exact Jy hO hs hB a5 o f args tys ho hx hf hp hc au K Q hK
 .rw[hZ] at aj hK;exact JB hO hs hB a5 o f args tys ho hx hf hp hE aj hc K Q hK
end
end Go.Fi
namespace Go.Fi
open Go Go.RowKit
def eI(w:World)(b:Nat)(cs:Array Value)(e:TypeId):World:={ w with heap:=w.heap.setIfInBounds b (.cells cs e (0,0))}
theorem JC(w:World)(b:Nat)(cs:Array Value)(e:TypeId):(eI w b cs e).heap.size=w.heap.size:=by simp[eI]
theorem uK(w:World)(b:Nat)(cs:Array Value)(e:TypeId){k:Nat}(h:k≠b):(eI w b cs e).heap[k]?=w.heap[k]?:=by
 simp only[eI];rw[iE]
 grind
theorem uL(w:World)(b:Nat)(cs:Array Value)(e:TypeId)(h:b<w.heap.size):(eI w b cs e).heap[b]?=some (.cells cs e (0,0)):=by
 simp only[eI];rw[iE];simp[h]
theorem JD(w:World)(b:Nat)(cs cs':Array Value)(e:TypeId):eI (eI w b cs e) b cs' e=eI w b cs' e:=by
 simp[eI]
theorem r9(w:World)(b:Nat)(cs:Array Value)(e:TypeId)(h:w.heap[b]?=some (.cells cs e (0,0))):eI w b cs e=w:=by
 have:w.heap.setIfInBounds b (.cells cs e (0,0))=w.heap:=by
  grind
 unfold eI;rw[this]
def eT(cs:Array Value)(off:Nat):List Value->Array Value
 |[]=>cs
 |v::r=>eT (cs.setIfInBounds off v) (off+1) r
theorem uM:∀(vs:List Value)(off:Nat)(cs:Array Value),(eT cs off vs).size=cs.size
 |[],_,_=>rfl
 |v::r,off,cs=>by rw[eT,uM r];simp
theorem JE{w:World}{b:Nat}{cs:Array Value}{e:TypeId}(h:w.heap[b]?=some (.cells cs e (0,0)))(off:Nat)(v:Value):w.setCell ⟨b,off,none⟩ v=eI w b (cs.setIfInBounds off v) e:=by
 unfold World.setCell eI;congr 1
 have hb:b<w.heap.size:=by
  rcases dN b w.heap.size with h'|h'
  .exact h'
  .rw[Ci h'] at h;cases h
 have hg:w.heap[b]=.cells cs e (0,0):=by rw[bS hb] at h;injection h
 grind
section
variable{P:Program}
theorem uN(b off:Nat)(e:TypeId):∀(vs:List Value)(i:Nat)(w:World)(cs:Array Value),w.heap[b]?=some (.cells cs e (0,0))->off+i+vs.length<=cs.size->(∀v∈vs,v.oneCell'=true)->(storeCells ⟨b,off,none⟩ vs i).run P w=.ok () (eI w b (eT cs (off+i) vs) e)
 |[],i,w,cs,h,_,_=>by
  simp only[storeCells,eT];rw[r9 w b cs e h];rfl
 |v::r,i,w,cs,h,hle,h1=>by
  have av:off+i<cs.size:=by grind
  have hb:b<w.heap.size:=by
   grind
  have d':(store ((⟨b,off,none⟩:Addr).add i) v).run P w=.ok () (eI w b (cs.setIfInBounds (off+i) v) e):=by
   rw[Addr.ja,run_store P w _ v _ (h1 v (by simp))]
   have hc:w.cell? ⟨b,off+i,none⟩=some cs[off+i]:=by rw[mJ h];simp[av]
   have hf:w.frozen? ⟨b,off+i,none⟩=false:=by simp[World.frozen?,h]
   simp[hc,hf,JE h]
  have ih:=uN b off e r (i+1) (eI w b (cs.setIfInBounds (off+i) v) e) (cs.setIfInBounds (off+i) v) (uL w b _ e hb) (by grind) (λx hx=>h1 x (by simp[hx]));simp only[storeCells,Sem.run_bind,d',Result.andThen_ok,ih,JD,eT];rw[show off+(i+1)=off+i+1 by omega]
end
section
variable{P:Program}{B:Base}{m:Mm}{w:World}{H h:ae}{n:Nat}{env:Env}{a:Act}{L:Nat->Prop}
theorem Dq:∀{l:List AV},dh l=true->∀(j:Nat)(x:AV),l[j]?=some x->x.one=true
 |[],_,j,x,h=>by simp at h
 |y::l,hp,j,x,h=>by
  simp only[dh,di] at hp
  cases j with
  |zero=>simp_all
  |succ j=>exact Dq hp.2 j x (by simpa using h)
theorem JF{x:AV}{v:Value}(h1:x.one=true)(h:al B L m w x v):v.oneCell'=true:=by
 cases h with
 |w hr _=>cases hr<;>first|rfl|(cases h1;done)
 |agg _ _=>cases h1
 |tup _ _=>cases h1
 |_=>rfl
def tq(B:Base)(L:Nat->Prop)(m:Mm)(w:World)(cs:List AV)(vs:Array Value):Prop:=
 cs.length<=vs.size/\∀(j:Nat)(p:AV)(v:Value),cs[j]?=some p->vs[j]?=some v->al B L m w p v
theorem tq.set{cs:List AV}{vs:Array Value}(h:tq B L m w cs vs)(i:Nat){p:AV}{v:Value}(hp:al B L m w p v):tq B L m w (cs.set i p) (vs.setIfInBounds i v):=by
 refine⟨by simpa using h.1,λj q u hq hu=>?_⟩;rw[Cl] at hq;rw[iE] at hu;by_cases fu:i=j
 .simp_all
 .simp only[fu,aQ] at hq hu;exact h.2 j q u hq hu
theorem yz:∀(ps:List AV)(us:List Value)(off:Nat)(cs:List AV)(vs:Array Value),tq B L m w cs vs->ps.length=us.length->(∀(j:Nat)(p:AV)(v:Value),ps[j]?=some p->us[j]?=some v->al B L m w p v)->tq B L m w (setAt cs off ps) (eT vs off us)
 |[],us,off,cs,vs,h,hl,_=>by
  cases us with
  |nil=>exact h
  |cons u us=>cases hl
 |p::ps,us,off,cs,vs,h,hl,hr=>by
  cases us with
  |nil=>cases hl
  |cons u us=>
   simp only[setAt,eT];exact yz ps us (off+1) _ _ (h.set off (hr 0 p u rfl rfl)) (by grind) (λj q v hq hv=>hr (j+1) q v (by grind) (by grind))
theorem sa(h:ae)(id:Nat)(x:List AV)(hn:h.Pairwise λp q=>p.1≠q.1):bu h id x=h.map λp=>if p.1=id then (p.1,x) else p:=by
 induction hn with
 |nil=>rfl
 |@cons y r hy _ ih=>
  obtain⟨k,v⟩:=y;simp only[bu,nN];split
  .rename_i hk;subst hk;congr 1;rw[Ij (g:=λp=>p)]
   .simp
   grind
  .rw[ih]
end
def Mm.up(m:Mm)(id len:Nat)(bc:Option (Nat×Nat)):Mm:=
 { addr:=λi v=>if i=id/\v=len then bc else m.addr i v,top:=λi=>if i=id then len else m.top i,dom:=m.dom }
def iJ(h:ae)(id:Nat)(x:List AV):ae:=h.map λp=>if p.1=id then (p.1,x) else p
section
variable{P:Program}{B:Base}{m:Mm}{w w':World}{H h:ae}{n:Nat}{env:Env}{a:Act}{L:Nat->Prop}
theorem Dr{id i:Nat}{x c:List AV}(hin:(i,c)∈iJ h id x):(i≠id/\(i,c)∈h)\/(i=id/\c=x):=by
 unfold iJ at hin
 grind
theorem Px{id len:Nat}{bc:Option (Nat×Nat)}(hle:m.top id<=len)(d4:len<=m.top id->bc=m.addr id len):m.le (m.up id len bc):=by
 refine⟨λi hi=>hi,λi hi=>?_,λi v hi hv=>?_⟩
 .simp only[Mm.up];grind
 .simp only[Mm.up];grind
theorem Ds(hs:aY B h m w){id:Nat}{cells cells':List AV}(hin:(id,cells)∈h)(hd:m.dom id)(hlen:cells.length<=cells'.length){b' C':Nat}(d4:cells'.length=cells.length->m.addr id cells.length=some (b',C'))(bv:w.heap.size<=b'\/∃C,m.addr id cells.length=some (b',C))(cw:∀k,k<w.heap.size->(∀C,m.addr id cells.length≠some (k,C))->w'.heap[k]?=w.heap[k]?)(b9:(∃cs e,w'.heap[b']?=some (.cells cs e (0,0))/\cs.size=C'/\cells'.length<=C'/\B.n<=b'/\∀(j:Nat)(p:AV)(v:Value),cells'[j]?=some p->cs[j]?=some v->al B (LB m h) m w p v)\/(C'=0/\∃es clk l,w'.heap[b']?=some (.map es clk)/\cells'=[fU l]/\B.n<=b'/\mZ es l)):aY B (iJ h id cells') (m.up id cells'.length (some (b',C'))) w'/\m.le (m.up id cells'.length (some (b',C')))/\(∀b,b<w.heap.size->¬LB m h b->¬LB (m.up id cells'.length (some (b',C'))) (iJ h id cells') b)/\(∀b,b<w.heap.size->¬LB m h b->w'.heap[b]?=w.heap[b]?):=by
 have ge:m.top id=cells.length:=(hs.entry id cells hin hd).1
 have hle:m.le (m.up id cells'.length (some (b',C'))):=Px (by rw[ge];exact hlen) (λhh=>by
  have:cells'.length=cells.length:=by omega
  rw[this];simp_all)
 have hL0:∀b,LB (m.up id cells'.length (some (b',C'))) (iJ h id cells') b->(∃i c C,(i,c)∈h/\i≠id/\m.dom i/\m.addr i c.length=some (b,C))\/b=b':=by
  rintro b ⟨i,c,C,h1,h2,h3⟩
  rcases Dr h1 with ⟨hi,h4⟩|⟨rfl,rfl⟩
  .simp only[Mm.up,hi,false_and,aQ] at h3;exact .inl ⟨i,c,C,h4,hi,h2,h3⟩
  .simp only[Mm.up,and_self,aJ] at h3;simp_all
 have hL:∀b,b<w.heap.size->¬LB m h b->¬LB (m.up id cells'.length (some (b',C'))) (iJ h id cells') b:=by
  intro b hb hn hl
  rcases hL0 b hl with ⟨i,c,C,h1,_,h2,h3⟩|rfl
  .exact hn ⟨i,c,C,h1,h2,h3⟩
  .rcases bv with h|⟨C,h⟩
   .omega
   .exact hn ⟨id,cells,C,hin,hd,h⟩
 have hW:∀b,b<w.heap.size->¬LB m h b->w'.heap[b]?=w.heap[b]?:=λb hb hn=>cw b hb (λC hC=>hn ⟨id,cells,C,hin,hd,hC⟩)
 have bo:∀p v,al B (LB m h) m w p v->al B (LB (m.up id cells'.length (some (b',C'))) (iJ h id cells')) (m.up id cells'.length (some (b',C'))) w' p v:=λp v hp=>hp.mono hle hL hW
 refine⟨⟨λi c ic dz=>?_,?_⟩,hle,hL,hW⟩
 .rcases Dr ic with ⟨hi,h4⟩|⟨rfl,rfl⟩
  .obtain⟨ht,fl⟩:=hs.entry i c h4 dz;refine⟨by simp[Mm.up,hi,ht],?_⟩
   have g9:∀(x y:Nat×List AV),x∈h->y∈h->x.1≠y.1->∀b C C',m.dom x.1->m.dom y.1->m.addr x.1 x.2.length=some (b,C)->m.addr y.1 y.2.length≠some (b,C'):=by
    intro x y hx hy aw b C C' ec e8 dk d9;have:=hs.inj;rw[rV] at this;obtain⟨p,hp,rfl⟩:=lI hx;obtain⟨q,hq,rfl⟩:=lI hy
    grind
   rcases fl with ⟨h1,h2⟩|⟨b,C,cs,e,h1,h2,h3,h5,h6,h7⟩|⟨b,es,clk,h1,h2,h3,h5,h6⟩
   .exact .inl ⟨by simp[Mm.up,hi,h1],h2⟩
   .exact .inr (.inl ⟨b,C,cs,e,by simp[Mm.up,hi,h1],(cw b (dR hs ⟨i,c,C,h4,dz,h1⟩) (λC2 h8=>g9 (i,c) (id,cells) h4 hin hi b C C2 dz hd h1 h8)).trans h2,h3,h5,h6,λj p v hp hv=>bo p v (h7 j p v hp hv)⟩)
   .exact .inr (.inr ⟨b,es,clk,by simp[Mm.up,hi,h1],h2,(cw b (dR hs ⟨i,c,0,h4,dz,h1⟩) (λC2 h8=>g9 (i,c) (id,cells) h4 hin hi b 0 C2 dz hd h1 h8)).trans h3,h5,h6⟩)
  .refine⟨by simp[Mm.up],.inr ?_⟩
   rcases b9 with ⟨cs,e,h1,h2,h3,h5,h6⟩|⟨rfl,es,clk,l,h1,rfl,h3,h5⟩
   .exact .inl ⟨b',C',cs,e,by simp[Mm.up],h1,h2,h3,h5,λj p v hp hv=>bo p v (h6 j p v hp hv)⟩
   .exact .inr ⟨b',es,clk,by simp[Mm.up],rfl,h1,h3,CM h5⟩
 .unfold iJ;rw[List.pairwise_map];refine rQ ?_ hs.inj;intro x y hx hy ⟨aw,gf⟩
  have e9:∀p:Nat×List AV,(if p.1=id then (p.1,cells') else p).1=p.1:=by grind
  refine⟨by rw[e9,e9];exact aw,λb C D ec e8 dk d9=>?_⟩;rw[e9] at ec e8
  have clash:∀z:Nat×List AV,z∈h->z.1≠id->m.dom z.1->∀C,m.addr z.1 z.2.length=some (b',C)->(z.1≠id->∀b C C',m.dom z.1->m.dom id->m.addr z.1 z.2.length=some (b,C)->m.addr id cells.length≠some (b,C'))->False:=by
   intro z hz jy df C hC g9
   rcases bv with h|⟨C2,h⟩
   .have:=dR hs ⟨z.1,z.2,C,hz,df,hC⟩;omega
   simp_all
  by_cases h1:x.1=id
  .have h2:y.1≠id:=λe=>aw (h1.trans e.symm)
   have jv:x.2=cells:=hs.key (id:=id) (by rw[<-h1];exact hx) hin;simp only[h1,aJ,Mm.up,and_self,a7,bE] at dk;obtain⟨rfl,rfl⟩:=dk;simp only[h2,aQ,Mm.up,false_and] at d9;refine clash y hy h2 e8 D d9 (λ_ b C C' df dz hC i3=>?_);simp_all
  .simp only[h1,aQ,Mm.up,false_and] at dk;by_cases h2:y.1=id
   .have jx:y.2=cells:=hs.key (id:=id) (by rw[<-h2];exact hy) hin;simp only[h2,aJ,Mm.up,and_self,a7,bE] at d9;obtain⟨rfl,rfl⟩:=d9;refine clash x hx h1 ec C dk (λ_ b C C' df dz hC i3=>?_);simp_all
   .simp only[h2,aQ,Mm.up,false_and] at d9;exact gf b C D ec e8 dk d9
theorem uO(hs:aY B h m w){id:Nat}{cells cells':List AV}(hin:(id,cells)∈h)(hd:m.dom id)(hlen:cells.length<=cells'.length){b' C':Nat}(d4:cells'.length=cells.length->m.addr id cells.length=some (b',C'))(bv:w.heap.size<=b'\/∃C,m.addr id cells.length=some (b',C))(cw:∀k,k<w.heap.size->(∀C,m.addr id cells.length≠some (k,C))->w'.heap[k]?=w.heap[k]?)(b9:∃cs e,w'.heap[b']?=some (.cells cs e (0,0))/\cs.size=C'/\cells'.length<=C'/\B.n<=b'/\∀(j:Nat)(p:AV)(v:Value),cells'[j]?=some p->cs[j]?=some v->al B (LB m h) m w p v):aY B (iJ h id cells') (m.up id cells'.length (some (b',C'))) w'/\m.le (m.up id cells'.length (some (b',C')))/\(∀b,b<w.heap.size->¬LB m h b->¬LB (m.up id cells'.length (some (b',C'))) (iJ h id cells') b)/\(∀b,b<w.heap.size->¬LB m h b->w'.heap[b]?=w.heap[b]?):=
 Ds hs hin hd hlen d4 bv cw (.inl b9)
theorem sb(hs:aY B h m w):h.Pairwise λp q=>p.1≠q.1:=hs.inj.imp λh=>h.1
end
section
variable{P:Program}{B:Base}{m:Mm}{w w':World}{H h:ae}{n:Nat}{env:Env}{a:Act}{L:Nat->Prop}
end
def m9(P:Program)(env:Env)(h:ae)(n:Nat)(args:List Operand)(tys:List TypeId)(K:AV->ae->Nat->Prop):Prop:=
 match args,tys with
 |[s,x],[t,tx]=>
  match slE P t,slE P tx with
  |some (e,sz),some _=>
   match byE P e,dW P e,gO h sz (ev env x) with
   |some by_,some z,some (k2,news,c)=>
    match ev env s with
    |.msl id ver z' off k=>
     match aU h id with
     |some cells=>(c/\off=0/\cells.length=ver/\z'=sz/\z.length=sz/\0<sz/\k*sz<=ver/\k+k2<=1000000000/\by_<=100000/\dh news=true) /\
       K (.msl id (gP cells (k*sz) news).length sz 0 (k+k2)) (bu h id (gP cells (k*sz) news)) n
     |none=>False
    |.w own true (.sl k cells)=>
     bif own&&decide (k=0)&&cells.isEmpty then (c/\0<k2/\z.length=sz/\0<sz/\k2<=1000000000/\by_<=100000)/\K (.msl n news.length sz 0 k2) ((n,news)::h) (n+1)
     else match pvs news with
      |some q=>(c/\cells.length=k*sz/\z.length=sz/\0<sz/\k+k2<=1000000000/\by_<=100000)/\K (.w (fD q&&(own || cells.isEmpty)) false (.sl (k+k2) (cells++q))) h n
      |none=>False
    |_=>False
   |_,_,_=>False
  |_,_=>False
 |_,_=>False
def na(P:Program)(env:Env)(h:ae)(n:Nat)(t:TypeId)(ad x:Operand)(K:AV->ae->Nat->Prop):Prop:=
 match tyL P t,ev env ad with
 |some (sz,_),.ptr id ver off=>
  match aU h id with
  |some cells=>(cells.length=ver/\(ev env x).ok=true/\(ev env x).cells.length=sz/\off+sz<=cells.length/\dh (ev env x).cells=true)/\K (.tup []) (bu h id (setAt cells off (ev env x).cells)) n
  |none=>False
 |_,_=>False
theorem Dt(c new:List AV)(p:Nat)(hp:p<=c.length)(j:Nat):(gP c p new)[j]?=if p<=j/\j<p+new.length then new[j-p]? else c[j]?:=by
 unfold gP;split
 .rename_i e;rw[Ii];split
  .rename_i hj;rw[ai (by omega)]
  .rename_i hj;rw[e];split
   .rfl
   .rename_i h2;rw[Ik (by omega),Ik (by omega)]
 grind
theorem JG(c new:List AV)(p:Nat)(hp:p<=c.length):(gP c p new).length=max c.length (p+new.length):=by
 unfold gP
 grind
theorem Du:∀(us:List Value)(off:Nat)(cs:Array Value),off+us.length<=cs.size->∀j,(eT cs off us)[j]?=if off<=j/\j<off+us.length then us[j-off]? else cs[j]?
 |[],off,cs,_,j=>by
  simp only[eT,jJ];rw[ai (by omega)]
 |v::r,off,cs,h,j=>by
  simp only[eT];rw[Du r (off+1) _ (by simp at h ⊢;omega) j]
  grind
section
variable{P:Program}{B:Base}{m:Mm}{w w':World}{H h:ae}{n:Nat}{env:Env}{a:Act}{L:Nat->Prop}
def EPost(B:Base)(h:ae)(m:Mm)(w:World)(n:Nat)(h':ae)(n':Nat)(v:AV)(v':Value)(w':World)(m':Mm):Prop:=
 m.le m'/\(∀i,m'.dom i↔m.dom i\/(n<=i/\i<n'))/\Bel B.n w w'/\aY B h' m' w'/\(∀b,b<w.heap.size->¬LB m h b->¬LB m' h' b)/\(∀b,b<w.heap.size->¬LB m h b->w'.heap[b]?=w.heap[b]?)/\al B (LB m' h') m' w' v v'
theorem lO{p:Nat->Prop}{n:Nat}:∀i,p i↔p i\/(n<=i/\i<n):=λi=>⟨.inl,λh=>h.elim id λh=>by omega⟩
theorem Dv(hs:aY B h m w){id:Nat}{cells:List AV}(hin:(id,cells)∈h):iJ h id cells=h:=by
 unfold iJ
 conv=>rhs;rw[<-List.map_id h]
 refine Ij λp hp=>?_
 split
 .rename_i e;have:p.2=cells:=hs.key (id:=id) (by rw[<-e];exact hp) hin;rw[<-this];rfl
 .rfl
theorem yA{b:Nat}(hb:B.n<=b)(w:World)(cs:Array Value)(e:TypeId):Bel B.n w (eI w b cs e):=
 ⟨rfl,rfl,by rw[JC];simp,λk hk=>uK w b cs e (by omega)⟩
theorem Dw(hB:B.n<=w.heap.size)(o:Obj):Bel B.n w (w.drew.alloc o):=
 ⟨rfl,rfl,by rw[yj];simp,λk hk=>iU w.drew o (show k<w.heap.size by omega)⟩
theorem yB{ps:List AV}{us:List Value}(g7:dh ps=true)(hl:us.length=ps.length)(hr:∀(j:Nat)(p:AV)(u:Value),ps[j]?=some p->us[j]?=some u->al B L m w p u):∀v∈us,v.oneCell'=true:=by
 intro v hv;obtain⟨j,hj,rfl⟩:=lI hv
 have dm:j<ps.length:=by omega
 exact JF (Dq g7 j ps[j] (cG dm)) (hr j ps[j] us[j] (cG dm) (cG hj))
theorem JH(hs:aY B h m w)(hB:B.n<=w.heap.size){t tx e sz:Nat}{ex:TypeId×Nat}{by_:Nat}{z:List AV}(ht:slE P t=some (e,sz))(bf:slE P tx=some ex)(bi:byE P e=some by_)(hz:dW P e=some z){x s:Value}{xa:AV}{k2:Nat}{news:List AV}{c:Prop}(ao:gO h sz xa=some (k2,news,c))(hc:c)(hx:al B (LB m h) m w xa x){id ver k:Nat}{cells:List AV}(dr:al B (LB m h) m w (.msl id ver sz 0 k) s)(hg:aU h id=some cells)(c1:cells.length=ver)(c3:z.length=sz)(c4:0<sz)(c5:k*sz<=ver)(c6:k+k2<=1000000000)(c7:by_<=100000)(c8:dh news=true)(ty:TypeId):∃v' w' m',(Builtin.append_ #[t,tx] ty #[s,x]).run P w=.ok v' w'/\EPost B h m w n (bu h id (gP cells (k*sz) news)) n (.msl id (gP cells (k*sz) news).length sz 0 (k+k2)) v' w' m':=by
 have i':bu h id (gP cells (k*sz) news)=iJ h id (gP cells (k*sz) news):=sa h id _ (sb hs);rw[i'];obtain⟨ba,i,hi,bq⟩:=jm ht;obtain⟨bg,_⟩:=jm (e:=ex.1) (z:=ex.2) bf;obtain⟨iz,vz,dl,hzero,rfl⟩:=o7 hz;rw[hi] at dl;cases dl
 have ck:i.bytes<=100000:=by
  have:i.bytes=by_:=by simpa[byE,hi] using bi
  omega
 obtain⟨ax,cx,us,rfl,cf,ct,ag,d6⟩:=uJ ao hc hs (λid cs e=>fA e) hx;obtain⟨a0,cap,rfl,hk,hd,d7,h3,h4⟩:=dr.m8;have hin:=fA hg;subst c1;have gt:=JG cells news (k*sz) c5
 have i0:vz.cells.size=sz:=by rw[<-c3];simp
 by_cases b5:k+k2<=cap
 .cases ha:m.addr id cells.length with
  |none=>
   obtain⟨rfl,h5⟩:=h3 ha
   have g0:k2=0:=by omega
   have dp:k=0:=by omega
   subst g0;subst dp;have g3:news=[]:=ia (by simpa using ct);have eh:us=[]:=ia (by simpa using cf);subst g3;subst eh;have fd:cells=[]:=ia h5
   have fw:gP cells (0*sz) []=cells:=by subst fd;simp[gP]
   rw[fw,Dv hs hin];refine⟨_,w,m,yq ba bg hi bq ty a0 0 0 0 _ ax cx rfl [] (ag w rfl) (by omega) w (λad _=>rfl) (λ_=>rfl),Mm.le.refl m,lO,Bel.refl _ _,hs,λb _ h=>h,λb _ _=>rfl,?_⟩;trivial
  |some bc=>
   obtain⟨b,C⟩:=bc;obtain⟨h5,h6,h7⟩:=h4 b C ha;simp only[cY] at h6 h7;obtain⟨cs,e',hh,hC,hle,hbB,a6⟩:=hs.read hin hd ha (by omega);have co:(k+k2)*sz<=cap*sz:=rM _ b5;have aq:(k+k2)*sz=k*sz+k2*sz:=fL _ _ _
   have d':∀ad,a0=some ad->(storeCells (ad.add (k*sz)) us).run P w=.ok () (eI w b (eT cs (k*sz) us) e'):=by
    intro ad e
    rcases jI cap with h0|h0
    .have eu:us=[]:=ia (by rw[cf];have:k2=0:=by omega
                           simp[this])
     subst eu;simp only[eT,storeCells];rw[r9 w b cs e' hh];rfl
    .rw[h5 h0] at e;cases e;rw[Addr.ja];have:=uN (P:=P) b (0+k*sz) e' us 0 w cs hh (by omega) (yB c8 (by omega) d6);simp_all
   have g6:a0=none->eI w b (eT cs (k*sz) us) e'=w:=by
    intro e
    rcases jI cap with h0|h0
    .have eu:us=[]:=ia (by rw[cf];have:k2=0:=by omega
                           simp[this])
     subst eu;exact r9 w b cs e' hh
    simp_all
   have a4:=yq ba bg hi bq ty a0 k cap k2 _ ax cx rfl us (ag w rfl) b5 _ d' g6;obtain⟨u1,u2,u3,u4⟩:=uO (w':=eI w b (eT cs (k*sz) us) e') hs hin hd (cells':=gP cells (k*sz) news) (by omega) (b':=b) (C':=C) (λ_=>ha) (.inr ⟨C,ha⟩)
    (λq hq aw=>uK w b _ _ (λe=>aw C (e▸ha)))
    ⟨eT cs (k*sz) us,e',uL w b _ _ (dR hs ⟨id,cells,C,hin,hd,ha⟩),by rw[uM,hC],by omega,hbB,λj p v hp hv=>by
      rw[Dt cells news (k*sz) c5] at hp;rw[Du us (k*sz) cs (by omega)] at hv;rw[cf,<-ct] at hv
      grind⟩
   refine⟨_,_,_,a4,u2,lO,yA hbB w _ _,u1,u3,u4,?_⟩;refine .msl hd (by simp[Mm.up]) b5 (λe=>?_) (λb' C' e=>?_)
   .simp[Mm.up] at e
   .simp only[Mm.up,and_self,aJ,a7,bE] at e
    grind
 .have hold:∃os:List Value,os.length=k*sz/\(Builtin.firstCells sz k (.slice a0 k cap)).run P w.drew=.ok os.toArray w.drew/\∀(j:Nat)(p:AV)(v:Value),j<k*sz->cells[j]?=some p->os[j]?=some v->al B (LB m h) m w p v:=by
   cases ha:m.addr id cells.length with
   |none=>
    obtain⟨rfl,h5⟩:=h3 ha
    have dp:k=0:=by omega
    subst dp;exact⟨[],by simp,mL sz 0 a0 0 [] (by simp) (λ_=>by simp) (λ_ _ j u hj=>by simp at hj),λj p v hj=>by simp at hj⟩
   |some bc=>
    obtain⟨b,C⟩:=bc;obtain⟨h5,h6,h7⟩:=h4 b C ha;obtain⟨cs,e',hh,hC,hle,hbB,a6⟩:=hs.read hin hd ha (by omega);refine⟨(List.range (k*sz)).map (λj=>cs.getD j undef),by simp,mL sz k a0 cap _ (by simp) (λe=>?_) (λad e j u hj=>?_),λj p v hj hp hv=>?_⟩
    .simp_all
    .obtain⟨y,hy,rfl⟩:=fS hj;obtain⟨av,rfl⟩:=dP.1 hy;simp only[oV] at av;simp only[rO]
     have fi:0<cap:=by
      grind
     rw[h5 fi] at e;cases e
     have dm:j<cs.size:=by omega
     rw[Addr.ja,cY];show w.cell? _=_;rw[mJ hh];simp[dm]
    .have dm:j<cs.size:=by omega
     simp only[gH,rP hj,cQ,a7] at hv;exact a6 j p v hp (by rw[<-hv];simp[dm])
  obtain⟨os,io,bh,gw⟩:=hold;obtain⟨nc,rest,dg,d3,a4⟩:=yr ba bg hi bq hzero ty a0 k cap k2 _ ax cx rfl us os (ag w.drew rfl) bh b5 c6 ck;have co:cap*sz<(k+k2)*sz:=Nat.mul_lt_mul_of_pos_right (by omega) c4;have aq:(k+k2)*sz=k*sz+k2*sz:=fL _ _ _
  have av:cells.length<k*sz+news.length:=by
   cases ha:m.addr id cells.length with
   |none=>simp_all
   |some bc=>grind
  have bp:(os.toArray++us.toArray++rest).size=nc*sz:=by
   have:(nc-(k+k2))*sz=nc*sz-(k+k2)*sz:=Nat.sub_mul _ _ _;have h9:(k+k2)*sz<=nc*sz:=rM _ dg;simp_all
  have g4:(k+k2)*sz<=nc*sz:=rM _ dg;obtain⟨u1,u2,u3,u4⟩:=uO (w':=w.drew.alloc (.cells (os.toArray++us.toArray++rest) e)) hs hin hd (cells':=gP cells (k*sz) news) (by omega) (b':=w.heap.size) (C':=nc*sz) (λe=>by omega) (.inl (aD _))
   (λq hq aw=>iU w.drew _ hq)
   ⟨_,e,uD w.drew _,bp,by omega,hB,λj p v hp hv=>by
     rw[Dt cells news (k*sz) c5] at hp;rw[tY,xq] at hv
     grind⟩
  refine⟨_,_,_,a4,u2,lO,Dw hB _,u1,u3,u4,?_⟩;refine .msl hd (by simp[Mm.up]) dg (λe=>?_) (λb' C' e=>?_)
  .simp[Mm.up] at e
  .simp only[Mm.up,and_self,aJ,a7,bE] at e
   grind
end
end Go.Fi
namespace Go.Fi
open Go Go.RowKit
variable[ak]
section
variable{P:Program}{B:Base}{m:Mm}{w w':World}{H h:ae}{n:Nat}{env:Env}{a:Act}{L:Nat->Prop}
section
omit [ak]
theorem uP{c:List AV}(aj:¬m.dom n)(b:Nat):LB m ((n,c)::h) b↔LB m h b:=by
 constructor
 .rintro⟨id,cs,C,hin,hd,ha⟩
  rcases db.1 hin with e|e
  .simp_all
  .exact⟨id,cs,C,e,hd,ha⟩
 .rintro⟨id,cs,C,hin,hd,ha⟩
  exact⟨id,cs,C,dQ _ hin,hd,ha⟩
theorem yC(hs:aY B h m w){c:List AV}(aj:¬m.dom n)(aw:∀id cs,(id,cs)∈h->id≠n):aY B ((n,c)::h) m w:=by
 have hL:LB m ((n,c)::h)=LB m h:=funext λb=>propext (uP aj b)
 refine⟨λid cells hin hd=>?_,?_⟩
 .rw[hL]
  rcases db.1 hin with e|e
  .simp_all
  .exact hs.entry id cells e hd
 .refine Il.2 ⟨λy hy=>⟨λe=>aw y.1 y.2 hy e.symm,λb C C' hd=>absurd hd aj⟩,hs.inj⟩
theorem JI(hs:aY B h m w)(aj:¬m.dom n)(aw:∀id cs,(id,cs)∈h->id<n)(hB:B.n<=w.heap.size){t tx e sz:Nat}{ex:TypeId×Nat}{by_:Nat}{z:List AV}(ht:slE P t=some (e,sz))(bf:slE P tx=some ex)(bi:byE P e=some by_)(hz:dW P e=some z){x s:Value}{xa:AV}{k2:Nat}{news:List AV}{c:Prop}(ao:gO h sz xa=some (k2,news,c))(hc:c)(hx:al B (LB m h) m w xa x){own:Bool}(dr:al B (LB m h) m w (.w own true (.sl 0 [])) s)(c1:0<k2)(c3:z.length=sz)(c6:k2<=1000000000)(c7:by_<=100000)(ty:TypeId):∃v' w' m',(Builtin.append_ #[t,tx] ty #[s,x]).run P w=.ok v' w'/\EPost B h m w n ((n,news)::h) (n+1) (.msl n news.length sz 0 k2) v' w' m':=by
 have ee:=yC (c:=news) hs aj (λid cs hin=>by have:=aw id cs hin;omega)
 have hL:LB m ((n,news)::h)=LB m h:=funext λb=>propext (uP aj b)
 obtain⟨ba,i,hi,bq⟩:=jm ht;obtain⟨bg,_⟩:=jm (e:=ex.1) (z:=ex.2) bf;obtain⟨iz,vz,dl,hzero,rfl⟩:=o7 hz;rw[hi] at dl;cases dl
 have ck:i.bytes<=100000:=by
  have:i.bytes=by_:=by simpa[byE,hi] using bi
  omega
 obtain⟨ax,cx,us,rfl,cf,ct,ag,d6⟩:=uJ ao hc hs (λid cs e=>fA e) hx;obtain⟨a0,cap,rfl,_,cm,_,_⟩:=dr.m7;have b4:=cm rfl;subst b4
 have i0:vz.cells.size=sz:=by rw[<-c3];simp
 obtain⟨nc,rest,dg,d3,a4⟩:=yr ba bg hi bq hzero ty a0 0 0 k2 _ ax cx rfl us [] (ag w.drew rfl)
  (mL sz 0 a0 0 [] (by simp) (λ_=>by simp) (λ_ _ j u hj=>by simp at hj)) (by omega) (by omega) ck
 simp only[cY] at dg d3 a4;have g4:k2*sz<=nc*sz:=rM _ dg
 have bp:(#[]++us.toArray++rest).size=nc*sz:=by
  have:(nc-k2)*sz=nc*sz-k2*sz:=Nat.sub_mul _ _ _;simp_all
 have g5:aY B ((n,news)::h) (m.new n news.length (some (w.heap.size,nc*sz))) (w.drew.alloc (.cells (#[]++us.toArray++rest) e)):=by
  rw[<-bp]
  exact Da (w:=w.drew) (ee.below (w':=w.drew) (Bel.refl _ _).drew) hB (id:=n) (cells:=news) (iR) aj (#[]++us.toArray++rest) e (by rw[bp];omega) (λj p v hp hv=>by
  have hj:=(dP.1 hp).1;rw[Array.empty_append,xq,lJ,az (by omega),xm] at hv;rw[hL]
  exact (d6 j p v hp hv).mono (Mm.le.refl m) (λ_ _ h=>h) (λ_ _ _=>rfl))
 refine⟨_,_,m.new n news.length (some (w.heap.size,nc*sz)),a4,Mm.tn aj,λi=>?_,Dw hB _,g5,λb hb hn hl=>?_,λb hb _=>iU w.drew _ hb,?_⟩
 .simp only[Mm.new]
  grind
 .rcases r7 (w:=w) ee (iR) hl with h1|⟨C,h1⟩
  .rw[hL] at h1;exact hn h1
  simp_all
 .refine .msl (Or.inr rfl) (by simp[Mm.new]) dg (λe=>?_) (λb' C' e=>?_)
  .simp[Mm.new] at e
  .simp only[Mm.new,and_self,aJ,a7,bE] at e;simp_all
theorem JJ(hs:aY B h m w)(hB:B.n<=w.heap.size){t tx e sz:Nat}{ex:TypeId×Nat}{by_:Nat}{z:List AV}(ht:slE P t=some (e,sz))(bf:slE P tx=some ex)(bi:byE P e=some by_)(hz:dW P e=some z){x s:Value}{xa:AV}{k2:Nat}{news:List AV}{c:Prop}(ao:gO h sz xa=some (k2,news,c))(hc:c)(hx:al B (LB m h) m w xa x){q:List PV}(hq:pvs news=some q){own:Bool}{k:Nat}{cells:List PV}(dr:al B (LB m h) m w (.w own true (.sl k cells)) s)(c1:cells.length=k*sz)(c3:z.length=sz)(c6:k+k2<=1000000000)(c7:by_<=100000)(ty:TypeId):∃v' w' m',(Builtin.append_ #[t,tx] ty #[s,x]).run P w=.ok v' w'/\EPost B h m w n h n (.w (fD q&&(own || cells.isEmpty)) false (.sl (k+k2) (cells++q))) v' w' m':=by
 obtain⟨v',w',a4,hb,ee,hv⟩:=Dm hs (λid cs e=>fA e) hB ht bf bi hz ao hc hx hq dr c1 c3 c6 c7 ty;exact⟨v',w',m,a4,Mm.le.refl m,lO,hb.mono hB,ee,λb _ h=>h,λb bv _=>hb.block b bv,hv⟩
end
end
end Go.Fi
namespace Go.Fi
open Go Go.RowKit
def shr(sz k:Nat):AV->AV
 |.msl id ver z off k2=>.msl id ver z off (min k2 k)
 |.w own _ (.sl k2 c)=>.w own false (.sl (min k2 k) (c.take (min k2 k*sz)))
 |x=>x
def oE(P:Program)(h:ae)(t:TypeId)(d x:AV):Option (Prop×AV×ae):=
 match slE P t,d with
 |some (_,sz),.msl id ver z' off k=>
  match aU h id,gO h sz (shr sz k x) with
  |some cells,some (kk,news,c)=>some ((c/\cells.length=ver/\z'=sz/\off+k*sz<=ver/\dh news=true),.w false false (.int .i64 kk),bu h id (setAt cells off news))
  |_,_=>none
 |_,_=>none
def qP(P:Program)(h:ae)(args:List AV)(tys:List TypeId):Option (Prop×AV×ae):=
 match args,tys with
 |[d,x],t::_=>oE P h t d x
 |_,_=>none
def ng(P:Program)(env:Env)(h:ae)(n:Nat)(args:List Operand)(tys:List TypeId)(K:AV->ae->Nat->Prop):Prop:=
 match qP P h (args.map (ev env)) tys with
 |some (c,v,h')=>c/\K v h' n
 |none=>False
section
variable{P:Program}{B:Base}{m:Mm}{w w':World}{H h:ae}{n:Nat}{env:Env}{a:Act}{L:Nat->Prop}
theorem JK{sz k:Nat}{x:AV}{v:Value}{y:Nat×List AV×Prop}(h0:gO h sz (shr sz k x)=some y)(hx:al B L m w x v):∃a0 k2 cap,v=.slice a0 k2 cap/\y.1=min k2 k/\al B L m w (shr sz k x) (.slice a0 (min k2 k) cap):=by
 cases x with
 |msl id ver z off k2=>
  obtain⟨a0,cap,rfl,h1,h2,h3,h4,h5⟩:=hx.m8;refine⟨a0,k2,cap,rfl,?_,.msl h2 h3 (by omega) h4 h5⟩;simp only[shr,gO] at h0
  grind
 |w own f p=>
  cases p with
  |sl k2 c=>
   obtain⟨a0,cap,rfl,h1,h2,h3,h4⟩:=hx.m7;refine⟨a0,k2,cap,rfl,?_,?_⟩
   .simp only[shr,gO] at h0
    grind
   .simp only[shr];refine .w ?_ nofun
    cases hc:c with
    |nil=>
     cases ha:a0 with
     |none=>
      obtain⟨rfl,rfl⟩:=h3 ha;simp only[List.take_nil,Nat.zero_min];exact .slnil
     |some a=>
      simp only[List.take_nil];exact .slz (by omega)
    |cons y ys=>
     obtain⟨b,off,vals,rfl,h5,h6,h7⟩:=h4 (by rw[hc];simp);rw[<-hc];refine .sl vals (by omega) (λj hj=>h5 j (by simp at hj;omega)) (λ_=>h6) (λj q hq=>?_);rw[jH] at hq;simp_all
  |_=>simp[shr,gO] at h0
 |_=>simp[shr,gO] at h0
theorem JL(hs:aY B h m w){t:TypeId}{d x:AV}{dv xv:Value}{c:Prop}{v:AV}{h':ae}(hr:oE P h t d x=some (c,v,h'))(hc:c)(hd:al B (LB m h) m w d dv)(hx:al B (LB m h) m w x xv)(tys:List TypeId)(ty:TypeId):∃v' w' m',(Builtin.copy_ (t::tys).toArray ty #[dv,xv]).run P w=.ok v' w'/\EPost B h m w n h' n v v' w' m':=by
 unfold oE at hr;split at hr
 .rename_i e sz id ver z' off k ht;split at hr
  .rename_i cells kk news c' hg ao;cases hr;obtain⟨c0,c1,c2,c3,c4⟩:=hc;subst c2;subst c1;obtain⟨ba,i,hi,bq⟩:=jm ht;obtain⟨ax,k2,cx,rfl,aq,jk⟩:=JK ao hx;simp only at aq;obtain⟨jq,jr,us,hv,cf,ct,ag,d6⟩:=uJ ao c0 hs (λid cs e=>fA e) jk
   injection hv with j9 ju j'
   subst j9 j'
   have ar:(Builtin.firstCells z' kk (.slice ax k2 cx)).run P w=.ok us.toArray w:=by
    have:=ag w rfl;rw[<-aq] at this;rw[<-this]
    cases ax<;>rfl
   obtain⟨a0,cap,rfl,hk,bd,d7,h3,h4⟩:=hd.m8;rw[sa h id _ (sb hs)];have hin:=fA hg;have co:kk*z'<=k*z':=rM _ (by omega)
   cases ha:m.addr id cells.length with
   |none=>
    obtain⟨rfl,h5⟩:=h3 ha
    have dp:kk=0:=by omega
    have fd:cells=[]:=ia h5;subst fd;have eh:us=[]:=ia (by rw[cf,dp];simp);have g3:news=[]:=ia (by rw[ct,dp];simp);subst eh g3;have cp:Nat.min k2 k=kk:=aq.symm;have dq:iJ h id (setAt [] off [])=h:=Dv hs hin;refine⟨.int .i64 kk,w,m,?_,Mm.le.refl m,lO,Bel.refl _ _,?_,λb _ h=>?_,λb _ _=>rfl,.w (.int _ _) nofun⟩
    .cases a0 with
     |none=>simp[Builtin.copy_,run_underlying ba,sizeOf,typeInfo,hi,bq,Builtin.lenOf,cp,ar,goInt]
     |some ad=>simp[Builtin.copy_,run_underlying ba,sizeOf,typeInfo,hi,bq,Builtin.lenOf,cp,ar,goInt,storeCells]
    .have:=hs;rw[<-dq] at this;exact this
    .have h2:=h;rw[<-dq] at h2;exact h2
   |some bc=>
    obtain⟨b,C⟩:=bc;obtain⟨h5,h6,h7⟩:=h4 b C ha;obtain⟨cs,e',hh,hC,hle,hbB,a6⟩:=hs.read hin bd ha (by omega);have hlen:(setAt cells off news).length=cells.length:=uG _ _ _;have d':=uN (P:=P) b off e' us 0 w cs hh (by omega) (yB c4 (by omega) d6);simp only[nK] at d';have cp:Nat.min k2 k=kk:=aq.symm
    have a4:(Builtin.copy_ (t::tys).toArray ty #[.slice a0 k cap,.slice ax k2 cx]).run P w=.ok (.int .i64 kk) (eI w b (eT cs off us) e'):=by
     cases a0 with
     |none=>
      have b4:cap=0:=by
       grind
      have eh:us=[]:=ia (by rw[cf,show kk=0 by omega];simp);subst eh;simp only[eT];rw[r9 w b cs e' hh];simp[Builtin.copy_,run_underlying ba,sizeOf,typeInfo,hi,bq,Builtin.lenOf,cp,ar,goInt]
     |some ad=>
      have gb:(storeCells ad us).run P w=.ok () (eI w b (eT cs off us) e'):=by
       rcases jI cap with h0|h0
       .have eh:us=[]:=ia (by rw[cf,show kk=0 by omega];simp);subst eh;simp only[eT,storeCells];rw[r9 w b cs e' hh];rfl
       grind
      simp[Builtin.copy_,run_underlying ba,sizeOf,typeInfo,hi,bq,Builtin.lenOf,cp,ar,goInt,gb]
    obtain⟨u1,u2,u3,u4⟩:=uO (w':=eI w b (eT cs off us) e') hs hin bd (cells':=setAt cells off news) (by omega) (b':=b) (C':=C) (λ_=>ha) (.inr ⟨C,ha⟩)
     (λq hq aw=>uK w b _ _ (λe=>aw C (e▸ha)))
     ⟨eT cs off us,e',uL w b _ _ (dR hs ⟨id,cells,C,hin,bd,ha⟩),by rw[uM,hC],by omega,hbB,
       (yz news us off cells cs ⟨by omega,a6⟩ (by omega) d6).2⟩
    exact⟨_,_,_,a4,u2,lO,yA hbB w _ _,u1,u3,u4,.w (.int _ _) nofun⟩
  .cases hr
 .cases hr
end
end Go.Fi
namespace Go.Fi
open Go Go.RowKit
variable[ak]
structure St where
 env:Env
 heap:ae
 nxt:Nat
 nt:Nat
def AV.lt(n:Nat):AV->Bool
 |.w _ _ _=>true
 |.ptr id _ _=>decide (id<n)
 |.msl id _ _ _ _=>decide (id<n)
 |.mp id=>decide (id<n)
 |.agg cs=>ltL n cs
 |.tup cs=>ltL n cs
 |.fn _ cs=>ltL n cs
where ltL (n:Nat):List AV->Bool
 |[]=>true
 |x::r=>x.lt n&&ltL n r
section
omit [ak]
theorem nR{n:Nat}:∀{l:List AV},AV.lt.ltL n l=true->∀(j:Nat)(x:AV),l[j]?=some x->x.lt n=true
 |[],_,j,x,h=>by simp at h
 |y::l,hp,j,x,h=>by
  simp only[AV.lt.ltL,di] at hp
  cases j with
  |zero=>simp_all
  |succ j=>exact nR hp.2 j x (by simpa using h)
theorem al.Bg{B:Base}{L L':Nat->Prop}{m:Mm}{w:World}{x:AV}{v:Value}(h:al B L m w x v){n:Nat}(hl:x.lt n=true)(hL:∀b,L' b->L b):al B L' { m with dom:=λi=>i<n } w x v:=by
 induction h with
 |w hr hf=>exact .w (hr.imp λb hg=>⟨λhb=>hg.1 (hL b hb),hg.2⟩) hf
 |ptr hd ht ha hC=>exact .ptr (by simpa[AV.lt] using hl) ht ha hC
 |mp hd ht ha=>exact .mp (by simpa[AV.lt] using hl) ht ha
 |msl hd ht hn h0 h1=>exact .msl (by simpa[AV.lt] using hl) ht hn h0 h1
 |agg hlen _ ih=>exact .agg hlen (λj p v hp hv=>ih j p v hp hv (nR (by trivial) j p hp))
 |tup hlen _ ih=>exact .tup hlen (λj p v hp hv=>ih j p v hp hv (nR (by trivial) j p hp))
 |fn hlen _ ih=>exact .fn hlen (λj p v hp hv=>ih j p v hp hv (nR (by trivial) j p hp))
theorem AV.qQ{n n':Nat}(hn:n<=n'):∀{x:AV},x.lt n=true->x.lt n'=true
 |.w _ _ _,_=>rfl
 |.ptr _ _ _,h=>by simp only[AV.lt,decide_eq_true_eq] at h ⊢;omega
 |.msl _ _ _ _ _,h=>by simp only[AV.lt,decide_eq_true_eq] at h ⊢;omega
 |.mp _,h=>by simp only[AV.lt,decide_eq_true_eq] at h ⊢;omega
 |.agg cs,h=>wG hn (cs:=cs) h
 |.tup cs,h=>wG hn (cs:=cs) h
 |.fn _ cs,h=>wG hn (cs:=cs) h
where wG {n n':Nat} (hn:n<=n'):∀{cs:List AV},AV.lt.ltL n cs=true->AV.lt.ltL n' cs=true
 |[],_=>rfl
 |x::r,h=>by
  simp only[AV.lt.ltL,di] at h ⊢;exact⟨AV.qQ hn h.1,wG hn h.2⟩
end
structure RI where
 l:Nat
 env:Env
 nt:Nat
 ps:Array Tmp
 assign:Code
 body:Code
structure Fk where
 k:Nat
 ri:Option RI
abbrev fk0:Fk:=⟨0,none⟩
def marks(ds:List Nat):List Deferred:=ds.map λD=>{ target:=.collected D,args:=#[] }
def bt(ri:RI)(fn:FuncId)(T:Array Value)(D:Nat)(s:LoopState)(p:Option Code):Obj:=.loop { state:=s,pending:=p,fn:=fn,tmps:=T,params:=ri.ps,assign:=ri.assign,body:=ri.body,defers:=D }
def Py(ri:RI)(F:List (AV×Value))(obs:List (Nat×Obj)):Prop:=
 ∃fn T D,(ri.l,bt ri fn T D .ready none)∈obs/\T.size=ri.nt/\∀t v,(t,v)∈ri.env->(get ri.env t,T.getD t undef)∈F
def G0(fk:Fk)(F:List (AV×Value))(obs:List (Nat×Obj)):Prop:=∀ri,fk.ri=some ri->Py ri F obs
structure Ctx(fk:Fk) where
 w:World
 F:List (AV×Value)
 r:Option Nat
 obs:List (Nat×Obj)
 ds:List Nat
 bt:G0 fk F obs
 ok:ak.ok w
def oF(B:Base){fk:Fk}(w0:Ctx fk)(L:Nat->Prop)(m:Mm)(w:World)(n:Nat):Prop:=
 fk.k<=n/\(∀p∈w0.F,p.1.lt fk.k=true/\al B L m w p.1 p.2)/\∀q∈w0.obs,B.n<=q.1/\q.1<w.heap.size/\¬L q.1/\w.heap[q.1]?=some q.2
theorem oF.mono{B:Base}{fk:Fk}{w0:Ctx fk}{L L':Nat->Prop}{m m':Mm}{w w':World}{n n':Nat}(h:oF B w0 L m w n)(hm:m.le m')(hL:∀b,b<w.heap.size->¬L b->¬L' b)(hw:∀b,b<w.heap.size->¬L b->w'.heap[b]?=w.heap[b]?)(hn:n<=n'):oF B w0 L' m' w' n':=
 ⟨b7 h.1 hn,λp hp=>⟨(h.2.1 p hp).1,(h.2.1 p hp).2.mono hm hL hw⟩,λq hq=>by
   obtain⟨h1,h2,h3,h4⟩:=h.2.2 q hq;have h5:=(hw q.1 h2 h3).trans h4
   grind⟩
structure Sim{fk:Fk}(B:Base)(w0:Ctx fk)(st:St)(a:Act)(w:World)(m:Mm):Prop where
 base:B.n=w0.w.heap.size
 below:Bel B.n w0.w w
 defers:a.defers=marks w0.ds
 size:a.tmps.size=st.nt
 env:∀t,al B (LB m st.heap) m w (get st.env t) (a.tmps.getD t undef)
 heap:aY B st.heap m w
 dom:∀i,m.dom i↔i<st.nxt
 ids:∀id c,(id,c)∈st.heap->id<st.nxt
 fr:oF B w0 (LB m st.heap) m w st.nxt
theorem Sim.ok{fk:Fk}{B:Base}{w0:Ctx fk}{st:St}{a:Act}{w:World}{m:Mm}(h:Sim B w0 st a w m):ak.ok w:=
 ak.keep w0.ok (by have:=h.below;rw[h.base] at this;exact this)
theorem Sim.room{fk:Fk}{B:Base}{w0:Ctx fk}{st:St}{a:Act}{w:World}{m:Mm}(h:Sim B w0 st a w m):B.n<=w.heap.size:=by
 have:=h.below.size;have:=h.base;omega
theorem Sim.bel{fk:Fk}{B:Base}{w0:Ctx fk}{st:St}{a:Act}{w w':World}{m:Mm}(h:Sim B w0 st a w m)(hb:Bel w.heap.size w w'):Sim B w0 st a w' m:=
 ⟨h.base,h.below.trans (hb.mono h.room),h.defers,h.size,λt=>(h.env t).mono (Mm.le.refl m) (λ_ _ x=>x) (λb hl _=>hb.block b hl),h.heap.below hb,h.dom,h.ids,
   h.fr.mono (Mm.le.refl m) (λ_ _ x=>x) (λb hl _=>hb.block b hl) (aD _)⟩
theorem Sim.move{fk:Fk}{B:Base}{w0:Ctx fk}{st:St}{a:Act}{w w':World}{m:Mm}(h:Sim B w0 st a w m)(e:EnvD.E w w'):Sim B w0 st a w' m:=h.bel (EnvD.ext e)
def dOk(nt:Nat):Option Nat->Prop
 |some d=>d<nt
 |none=>True
section
variable{P:Program}{B:Base}{m:Mm}{w w':World}{H h:ae}{n:Nat}{env:Env}{a:Act}{L:Nat->Prop}
section
omit [ak]
theorem JM(hs:aY B h m w){t sz:Nat}{g:Bool}(ht:tyL P t=some (sz,g)){id ver off:Nat}{ad xv:Value}{x:AV}{cells:List AV}(fh:al B (LB m h) m w (.ptr id ver off) ad)(hx:al B (LB m h) m w x xv)(hg:aU h id=some cells)(c1:cells.length=ver)(c2:x.ok=true)(c3:x.cells.length=sz)(c4:off+sz<=cells.length)(c5:dh x.cells=true):∃w' m',(Instr.storeAt t ad xv).run P w=.ok () w'/\EPost B h m w n (bu h id (setAt cells off x.cells)) n (.tup []) undef w' m':=by
 rw[sa h id _ (sb hs)];obtain⟨b,C,rfl,hd,hvC,ha⟩:=fh.oC;rw[<-c1] at ha hvC;have hin:=fA hg;obtain⟨cs,e',hh,hC,hle,hbB,a6⟩:=hs.read hin hd ha hvC.2;obtain⟨h1,h2⟩:=uw hx c2;obtain⟨i,d,hi,bq,_,_⟩:=CX (w:=w) ht;have hlen:(setAt cells off x.cells).length=cells.length:=uG _ _ _
 have d6:∀(j:Nat)(p:AV)(u:Value),x.cells[j]?=some p->xv.cells.toList[j]?=some u->al B (LB m h) m w p u:=λj p u hp hu=>h2 j p u hp (by rw[<-iQ];exact hu)
 have d':=uN (P:=P) b off e' xv.cells.toList 0 w cs hh (by simp;omega) (yB c5 (by simp;omega) d6);simp only[nK] at d'
 have a4:(Instr.storeAt t (.pointer (some ⟨b,off,none⟩)) xv).run P w=.ok () (eI w b (eT cs off xv.cells.toList) e'):=by
  have gc:xv.cells.size=i.size:=by omega
  simp[Instr.storeAt,Instr.sureAddr,storeVar,sizeOf,typeInfo,hi,gc,d']
 obtain⟨u1,u2,u3,u4⟩:=uO (w':=eI w b (eT cs off xv.cells.toList) e') hs hin hd (cells':=setAt cells off x.cells) (by omega) (b':=b) (C':=C) (λ_=>ha) (.inr ⟨C,ha⟩)
  (λq hq aw=>uK w b _ _ (λe=>aw C (e▸ha)))
  ⟨eT cs off xv.cells.toList,e',uL w b _ _ (dR hs ⟨id,cells,C,hin,hd,ha⟩),by rw[uM,hC],by omega,hbB,
    (yz x.cells xv.cells.toList off cells cs ⟨by omega,a6⟩ (by omega) d6).2⟩
 exact⟨_,_,a4,u2,lO,yA hbB w _ _,u1,u3,u4,.tup rfl (λj p v hp=>by simp at hp)⟩
theorem mN(env:Env)(a:Act)(d:Option Nat)(v:AV)(v':Value)(hd:dOk a.tmps.size d)(hv:al B L m w v v')(he:∀t,al B L m w (get env t) (a.tmps.getD t undef)):∀t,al B L m w (get (put env d v) t) ((a.put d v').tmps.getD t undef):=by
 intro t
 cases d with
 |none=>exact he t
 |some d=>
  simp only[put,get,Act.put];by_cases i8:d=t
  .subst i8;simp only[aJ];rw[bQ,iE];simp only[aJ];rw[az (show d<a.tmps.size from hd)];exact hv
  simp_all
theorem jL(a:Act)(d:Option Nat)(v:Value):(a.put d v).tmps.size=a.tmps.size:=by cases d<;>simp[Act.put]
theorem jM(a:Act)(d:Option Nat)(v:Value):(a.put d v).defers=a.defers:=by cases d<;>rfl
theorem jN:∀(E:List (List AV))(h:ae)(n:Nat)(id:Nat)(c:List AV),(id,c)∈aX h n E↔(id,c)∈h\/∃k,E[k]?=some c/\id=n+k
 |[],h,n,id,c=>by simp[aX]
 |x::E,h,n,id,c=>by
  simp only[aX,db,bE,jN E h (n+1) id c];constructor
  .rintro (⟨rfl,rfl⟩|h1|⟨k,h1,rfl⟩)
   .exact .inr ⟨0,rfl,rfl⟩
   .exact .inl h1
   .exact .inr ⟨k+1,by simpa using h1,by omega⟩
  grind
theorem uQ:∀(E:List (List AV))(h:ae)(n:Nat),aY B h m w->(∀i,n<=i->¬m.dom i)->(∀id c,(id,c)∈h->id<n)->aY B (aX h n E) m w/\LB m (aX h n E)=LB m h
 |[],h,n,hs,_,_=>⟨hs,rfl⟩
 |x::E,h,n,hs,hd,hi=>by
  have aj:=hd n (aD _);obtain⟨h1,h2⟩:=uQ E h (n+1) hs (λi hi=>hd i (by omega)) (λid c hin=>by have:=hi id c hin;omega)
  have:=yC (c:=x) h1 aj (λid c hin=>by
   rcases (jN E h (n+1) id c).1 hin with h3|⟨k,_,rfl⟩
   .have:=hi id c h3;omega
   .omega)
  refine⟨this,?_⟩;show LB m ((n,x)::aX h (n+1) E)=_;rw[show LB m ((n,x)::aX h (n+1) E)=LB m (aX h (n+1) E) from funext λb=>propext (uP aj b),h2]
end
def k9(s:ByteArray):List PV:=s.data.toList.map λb=>PV.int .u8 b.toNat
def qR(P:Program)(src dst:TypeId):Bool:=
 match P.underlying src,P.underlying dst with
 |some _,some (.slice e)=>match P.underlying e with
  |some (.int .u8)=>true
  |_=>false
 |_,_=>false
omit [ak] in
theorem JN(hs:aY B h m w)(hB:B.n<=w.heap.size){src dst:TypeId}(hb:qR P src dst=true)(s:ByteArray):∃v' w',(convert src dst (.string s)).run P w=.ok v' w'/\EPost B h m w n h n (.w true false (.sl s.size (k9 s))) v' w' m:=by
 unfold qR at hb;split at hb
 .rename_i u e hu hd;split at hb
  .rename_i he
   refine⟨_,_,Lib.run_convert_string_bytes w src dst e s hu hd he,Mm.le.refl m,lO,⟨rfl,rfl,by rw[Lib.bytesWorld_size];simp,λk hk=>Lib.bytesWorld_at_old w e s k (by omega)⟩,
    hs.below ⟨rfl,rfl,by rw[Lib.bytesWorld_size];simp,λb hb=>Lib.bytesWorld_at_old w e s b hb⟩,λb _ h=>h,λb hb _=>Lib.bytesWorld_at_old w e s b hb,.w ?_ nofun⟩
   have hlen:(k9 s).length=s.size:=by simp[k9]
   have b4:s.size<=grownCap w s.size 0 e:=grownCap_ge w _ _ e;refine .sl (b:=w.heap.size) (off:=0) (λj=>.int .u8 (s.data.toList.getD j 0).toNat) b4 (λj hj=>?_) (λ_=>⟨λhl=>?_,λ_=>hB,λhl=>?_⟩) (λj p hp=>?_)
   .rw[cY];exact Lib.bytesWorld_cell w e s j (by omega)
   .have:=dR hs hl;omega
   .omega
   .unfold k9 at hp;rw[gH] at hp;obtain⟨b,ef,rfl⟩:=rW.1 hp
    have:s.data.toList.getD j 0=b:=by rw[da,ef];rfl
    rw[this];exact .int _ _
  .cases hb
 .cases hb
def pK(P:Program)(env:Env)(h:ae)(n:Nat)(src dst:TypeId)(x:Operand)(K:AV->ae->Nat->Prop):Prop:=
 match ev env x with
 |.w _ _ (.str s)=>qR P src dst=true/\K (.w true false (.sl s.size (k9 s))) h n
 |_=>bj P env h n (.convert src dst x) λv E=>K v (aX h n E) (n+E.length)
def Pz(P:Program)(h:ae)(n:Nat)(t:TypeId)(K:AV->ae->Nat->Prop):Prop:=(jV P t).isSome=true/\K (.mp n) ((n,[fU []])::h) (n+1)
def nh(P:Program)(env:Env)(h:ae)(n:Nat)(t:TypeId)(m k v:Operand)(K:AV->ae->Nat->Prop):Prop:=
 match ev env m with
 |.mp id=>match (aU h id).bind eH,ev env k,ev env v,jV P t with
  |some l,.w _ _ kp,.w _ _ vp,some (d,_)=>(okM d kp l=true/\isLit vp=true)/\K (.tup []) (bu h id [fU (iq l kp vp)]) n
  |_,_,_,_=>False
 |_=>False
def bn(P:Program)(env:Env)(h:ae)(n:Nat)(op:Op)(K:AV->ae->Nat->Prop):Prop:=
 match op with
 |.store t ad x=>na P env h n t ad x K
 |.call { callee:=.builtin .append,args:=args,argTypes:=tys }=>m9 P env h n args.toList tys.toList K
 |.call { callee:=.builtin .copy,args:=args,argTypes:=tys }=>ng P env h n args.toList tys.toList K
 |.convert src dst x=>pK P env h n src dst x K
 |.makeMap t none=>Pz P h n t K
 |.mapUpdate t m k v=>nh P env h n t m k v K
 |op=>bj P env h n op λv E=>K v (aX h n E) (n+E.length)
section
omit [ak]
theorem JO{d:TypeDesc}{k v:PV}(hk:okK d k=true){es:Array MapEntry}{l:List (PV×PV)}(c9:mZ es l)(hl:∀p∈l,okK d p.1=true):(∀i q,fO l k 0=some (i,q)->mZ (es.modify i λe=>{ e with key:=cj k,val:=cj v }) (iq l k v))/\(fO l k 0=none->∀clk,mZ (es.push { key:=cj k,val:=cj v,born:=clk }) (iq l k v)):=by
 have gen:∀(l:List (PV×PV))(s:Nat)(q:PV)(i:Nat),fO l k s=some (i,q)->s<=i/\i-s<l.length/\iq l k v=l.set (i-s) (k,v):=by
  intro l
  induction l with
  |nil=>intro s q i h;cases h
  |cons p r ih=>
   intro s q i h;unfold fO at h;unfold iq;split at h
   .simp_all
   .rename_i hp;rw[ai hp];obtain⟨h1,h2,h3⟩:=ih (s+1) q i h;refine⟨by omega,by grind,?_⟩;rw[h3,show i-s=(i-(s+1))+1 by omega];rfl
 have gen2:∀(l:List (PV×PV))(s:Nat),fO l k s=none->iq l k v=l++[(k,v)]:=by
  intro l
  induction l with
  |nil=>intro s _;rfl
  |cons p r ih=>
   intro s h;unfold fO at h;unfold iq
   grind
 refine⟨λi q h=>?_,λh clk=>?_⟩
 .obtain⟨_,h2,h3⟩:=gen l 0 q i h;rw[Nat.sub_zero] at h2 h3;rw[h3];refine⟨by simp[c9.1],λj p e hp he=>?_⟩;rw[Cl] at hp;rw[dZ] at he;by_cases fu:i=j
  .grind
  .simp only[fu,aQ] at hp he;exact c9.2 j p e hp he
 .rw[gen2 l 0 h];refine⟨by simp[c9.1],λj p e hp he=>?_⟩
  rcases dN j l.length with hj|hj
  .rw[rT hj] at hp;rw[oY,ai (by have:=c9.1;omega)] at he;exact c9.2 j p e hp he
  .have ie:j=l.length:=by
    have:=(dP.1 hp).1;simp at this;omega
   subst ie;simp at hp;subst hp;rw[oY,az c9.1] at he
   grind
theorem Dx:∀(l:List (PV×PV))(k:PV)(s i:Nat)(q:PV),fO l k s=some (i,q)->∃p,l[i-s]?=some p/\eqK k p.1=true
 |[],k,s,i,q,h=>by cases h
 |p::r,k,s,i,q,h=>by
  unfold fO at h;split at h
  .simp_all
  .obtain⟨p',h1,h2⟩:=Dx r k (s+1) i q h
   have hi:s+1<=i:=by
    have:∀(r:List (PV×PV))(s:Nat),fO r k s=some (i,q)->s<=i:=by
     intro r
     induction r with
     |nil=>intro s h;cases h
     |cons y r ih=>
      intro s h;unfold fO at h;split at h
      .injection h with h;injection h with h1 _;omega
      .have:=ih (s+1) h;omega
    exact this r (s+1) h
   grind
theorem JP{a b:PV}(h:eqK a b=true):cj a=cj b:=by
 cases a<;>cases b<;>simp[eqK] at h
 .obtain⟨rfl,rfl⟩:=h;rfl
 grind
theorem JQ(hs:aY B h m w){t:TypeId}{id:Nat}{cells:List AV}{l:List (PV×PV)}{mv kv vv:Value}{ok fk ov fv:Bool}{kp vp:PV}{d:TypeDesc}{z:PV}(hm:al B (LB m h) m w (.mp id) mv)(hk:al B (LB m h) m w (.w ok fk kp) kv)(hv:al B (LB m h) m w (.w ov fv vp) vv)(hg:aU h id=some cells)(hd:eH cells=some l)(ht:jV P t=some (d,z))(hc:okM d kp l=true)(jd:isLit vp=true):∃w' m',(Instr.mapUpdate t mv kv vv).run P w=.ok () w'/\EPost B h m w n (bu h id [fU (iq l kp vp)]) n (.tup []) undef w' m':=by
 rw[sa h id _ (sb hs)];have hin:=fA hg;obtain⟨b,es,clk,rfl,bd,dc,ha,hb,hB,c9⟩:=hs.GZ hin hm hd;obtain⟨kt,et,hu,gp,_⟩:=Di ht;unfold okM at hc;rw[di,fR] at hc;obtain⟨ei,i5⟩:=hc
 have hl:∀p∈l,okK d p.1=true:=λp hp=>by have:=i5 p hp;rw[di] at this;exact this.1
 have ik:kv=cj kp:=by cases hk with|w hr _=>exact yp (Dh ei) hr
 have jf:vv=cj vp:=by cases hv with|w hr _=>exact yp jd hr
 subst ik;subst jf;have hf:=yn ei l es.toList 0 (by rw[Ch];exact c9.1) (λj p e hp he=>c9.2 j p e hp (by rw[<-iQ];exact he)) hl;obtain⟨q1,q2⟩:=JO (v:=vp) ei c9 hl
 have a4:∀o,(match fO l kp 0 with
  |some x=>o=Obj.map (es.modify x.1 λe=>{ e with key:=cj kp,val:=cj vp }) clk
  |none=>o=Obj.map (es.push { key:=cj kp,val:=cj vp,born:=clk }) (clk+1))->(Instr.mapUpdate t (.map (some b)) (cj kp) (cj vp)).run P w=.ok () { w with heap:=w.heap.setIfInBounds b o }:=by
  intro o ho;unfold Instr.mapUpdate;simp only[Sem.run_bind,run_underlying hu,Result.andThen_ok,MapKept.run_getObj_map hb];rw[show (10000:Nat)=9999+1 from rfl,MapKept.run_checkKey gp (ym ei)];simp only[Result.andThen_ok];rw[MapKept.run_findKey gp hf];simp only[Result.andThen_ok]
  cases hq:fO l kp 0 with
  |none=>
   rw[hq] at ho;simp only[Ie];rw[MapKept.run_setObj_map _ hb,ho]
  |some x=>
   rw[hq] at ho;obtain⟨i,q⟩:=x;simp only[cQ]
   have hold:((es[i]?).map (·.key)).getD (cj kp)=cj kp:=by
    obtain⟨p,hp,iw⟩:=Dx l kp 0 i q hq;rw[Nat.sub_zero] at hp
    have gr:i<es.size:=by rw[<-c9.1];grind
    have:=(c9.2 i p _ hp (bS gr)).1;rw[bS gr];simp only[cQ,nO];rw[this];exact (JP iw).symm
   simp only[Sem.run_bind,hold,MapKept.run_keyThatStays (ym ei),Result.andThen_ok];rw[MapKept.run_setObj_map _ hb,ho]
 have i4:b<w.heap.size:=dR hs ⟨id,cells,0,hin,bd,ha⟩
 have fin:∀dt br,mZ dt (iq l kp vp)->(Instr.mapUpdate t (.map (some b)) (cj kp) (cj vp)).run P w=.ok () { w with heap:=w.heap.setIfInBounds b (.map dt br)} ->
  ∃w' m',(Instr.mapUpdate t (.map (some b)) (cj kp) (cj vp)).run P w=.ok () w'/\EPost B h m w n (iJ h id [fU (iq l kp vp)]) n (.tup []) undef w' m':=by
  intro dt br il hr;have hlen:cells.length=1:=yb dc;obtain⟨u1,u2,u3,u4⟩:=Ds (w':={ w with heap:=w.heap.setIfInBounds b (.map dt br)}) hs hin bd (cells':=[fU (iq l kp vp)]) (by simp[hlen]) (b':=b) (C':=0) (λ_=>ha) (.inr ⟨0,ha⟩)
   (λq hq aw=>by
     have:q≠b:=λe=>aw 0 (by rw[e];exact ha)
     show (w.heap.setIfInBounds b (.map dt br))[q]?=w.heap[q]?
     rw[iE,ai (λe=>this e.symm)])
   (.inr ⟨rfl,dt,br,_,by show (w.heap.setIfInBounds b (.map dt br))[b]?=_;rw[iE,az rfl,az i4],rfl,hB,il⟩)
  refine⟨_,_,hr,u2,lO,⟨rfl,rfl,by simp,λk hk=>?_⟩,u1,u3,u4,.tup rfl (λj p v hp=>by simp at hp)⟩
  grind
 cases hq:fO l kp 0 with
 |none=>exact fin _ _ (q2 hq clk) (a4 _ (by rw[hq]))
 |some x=>exact fin _ _ (q1 x.1 x.2 hq) (a4 _ (by rw[hq]))
theorem JR(hs:aY B h m w)(hB:B.n<=w.heap.size)(aj:¬m.dom n)(aw:∀id cs,(id,cs)∈h->id<n)(t:TypeId):∃v' w' m',(Instr.makeMap t none).run P w=.ok v' w'/\EPost B h m w n ((n,[fU []])::h) (n+1) (.mp n) v' w' m':=by
 have gx:aY B ((n,[fU []])::h) m w:=yC hs aj (λid cs hin=>Nat.ne_of_lt (aw id cs hin))
 have hL:LB m ((n,[fU []])::h)=LB m h:=funext λb=>propext (uP aj b)
 have hin:(n,[fU []])∈(n,[fU []])::h:=by simp
 have hn:=Jj gx hB hin rfl aj;refine⟨.map (some w.heap.size),w.alloc (.map #[] 0),m.new n 1 (some (w.heap.size,0)),?_,Mm.tn aj,λi=>?_,(Bel.refl _ _).alloc hB _,hn,λb hb ct hl=>?_,λb hb _=>iU w _ hb,?_⟩
 .rfl
 .show m.dom i\/i=n↔m.dom i\/n<=i/\i<n+1
  grind
 .rcases r7 gx hin hl with h1|⟨C,h1⟩
  .rw[hL] at h1;exact ct h1
  simp_all
 .exact .mp (.inr rfl) (by simp[Mm.new]) (by simp[Mm.new])
end
theorem Dy(o:Oper){K:AV->ae->Nat->Prop}(hk:bn P env h n o.op K)(hO:ak.ok w)(hs:aY B h m w)(hB:B.n<=w.heap.size)(aj:∀i,n<=i->¬m.dom i)(b6:∀id c,(id,c)∈h->id<n)(bk:∀x,x∈o.op.operands->al B (LB m h) m w (ev env x) (a.eval x))(Q:Exit->Act->World->Prop)(K':Act->World->Prop)(hK:∀v v' h' n' w' m',K v h' n'->EPost B h m w n h' n' v v' w' m'->n<=n'->(∀id c,(id,c)∈h'->id<n')->K' (a.put o.dst v') w'):o.wpt P a w K' Q:=by
 have fin:∀(v:AV)(v':Value)(h':ae)(n':Nat)(w':World)(m':Mm),K v h' n'->EPost B h m w n h' n' v v' w' m'->n<=n'->(∀id c,(id,c)∈h'->id<n')->K' (a.put o.dst v') w':=
  λv v' h' n' w' m' aq he hn ft=>hK v v' h' n' w' m' aq he hn ft
 have hset_id:∀id x,∀i c,(i,c)∈bu h id x->i<n:=by
  intro id x i c hin;rw[sa h id x (sb hs)] at hin;obtain⟨p,hp,e⟩:=lK.1 hin;have:=b6 p.1 p.2 hp;split at e
  .injection e with e1 _;rw[<-e1];exact this
  .have e1:p.1=i:=by rw[e]
   rw[<-e1];exact this
 have quietly:bj P env h n o.op (λv E=>K v (aX h n E) (n+E.length))->o.wpt P a w K' Q:=by
  intro hk;obtain⟨v,E,hq,aq⟩:=hk.qf;obtain⟨s1,s2⟩:=uQ E h n hs aj b6;refine hq.sound o hO s1 hB (λid cs e=>(jN E h n id cs).2 (.inl (fA e))) (λk cs e=>(jN E h n _ cs).2 (.inr ⟨k,e,rfl⟩)) (λk hk=>aj _ (by omega)) (λx hx=>by rw[s2];exact bk x hx) K' Q ?_
  rintro v' w' m' ⟨p1,p2,p3,p4,p5,p6⟩
  refine fin v v' _ _ w' m' aq ⟨p1,λi=>?_,p3.mono hB,p4,λb hb hn hl=>?_,λb hb _=>p3.block b hb,p6⟩ (by omega) (λi c hin=>?_)
  .rw[p2]
  .rcases p5 b hl with h1|h1
   .rw[s2] at h1;exact hn h1
   .omega
  .rcases (jN E h n i c).1 hin with h1|⟨k,h1,rfl⟩
   .have:=b6 i c h1;omega
   .have:=(dP.1 h1).1;omega
 unfold bn at hk;split at hk
 .rename_i t ad x ho;unfold na at hk;split at hk
  .rename_i sz g id ver off ht fh;split at hk
   .rename_i cells hg;obtain⟨⟨c1,c2,c3,c4,c5⟩,aq⟩:=hk;obtain⟨w',m',a4,af⟩:=JM hs ht (by rw[<-fh];exact bk ad (by rw[ho];simp[Op.operands])) (bk x (by rw[ho];simp[Op.operands])) hg c1 c2 c3 c4 c5;unfold Oper.wpt
    have:(execOp a.eval o).run P w=.ok .skip w':=by simp[execOp,ho,a4]
    rw[this,Oper.GX];exact fin _ _ _ _ _ _ aq af (aD _) (hset_id _ _)
   .exact hk.elim
  .exact hk.elim
 .rename_i args tys ho;unfold m9 at hk;split at hk
  .rename_i s x t tx aa d5
   have ha:args=#[s,x]:=by rw[<-nL (xs:=args),aa]
   have er:tys=#[t,tx]:=by rw[<-nL (xs:=tys),d5]
   subst ha;subst er
   have el:∀v' w',(Builtin.append_ #[t,tx] o.type #[a.eval s,a.eval x]).run P w=.ok v' w'->(execOp a.eval o).run P w=.ok (.value v') w':=by
    intro v' w' hr;simp[execOp,ho,resolve,invoke,builtin,hr]
   split at hk
   .rename_i e sz ex ht bf;split at hk
    .rename_i by_ z k2 news c bi hz ao;split at hk
     .rename_i id ver z' off k es;split at hk
      .rename_i cells hg;obtain⟨⟨c0,coff,c1,c2,c3,c4,c5,c6,c7,c8⟩,aq⟩:=hk;subst coff;subst c2;obtain⟨v',w',m',a4,af⟩:=JH hs hB ht bf bi hz ao c0 (bk x (by rw[ho];simp[Op.operands,Call.operands])) (by rw[<-es];exact bk s (by rw[ho];simp[Op.operands,Call.operands])) hg c1 c3 c4 c5 c6 c7 c8 o.type;unfold Oper.wpt;rw[el _ _ a4,Oper.oo];exact fin _ _ _ _ _ _ aq af (aD _) (hset_id _ _)
      .exact hk.elim
     .rename_i own k cells es
      cases bm:(own&&decide (k=0)&&cells.isEmpty) with
      |true=>
       rw[bm] at hk;simp only[cond_true] at hk;obtain⟨⟨c0,c1,c3,_,c6,c7⟩,aq⟩:=hk;simp only[di,decide_eq_true_eq] at bm;obtain⟨⟨h1,h2⟩,h3⟩:=bm
       have i2:cells=[]:=by simpa using h3
       subst h2;subst i2;obtain⟨v',w',m',a4,af⟩:=JI hs (aj n (aD _)) b6 hB ht bf bi hz ao c0 (bk x (by rw[ho];simp[Op.operands,Call.operands])) (by rw[<-es];exact bk s (by rw[ho];simp[Op.operands,Call.operands])) c1 c3 c6 c7 o.type;unfold Oper.wpt;rw[el _ _ a4,Oper.oo];refine fin _ _ _ _ _ _ aq af (by omega) (λi c hin=>?_)
       rcases db.1 hin with e|e
       .injection e with e1 _;omega
       .have:=b6 i c e;omega
      |false=>
       rw[bm] at hk;simp only[cond_false] at hk;split at hk
       .rename_i q hq;obtain⟨⟨c0,c1,c3,_,c6,c7⟩,aq⟩:=hk;obtain⟨v',w',m',a4,af⟩:=JJ hs hB ht bf bi hz ao c0 (bk x (by rw[ho];simp[Op.operands,Call.operands])) hq (by rw[<-es];exact bk s (by rw[ho];simp[Op.operands,Call.operands])) c1 c3 c6 c7 o.type;unfold Oper.wpt;rw[el _ _ a4,Oper.oo];exact fin _ _ _ _ _ _ aq af (aD _) b6
       .exact hk.elim
     .exact hk.elim
    .exact hk.elim
   .exact hk.elim
  .exact hk.elim
 .rename_i args tys ho;unfold ng qP at hk
  match aa:args.toList,d5:tys.toList with
  |[d,x],t::ts=>
   rw[aa,d5] at hk;simp only[nN,xr] at hk
   have ha:args=#[d,x]:=by rw[<-nL (xs:=args),aa]
   have er:tys=(t::ts).toArray:=by rw[<-nL (xs:=tys),d5]
   cases hr:oE P h t (ev env d) (ev env x) with
   |none=>rw[hr] at hk;exact hk.elim
   |some y=>
    obtain⟨c,v,h'⟩:=y;rw[hr] at hk;obtain⟨hc,aq⟩:=hk;obtain⟨v',w',m',a4,af⟩:=JL (n:=n) hs hr hc (bk d (by rw[ho,ha];simp[Op.operands,Call.operands])) (bk x (by rw[ho,ha];simp[Op.operands,Call.operands])) ts o.type;unfold Oper.wpt
    have el:(execOp a.eval o).run P w=.ok (.value v') w':=by
     rw[<-er] at a4;subst ha;simp[execOp,ho,resolve,invoke,builtin,a4]
    rw[el,Oper.oo];refine fin _ _ _ _ _ _ aq af (aD _) (λi c' hin=>?_);unfold oE at hr;split at hr
    .split at hr
     .cases hr;exact hset_id _ _ _ _ hin
     .cases hr
    .cases hr
  |[],_=>rw[aa] at hk;exact hk.elim
  |[_],_=>rw[aa] at hk;exact hk.elim
  |_::_::_::_,_=>rw[aa] at hk;exact hk.elim
  |[_,_],[]=>rw[aa,d5] at hk;exact hk.elim
 .rename_i src dst x ho
  have quiet:bj P env h n (.convert src dst x) (λv E=>K v (aX h n E) (n+E.length))->o.wpt P a w K' Q:=by
   intro hk;rw[<-ho] at hk;exact quietly hk
  unfold pK at hk;split at hk
  .rename_i o' f' s es;obtain⟨hb,aq⟩:=hk;have hx:=bk x (by rw[ho];simp[Op.operands]);rw[es] at hx;obtain⟨v',w',a4,af⟩:=JN hs hB hb s;unfold Oper.wpt
   have:(execOp a.eval o).run P w=.ok (.value v') w':=by simp[execOp,ho,hx.oB,a4]
   rw[this,Oper.oo];exact fin _ _ _ _ _ _ aq af (aD _) b6
  .exact quiet hk
 .rename_i t ho;obtain⟨_,aq⟩:=hk;obtain⟨v',w',m',a4,af⟩:=JR (P:=P) hs hB (aj n (aD _)) b6 t;unfold Oper.wpt
  have:(execOp a.eval o).run P w=.ok (.value v') w':=by simp[execOp,ho,a4]
  rw[this,Oper.oo];refine fin _ _ _ _ _ _ aq af (by omega) (λi c hin=>?_)
  rcases db.1 hin with e|e
  .injection e with e1 _;omega
  .have:=b6 i c e;omega
 .rename_i t mo ko vo ho;unfold nh at hk;split at hk
  .rename_i id hm;split at hk
   .rename_i l ok fk kp ov fv vp d z hl ij jh im;obtain⟨⟨c1,c2⟩,aq⟩:=hk
    obtain⟨cells,hg,hd⟩:∃cells,aU h id=some cells/\eH cells=some l:=by
     cases hg:aU h id with
     |none=>rw[hg] at hl;cases hl
     |some cells=>rw[hg] at hl;exact⟨cells,rfl,hl⟩
    obtain⟨w',m',a4,af⟩:=JQ (n:=n) hs (by rw[<-hm];exact bk mo (by rw[ho];simp[Op.operands])) (by rw[<-ij];exact bk ko (by rw[ho];simp[Op.operands])) (by rw[<-jh];exact bk vo (by rw[ho];simp[Op.operands])) hg hd im c1 c2;unfold Oper.wpt
    have:(execOp a.eval o).run P w=.ok .skip w':=by simp[execOp,ho,a4]
    rw[this,Oper.GX];exact fin _ _ _ _ _ _ aq af (aD _) (hset_id _ _)
   .exact hk.elim
  .exact hk.elim
 simp_all
theorem uR{o:Op}{K:AV->ae->Nat->Prop}(hk:bn P env h n o K):∀c,o≠.defer c:=by
 intro c e;subst e;trivial
theorem G1{o:Op}{v:AV}{E:List (List AV)}(hk:QF P env h n o v E):∀c,o≠.defer c:=by
 intro c e;subst e
 rcases hk with ⟨c,h1,_⟩|⟨f,args,tys,g,aF,pvs,res,fr,h1,_⟩
 .trivial
 .cases h1
theorem uS{fk:Fk}(w0:Ctx fk)(o:Oper){nt:Nat}{K:AV->ae->Nat->Prop}(hk:bn P env h n o.op K)(hs:Sim B w0 ⟨env,h,n,nt⟩ a w m)(i7:dOk nt o.dst)(Q:Exit->Act->World->Prop)(K':Act->World->Prop)(hK:∀v h' n' a' w' m',K v h' n'->Sim B w0 ⟨put env o.dst v,h',n',nt⟩ a' w' m'->K' a' w'):o.wpt P a w K' Q:=by
 refine Dy o hk hs.ok hs.heap hs.room (λi hi hd=>by have:=(hs.dom i).1 hd;grind) hs.ids (λx _=>lM x (λt _=>hs.env t)) Q K' ?_
 rintro v v' h' n' w' m' aq ⟨e1,e2,e3,e4,e5,e6,e7⟩ hn ft
 refine hK v h' n' _ w' m' aq ⟨hs.base,hs.below.trans e3,by rw[jM];exact hs.defers,by rw[jL];exact hs.size,?_,e4,λi=>?_,ft,hs.fr.mono e1 e5 e6 hn⟩
 .exact mN env a o.dst v v' (by rw[hs.size];exact i7) e7 (λt=>(hs.env t).mono e1 e5 e6)
 .rw[e2,hs.dom]
  grind
end
end Go.Fi
