/- Lemmas. -/
import Derived.Test.YthpkmilhiganjaaGreatPLa
import Derived.Lib.ConvBytes
import Derived.TacticsIn
import Derived.OrdersIn
import Derived.RangeFuncRecord
import Derived.RangeFuncCalls
set_option linter.all false
set_option maxHeartbeats 32000000
set_option maxRecDepth 100000
namespace Go.Fi
open Go Go.RowKit
variable[bJ]
section
omit [bJ]
variable{P:Program}{B:Base}{m:Mm}{w w':World}{H h:bD}{n:Nat}{env:Env}{a:Act}{L:Nat->Prop}
theorem vB{w w':World}{p:PV}(hf:flat p=true){G G':Nat->Prop}{v:Value}(h:Rep G w p v):Rep G' w' p v:=by
 cases h<;>first
  |exact .undef _
  |exact .jO _
  |exact .bool _
  |exact .int _ _
  |exact .str _
  |exact .gJ
  |exact .lE
  |(cases hf;done)
theorem Ea:∀{l:List PV},ij l=true->∀(j:Nat)(x:PV),l[j]?=some x->flat x=true
 |[],_,j,x,h=>by simp at h
 |y::l,hp,j,x,h=>by
  simp only[ij,eT] at hp
  cases j with
  |zero=>simp_all
  |succ j=>exact Ea hp.2 j x av
theorem Eb:∀{l:List AV}{q:List PV},pvs l=some q->l.length=q.length/\∀(j:Nat)(p:PV),q[j]?=some p->∃o f,l[j]?=some (.w o f p)
 |[],q,h=>by injection h with h;simp_all
 |x::l,q,h=>by
  cases x with
  |w o f p=>
   simp only[pvs] at h;split at h
   .rename_i q' hq;cases h;obtain⟨h1,h2⟩:=Eb hq
    grind
   .cases h
  |_=>simp[pvs] at h
theorem nM(sz k:Nat)(a0:Option Addr)(cap:Nat)(us:List Value)(hl:us.length=k*sz)(h0:a0=none->k*sz=0)(hc:∀ad,a0=some ad->∀j u,us[j]?=some u->w.cell? (ad.add j)=some u):(Builtin.firstCells sz k (.slice a0 k cap)).run P w=.ok us.toArray w:=by
 cases a0 with
 |none=>
  have:us=[]:=iW (by rw[hl,h0 rfl]);subst this;rfl
 |some ad=>
  have:=run_loadCells_list (P:=P) w ad us (hc ad rfl);rw[hl] at this;trivial
theorem vC{sz k:Nat}{x:AV}{v:Value}{news:List AV}{c:Prop}(h0:iJ h sz x=some (k,news,c))(hc:c)(hs:dc B H m w)(a5:∀id cs,cV h id=some cs->(id,cs)∈H)(hx:bI B (LB m H) m w x v):∃(ax:Option Addr)(cx:Nat)(us:List Value),v=.slice ax k cx/\us.length=k*sz/\news.length=k*sz/\(∀ec,ec.heap=w.heap->(Builtin.firstCells sz k v).run P ec=.ok us.toArray ec)/\∀(j:Nat)(p:AV)(u:Value),news[j]?=some p->us[j]?=some u->bI B (LB m H) m w p u:=by
 unfold iJ at h0;split at h0
 .rename_i id ver z off k';split at h0
  .rename_i cells hg;simp only[dg,dH] at h0;obtain⟨rfl,rfl,rfl⟩:=h0;obtain⟨c1,c2,c3⟩:=hc;subst c2;obtain⟨ax,cx,rfl,hk,hd,_,h3,h4⟩:=hx.oe;rw[yR]
   have hlen:((cells.drop off).take (k'*z)).length=k'*z:=ar
   rw[<-c1] at h3 h4
   cases ha:m.addr id cells.length with
   |none=>
    obtain⟨rfl,h5⟩:=h3 ha
    have dk:k'=0:=ab
    subst dk;exact⟨ax,0,[],rfl,ae,hlen,λec _=>nM z 0 ax 0 [] ae (λ_=>ae) (λ_ _ j u hj=>by simp at hj),λj p u hp hu=>by simp at hu⟩
   |some bc=>
    obtain⟨b,C⟩:=bc;obtain⟨h5,h6,h7⟩:=h4 b C ha;obtain⟨cs,e,hh,hC,hle,_,a6⟩:=hs.read (a5 id cells hg) hd ha ab
    have hin:∀j,j<k'*z->off+j<cs.size:=by intro j hj;omega
    refine⟨ax,cx,(List.range (k'*z)).map (λj=>cs.getD (off+j) undef),rfl,ae,hlen,λec hw=>?_,λj p u hp hu=>?_⟩
    .refine nM z k' ax cx _ ae (λe=>?_) (λad e j u hj=>?_)
     .rcases k9 cx with h|h
      .have:k'=0:=ab
       simp[this]
      .rw[h5 h] at e;cases e
     .obtain⟨y,hy,rfl⟩:=gI hj;obtain⟨b6,rfl⟩:=fu.1 hy;simp only[qT] at b6;simp only[sK]
      have fl:0<cx:=by
       rcases k9 cx with h|h
       .have:k'=0:=ab
        rw[this] at b6;simp at b6
       .exact h
      rw[h5 fl] at e;injection e with e;subst e
      rw[Addr.jQ,nL (by rw[hw];exact hh)];simp[hin j b6]
    .obtain⟨y,hy,rfl⟩:=gI hu;obtain⟨b6,rfl⟩:=fu.1 hy;simp only[qT] at b6;simp only[sK];rw[k8] at hp;rw[bX b6,x9] at hp;exact a6 _ p _ hp (by simp[hin j b6])
  .cases h0
 .rename_i own f k' cells;simp only[dg,dH] at h0;obtain⟨rfl,rfl,rfl⟩:=h0;obtain⟨ax,cx,rfl,hk,_,h1,h2⟩:=hx.n9
  cases d7:cells with
  |nil=>
   have ck:k'*sz=0:=by rw[<-hc,d7];rfl
   exact⟨ax,cx,[],rfl,ck.symm,by simp[ck],λec _=>nM sz k' ax cx [] ck.symm (λ_=>ck) (λ_ _ j u hj=>by simp at hj),λj p u hp hu=>by simp at hu⟩
  |cons y ys=>
   obtain⟨b,off,vals,rfl,h3,h4,h5⟩:=h2 (by rw[d7];simp);rw[<-d7];refine⟨_,cx,(List.range cells.length).map vals,rfl,by simp[hc],by simp[hc],λec hw=>?_,λj p u hp hu=>?_⟩
   .refine nM sz k' _ cx _ (by simp[hc]) (λe=>by cases e) (λad e j u hj=>?_)
    injection e with e;subst e
    obtain⟨y',hy,rfl⟩:=gI hj;obtain⟨b6,rfl⟩:=fu.1 hy;simp only[qT] at b6;simp only[sK];rw[Addr.jQ];have:=h3 j b6;simpa[World.cell?,hw] using this
   .obtain⟨q,hq,rfl⟩:=gI hp;obtain⟨y',hy,rfl⟩:=gI hu;obtain⟨b6,rfl⟩:=fu.1 hy;simp only[sK];exact .w (h5 j q hq) (λh=>au)
 .cases h0
theorem zh{t tx e ex sz:Nat}{i:TypeInfo}(ht:P.underlying t=some (.slice e))(bj:P.underlying tx=some (.slice ex))(hi:P.info? e=some i)(hz:i.size=sz)(ty:TypeId)(a0:Option Addr)(k cap k2:Nat)(x:Value)(ax:Option Addr)(cx:Nat)(hx:x=.slice ax k2 cx)(us:List Value)(hn:(Builtin.firstCells sz k2 x).run P w=.ok us.toArray w)(bh:k+k2<=cap)(w2:World)(d6:∀ad,a0=some ad->(storeCells (ad.add (k*sz)) us).run P w=.ok () w2)(g9:a0=none->w2=w):(Builtin.append_ #[t,tx] ty #[.slice a0 k cap,x]).run P w=.ok (.slice a0 (k+k2) cap) w2:=by
 subst hx
 cases a0 with
 |none=>
  have:=g9 rfl;subst this;simp[Builtin.append_,run_underlying ht,run_underlying bj,sizeOf,typeInfo,hi,hz,Builtin.lenOf,bh,hn]
 |some ad=>
  have:=d6 ad rfl;simp[Builtin.append_,run_underlying ht,run_underlying bj,sizeOf,typeInfo,hi,hz,Builtin.lenOf,bh,hn,this]
theorem zi{t tx e ex sz:Nat}{i:TypeInfo}{z:Value}(ht:P.underlying t=some (.slice e))(bj:P.underlying tx=some (.slice ex))(hi:P.info? e=some i)(hz:i.size=sz)(hzero:i.zero=some z)(ty:TypeId)(a0:Option Addr)(k cap k2:Nat)(x:Value)(ax:Option Addr)(cx:Nat)(hx:x=.slice ax k2 cx)(us os:List Value)(hn:(Builtin.firstCells sz k2 x).run P w.drew=.ok us.toArray w.drew)(ho:(Builtin.firstCells sz k (.slice a0 k cap)).run P w.drew=.ok os.toArray w.drew)(bh:¬k+k2<=cap)(h1:k+k2<=1000000000)(bl:i.bytes<=100000):∃nc rest,k+k2<=nc/\rest.size=(nc-(k+k2))*z.cells.size/\(Builtin.append_ #[t,tx] ty #[.slice a0 k cap,x]).run P w=.ok (.slice (some ⟨w.heap.size,0,none⟩) (k+k2) nc) (w.drew.alloc (.cells (os.toArray++us.toArray++rest) e)):=by
 subst hx
 have hb:=growslice_fits (need:=k+k2) (old:=cap) (bytes:=i.bytes) ab (by
  have:(k+k2)*i.bytes<=1000000000*100000:=Nat.mul_le_mul h1 bl
  omega)
 have fd:¬(9223372036854775807<((k:Int)+(k2:Int))):=ab
 have fb:¬(281474976710656<Builtin.nextslicecap (k+k2) cap*i.bytes):=ab
 refine⟨grownCap w (k+k2) cap e,Builtin.zeroCells z.cells (grownCap w (k+k2) cap e-(k+k2)),grownCap_ge w _ _ e,size_zeroCells _ _,?_⟩;simp[Builtin.append_,run_underlying ht,run_underlying bj,sizeOf,typeInfo,zeroValue,hi,hz,hzero,Builtin.lenOf,bh,fd,fb,Question.forced,hn,ho,newRow,grownCap]
 grind
theorem dc.below(hs:dc B H m w){w':World}(hb:Bel w.heap.size w w'):dc B H m w':=by
 refine⟨λid cells hin hd=>?_,hs.inj⟩;obtain⟨ht,fm⟩:=hs.entry id cells hin hd;refine⟨ht,?_⟩
 rcases fm with h|⟨b,C,cs,e,h1,h2,h3,h4,h5,h6⟩|⟨b,es,clk,h1,h2,h3,h4,h5⟩
 .exact .inl h
 .exact .inr (.inl ⟨b,C,cs,e,h1,(hb.block b (fz hs ⟨id,cells,C,hin,hd,h1⟩)).trans h2,h3,h4,h5,λj p v hp hv=>(h6 j p v hp hv).mono (Mm.le.refl m) (λ_ _ h=>h) (λb bu _=>hb.block b bu)⟩)
 .exact .inr (.inr ⟨b,es,clk,h1,h2,(hb.block b (fz hs ⟨id,cells,0,hin,hd,h1⟩)).trans h3,h4,h5⟩)
theorem Ec(hs:dc B H m w)(a5:∀id cs,cV h id=some cs->(id,cs)∈H)(hB:B.n<=w.heap.size){t tx e sz:Nat}{ex:TypeId×Nat}{by_:Nat}{z:List AV}(ht:slE P t=some (e,sz))(bj:slE P tx=some ex)(bl:byE P e=some by_)(hz:fE P e=some z){x s:Value}{xa:AV}{k2:Nat}{news:List AV}{c:Prop}(aq:iJ h sz xa=some (k2,news,c))(hc:c)(hx:bI B (LB m H) m w xa x){q:List PV}(hq:pvs news=some q){own:Bool}{k:Nat}{cells:List PV}(dm:bI B (LB m H) m w (.w own true (.sl k cells)) s)(c1:cells.length=k*sz)(c3:z.length=sz)(c6:k+k2<=1000000000)(c7:by_<=100000)(ty:TypeId):∃v' w',(Builtin.append_ #[t,tx] ty #[s,x]).run P w=.ok v' w'/\Bel w.heap.size w w'/\dc B H m w'/\bI B (LB m H) m w' (.w (ij q&&(own || cells.isEmpty)) false (.sl (k+k2) (cells++q))) v':=by
 obtain⟨bf,i,hi,br⟩:=j0 ht;obtain⟨bk,_⟩:=j0 (e:=ex.1) (z:=ex.2) bj;obtain⟨iz,vz,de,hzero,rfl⟩:=pX hz;rw[hi] at de;cases de
 have cg:i.bytes<=100000:=by
  have:i.bytes=by_:=by simpa[byE,hi] using bl
  omega
 obtain⟨ax,cx,us,rfl,c9,cp,ag,cz⟩:=vC aq hc hs a5 hx;obtain⟨a0,cap,rfl,hk,cj,i2,dt⟩:=dm.n9;have b9:=cj rfl;subst b9;obtain⟨gf,j9⟩:=Eb hq
 have i6:vz.cells.size=sz:=by rw[<-c3];simp
 have el:∀(w2:World)(j:Nat)(p:PV)(u:Value),q[j]?=some p->us[j]?=some u->(∀b,b<w.heap.size->¬LB m H b->w2.heap[b]?=w.heap[b]?)->Rep (Good B (LB m H) (ij q&&(own || cells.isEmpty))) w2 p u:=by
  intro w2 j p u hp hu jt;obtain⟨o,f,hn⟩:=j9 j p hp;have:=cz j _ u hn hu
  cases this with
  |w hr _=>
   cases io:ij q with
   |true=>exact vB (Ea io j p hp) hr
   |false=>exact hr.mono (λb _ hg=>⟨hg.1,(λh=>by simp at h),hg.2.2⟩) (λb hb hg=>jt b hb hg.1)
 by_cases g2:k2=0
 .subst g2;have f8:us=[]:=iW ab;have j':q=[]:=iW (by rw[<-gf,cp];simp);subst f8;subst j';refine⟨_,w,zh bf bk hi br ty a0 k k 0 _ ax cx rfl [] (ag w rfl) ab w (λad _=>rfl) (λ_=>rfl),Bel.refl _ _,hs,?_⟩;simp only[pR,oI,ij,fV];refine .w ?_ nofun
  cases dm with
  |w hr _=>
   cases ed:cells with
   |nil=>
    rw[ed] at hr
    cases hr with
    |slnil=>exact .slnil
    |sl vals h1 h2 h3 h4=>exact .slz h1
    |slz h1=>exact .slz h1
   |cons y ys=>
    rw[ed] at hr
    grind
 .obtain⟨os,j7,bd,i3⟩:∃os:List Value,os.length=k*sz/\(Builtin.firstCells sz k (.slice a0 k k)).run P w.drew=.ok os.toArray w.drew/\∀(j:Nat)(p:PV)(v:Value),cells[j]?=some p->os[j]?=some v->Rep (Good B (LB m H) own) w p v:=by
   cases ed:cells with
   |nil=>
    have ck:k*sz=0:=by rw[<-c1,ed];rfl
    exact⟨[],ck.symm,nM sz k a0 k [] ck.symm (λ_=>ck) (λ_ _ j u hj=>by simp at hj),λj p v hp=>by simp at hp⟩
   |cons y ys=>
    obtain⟨b,off,vals,rfl,h3,h4,h5⟩:=dt (by rw[ed];simp);rw[<-ed];refine⟨(List.range cells.length).map vals,by simp[c1],nM sz k _ k _ (by simp[c1]) nofun (λad e j u hj=>?_),λj p v hp hv=>?_⟩
    .cases e;obtain⟨y',hy,rfl⟩:=gI hj;obtain⟨b6,rfl⟩:=fu.1 hy;simp only[qT] at b6;simp only[sK];rw[Addr.jQ];exact h3 j b6
    grind
  obtain⟨nc,rest,d9,ct,a4⟩:=zi bf bk hi br hzero ty a0 k k k2 _ ax cx rfl us os (ag w.drew rfl) bd ab c6 cg;have aw:(k+k2)*sz=k*sz+k2*sz:=ga _ _ _;refine⟨_,_,a4,⟨rfl,rfl,by rw[y9];simp,λb hb=>jH w.drew _ hb⟩,hs.below ⟨rfl,rfl,by rw[y9];simp,λb hb=>jH w.drew _ hb⟩,.w ?_ nofun⟩;have bb:=vt w.drew (.cells (os.toArray++us.toArray++rest) e)
  have a6:∀j,j<os.length+us.length->(w.drew.alloc (.cells (os.toArray++us.toArray++rest) e)).cell? ⟨w.heap.size,0+j,none⟩=some ((os++us).getD j undef):=by
   intro j hj;rw[eo,nL (b:=w.heap.size) bb];rw[yd,bX (by simpa using hj)];simp_all
  refine .sl (b:=w.heap.size) (off:=0) (λj=>(os++us).getD j undef) d9 (λj hj=>a6 j ?_) (λ_=>⟨λhl=>?_,λ_=>hB,λhl=>?_⟩) (λj p hp=>?_)
  .have jh:q.length=us.length:=by rw[<-gf,cp,c9]
   have:j<cells.length+q.length:=ak
   omega
  .have:=fz hs hl;omega
  .omega
  .rw[List.getElem?_append] at hp;split at hp
   .rename_i hj
    have dj:j<os.length:=ab
    have hv:(os++us).getD j undef=os[j]:=ak
    rw[hv];have hr:=i3 j p _ hp (dY dj);refine hr.mono (λb _ hg=>⟨hg.1,λhf=>?_,hg.2.2⟩) (λb hb hg=>jH w.drew _ hb)
    cases own with
    |true=>exact hg.2.1 rfl
    |false=>
     have b7:cells≠[]:=by rintro rfl;simp at hj
     have:cells.isEmpty=false:=by cases cells<;>simp_all
     simp_all
   .rename_i hj;have k1:j-cells.length<q.length:=(fu.1 hp).1
    have j2:j-os.length<us.length:=by
     have jh:q.length=us.length:=by rw[<-gf,cp,c9]
     omega
    have hv:(os++us).getD j undef=us[j-os.length]:=ak
    rw[hv]
    have e1:j-cells.length=j-os.length:=ab
    rw[e1] at hp;exact el _ (j-os.length) p _ hp (dY j2) (λb hb _=>jH w.drew _ hb)
theorem J6(args:Array Operand)(tys:Array TypeId)(o:Oper)(ho:o.op=.call { callee:=.builtin .append,args:=args,argTypes:=tys }){c:Prop}{v:AV}{E:List (List AV)}(h0:aOp P h n (ev env) (.call { callee:=.builtin .append,args:=args,argTypes:=tys })=some (c,v,E))(hc:c)(hs:dc B H m w)(hB:B.n<=w.heap.size)(a5:∀id cs,cV h id=some cs->(id,cs)∈H)(a9:∀x∈args.toList,bI B (LB m H) m w (ev env x) (a.eval x)):QOk P B H m w n E.length (execOp a.eval o) v:=by
 simp only[aOp] at h0
 match hA:args.toList,hT:tys.toList with
 |[s,x],[t,tx]=>
  rw[hA,hT] at h0;simp only[oK,ye,BT,BS] at h0;split at h0
  .rename_i e sz _ ht bj;split at h0
   .rename_i by_ z k2 news c0 bl hz aq;split at h0
    .rename_i own k cells es;split at h0
     .rename_i q hq;cases h0;obtain⟨i7,c1,c3,_,c6,c7⟩:=hc;have h1:=a9 s (by rw[hA];simp);have h2:=a9 x (by rw[hA];simp);rw[es] at h1;obtain⟨v',w',a4,hb,eg,hv⟩:=Ec hs a5 hB ht bj bl hz aq i7 h2 hq h1 c1 c3 c6 c7 o.type;refine⟨v',w',m,?_,Mm.le.refl m,λi=>⟨.inl,λh=>h.elim id λh=>ak⟩,hb,eg,λb hb=>.inl hb,hv⟩
      have ha:args=#[s,x]:=by rw[<-oJ (xs:=args),hA]
      have f7:tys=#[t,tx]:=by rw[<-oJ (xs:=tys),hT]
      subst ha f7;simp[execOp,ho,resolve,invoke,builtin,a4]
     .cases h0
    .cases h0
   .cases h0
  .cases h0
 |[],_=>rw[hA] at h0;trivial
 |[_],_=>rw[hA] at h0;trivial
 |_::_::_::_,_=>rw[hA] at h0;trivial
 |[_,_],[]=>rw[hA,hT] at h0;trivial
 |[_,_],[_]=>rw[hA,hT] at h0;trivial
 |[_,_],_::_::_::_=>rw[hA,hT] at h0;trivial
end
section
variable{P:Program}{B:Base}{m:Mm}{w:World}{H h:bD}{n:Nat}{env:Env}{a:Act}{L:Nat->Prop}
omit [bJ] in
theorem gb{r:Sem Next}{v:AV}{E:List (List AV)}(hs:dc B H m w)(hv:E=[]/\fX P B H m w r v):QOk P B H m w n E.length r v:=by
 obtain⟨rfl,hv⟩:=hv;exact hv.q hs
omit [bJ] in
theorem J7(o:Oper){c:Prop}{v:AV}{E:List (List AV)}(h0:aOp P h n (ev env) o.op=some (c,v,E))(hc:c)(hs:dc B H m w)(hB:B.n<=w.heap.size)(a5:∀id cs,cV h id=some cs->(id,cs)∈H)(hE:∀k cs,E[k]?=some cs->(n+k,cs)∈H)(ao:∀k,k<E.length->¬m.dom (n+k))(hx:∀x,x∈o.op.operands->bI B (LB m H) m w (ev env x) (a.eval x)):QOk P B H m w n E.length (execOp a.eval o) v:=by
 cases ho:o.op with
 |move x=>
  rw[ho] at h0 hx;simp only[aOp,dg,dH] at h0;obtain⟨rfl,rfl,rfl⟩:=h0;exact gb hs ⟨rfl,_,by simp[execOp,ho],hx x aA⟩
 |assign x=>
  rw[ho] at h0 hx;simp only[aOp,dg,dH] at h0;obtain⟨rfl,rfl,rfl⟩:=h0;exact gb hs ⟨rfl,_,by simp[execOp,ho],hx x aA⟩
 |pick x y z=>rw[ho] at h0 hx;exact gb hs (JC x y z o ho h0 (hx x aA) (hx y aA) (hx z aA))
 |alloc t=>rw[ho] at h0;exact JZ t o ho h0 hs hB hE ao
 |box t x=>rw[ho] at h0 hx;exact J0 t x o ho h0 hc hs hB hE ao (hx x aA)
 |build t ps=>rw[ho] at h0 hx;exact gb hs (JY t ps o ho h0 (λx hm=>hx x (by simpa[Op.operands] using hm)))
 |buildSlice t l ps=>rw[ho] at h0 hx;exact J1 t l ps o ho h0 hc hs hB hE ao (λx hm=>hx x (by simpa[Op.operands] using hm))
 |load t x=>rw[ho] at h0 hx;exact gb hs (DN t x o ho h0 hc hs a5 (hx x aA))
 |nilCheck x=>rw[ho] at h0 hx;exact gb hs (JP x o ho h0 (hx x aA))
 |binOp op t x y yt=>
  rw[ho] at h0 hx;have h1:=hx x aA;have h2:=hx y aA;simp only[aOp] at h0;split at h0
  .rename_i k hk;split at h0
   .rename_i r hr;split at h0
    .cases h0;exact gb hs ⟨rfl,DJ .eql (.inl rfl) t x y yt hk hr h1 h2 hc.1 hc.2 o ho⟩
    .cases h0;exact gb hs ⟨rfl,DJ .neq (.inr rfl) t x y yt hk hr h1 h2 hc.1 hc.2 o ho⟩
    .cases h0
   .cases h0
  .split at h0
   .rename_i ox fx p oy fy q ex ey;split at h0
    .rename_i c' v' hb;cases h0;exact gb hs ⟨rfl,Jz op t x y yt ex ey hb hc h1 h2 o ho⟩
    .cases h0
   .cases h0
 |unOp op t x=>rw[ho] at h0 hx;exact gb hs (Qd op t x o ho h0 hc (hx x aA))
 |convert s d x=>rw[ho] at h0 hx;exact gb hs (JB s d x o ho h0 hc (hx x aA))
 |makeInterface t x=>rw[ho] at h0 hx;exact gb hs (JA t x o ho h0 (hx x aA))
 |makeFunc f fs cs=>rw[ho] at h0 hx;exact gb hs (JQ f fs cs o ho h0 (λx hm=>hx x (by simp[Op.operands,qV.1 hm])))
 |makeSlice t x y=>rw[ho] at h0 hx;exact J2 t x y o ho h0 hc hs hB hE ao (hx x aA) (hx y aA)
 |slice t x lo hi mx=>
  rw[ho] at h0 hx;exact gb hs (JU t x lo hi mx o ho h0 hc (hx x aA) (λy e=>hx y (by simp[Op.operands,e])) (λy e=>hx y (by simp[Op.operands,e])) (λy e=>hx y (by simp[Op.operands,e])))
 |fieldAddr s x f=>rw[ho] at h0 hx;exact gb hs (JD s x f o ho h0 (hx x aA))
 |field s x f=>rw[ho] at h0 hx;exact gb hs (JH s x f o ho h0 hc (hx x aA))
 |indexAddr t x i=>rw[ho] at h0 hx;exact gb hs (JJ t x i o ho h0 hc (hx x aA) (hx i aA))
 |index t x i=>rw[ho] at h0 hx;exact gb hs (JK t x i o ho h0 hc (hx x aA) (hx i aA))
 |lookup t x k c0=>rw[ho] at h0 hx;exact gb hs (J5 t x k c0 o ho h0 hc hs a5 (hx x aA) (hx k aA))
 |extract x i=>rw[ho] at h0 hx;exact gb hs (JL x i o ho h0 (hx x aA))
 |call cl=>
  rw[ho] at h0 hx;obtain⟨callee,args,tys⟩:=cl
  cases callee with
  |builtin b=>
   have a9:∀x∈args.toList,bI B (LB m H) m w (ev env x) (a.eval x):=λx hm=>hx x (by simp[Op.operands,Call.operands,qV.1 hm])
   cases b with
   |len=>exact gb hs (JM args tys o ho h0 a9)
   |max=>exact gb hs (JN args tys o ho h0 a9)
   |min=>exact gb hs (JO args tys o ho h0 a9)
   |append=>exact J6 args tys o ho h0 hc hs hB a5 a9
   |_=>simp[aOp] at h0
  |_=>simp[aOp] at h0
 |_=>rw[ho] at h0;simp[aOp] at h0
end
def BV(P:Program)(f:FuncId):Prop:=∃fn,P.funcs[f]?=some fn/\(fn.name == "runtime.NumGoroutine")=false/\fn.body.isNone=false
def bT(P:Program)(f:FuncId)(args:List PV)(res:PV)(fr:Bool):Prop:=
 BV P f/\∀(G:Nat->Prop)(w:World)(vs:Array Value),bJ.ok w->args.length=vs.size->(∀(j:Nat)(p:PV)(v:Value),args[j]?=some p->vs[j]?=some v->Rep G w p v) ->
  kh P f vs w λe w'=>∃v,e=.returned v/\Bel w.heap.size w w'/\Rep (λb=>(b<w.heap.size->G b)/\(fr=true->w.heap.size<=b)) w' res v
def isW:AV->Bool
 |.w _ _ _=>true
 |_=>false
def rK:List AV->Bool
 |[]=>true
 |x::r=>isW x&&rK r
def xu:AV->Bool
 |.w _ _ _=>true
 |.agg cs=>rK cs
 |.fn _ cs=>rK cs
 |_=>false
def nj:List AV->Bool
 |[]=>true
 |x::r=>xu x&&nj r
section
variable{P:Program}{B:Base}{m:Mm}{w:World}{H h:bD}{n:Nat}{env:Env}{a:Act}{L:Nat->Prop}
omit [bJ] in
theorem j1{α β:Type}{f:α->Option β}:∀{l:List α}{r:List β},l.mapM f=some r->l.length=r.length/\∀(j:Nat)(y:β),r[j]?=some y->∃x,l[j]?=some x/\f x=some y
 |[],r,h=>by simp_all
 |x::l,r,h=>by
  simp only[yc] at h
  cases hx:f x with
  |none=>grind
  |some y=>
   simp only[hx,Option.bind_eq_bind,jz] at h
   cases hr:l.mapM f with
   |none=>grind
   |some r'=>
    simp only[hr,jz] at h;cases h;obtain⟨h1,h2⟩:=j1 hr
    grind
def fF(h:bD):Nat->AV->Bool
 |_,.w own _ p=>own || flat p
 |0,_=>false
 |d+1,.ptr id _ _=>match cV h id with
  |some cells=>cells.all (fF h d)
  |none=>false
 |d+1,.msl id _ _ _ _=>match cV h id with
  |some cells=>cells.all (fF h d)
  |none=>false
 |d+1,.agg cs=>cs.all (fF h d)
 |d+1,.tup cs=>cs.all (fF h d)
 |d+1,.fn _ c=>c.all (fF h d)
 |_+1,.mp _=>false
omit [bJ] in
theorem nN(hs:dc B H m w)(a5:∀id cs,cV h id=some cs->(id,cs)∈H){G':Nat->Prop}(fr:Bool)(hG1:∀b,B.n<=b->G' b)(hG2:fr=false->∀b,Good B (LB m H) false b->G' b):∀(d:Nat)(x:AV)(p:PV)(v:Value),frz h d x=some p->(fr=true->fF h d x=true)->bI B (LB m H) m w x v->Rep G' w p v
 |d,.w o f q,p,v,hf,b5,hr=>by
  have:q=p:=by cases d<;>(simp[frz] at hf;exact hf)
  subst this
  cases hr with
  |w hr _=>
   cases ef:fr with
   |false=>exact hr.imp λb hg=>hG2 ef b ⟨hg.1,nofun,hg.2.2⟩
   |true=>
    have h1:=b5 ef
    have h2:(o || flat q)=true:=by cases d<;>exact h1
    cases o with
    |true=>exact hr.imp λb hg=>hG1 b (hg.2.1 rfl)
    |false=>exact vB ak hr
 |0,.ptr ..,_,_,hf,_,_=>by trivial
 |0,.msl ..,_,_,hf,_,_=>by trivial
 |0,.agg _,_,_,hf,_,_=>by trivial
 |0,.tup _,_,_,hf,_,_=>by trivial
 |0,.fn _ _,_,_,hf,_,_=>by trivial
 |0,.mp _,_,_,hf,_,_=>by trivial
 |_+1,.mp _,_,_,hf,_,_=>by trivial
 |d+1,.ptr id ver off,p,v,hf,b5,hr=>by
  simp only[frz] at hf;split at hf
  .rename_i cells hg;split at hf
   .rename_i d3
    cases hm:cells.mapM (frz h d) with
    |none=>grind
    |some r=>
     simp only[hm,eI,dg] at hf;subst hf;obtain⟨h1,h2⟩:=j1 hm;obtain⟨b,C,rfl,hd,hvC,ha⟩:=hr.pg;rw[<-d3] at ha hvC;obtain⟨cs,e,hh,hC,hle,hbB,a6⟩:=hs.read (a5 id cells hg) hd ha hvC.2
     have:=Rep.ip (G:=G') (w:=w) (o:=off) (b:=b) (off:=0) (cells:=r) (λj=>cs.getD j undef) (λj hj=>by
      have:j<cs.size:=ab
      rw[eo,nL hh];simp[this]) (λ_=>hG1 b hbB) (λj q hq=>by
      obtain⟨x,hx,d'⟩:=h2 j q hq
      have hj:j<cs.size:=by have:=(fu.1 hx).1;omega
      exact nN hs a5 fr hG1 hG2 d x q _ d' (λe=>by have:=b5 e;simp only[fF,hg] at this;grind) (a6 j x _ hx (by simp[hj])))
     rw[eo] at this;exact this
   .cases hf
  .cases hf
 |d+1,.msl id ver sz off k,p,v,hf,b5,hr=>by
  simp only[frz] at hf;split at hf
  .rename_i cells hg;split at hf
   .rename_i d3
    cases hm:cells.mapM (frz h d) with
    |none=>grind
    |some r=>
     simp only[hm,eI,dg,yR] at hf;subst hf;obtain⟨h1,h2⟩:=j1 hm;obtain⟨a0,cap,rfl,hk,hd,_,h3,h4⟩:=hr.oe;rw[<-d3] at h3 h4
     cases ha:m.addr id cells.length with
     |none=>
      obtain⟨rfl,h5⟩:=h3 ha;have ja:r=[]:=iW ab;subst ja
      have:k=0:=ab
      subst this
      cases a0 with
      |none=>simpa using Rep.slnil
      |some a1=>simpa using Rep.slz (bV _)
     |some bc=>
      obtain⟨b,C⟩:=bc;obtain⟨h5,h6,h7⟩:=h4 b C ha;obtain⟨cs,e,hh,hC,hle,hbB,a6⟩:=hs.read (a5 id cells hg) hd ha ab
      cases hL:(r.drop off).take (k*sz) with
      |nil=>
       cases a0 with
       |none=>
        have b9:cap=0:=by
         simp_all
        subst b9
        have:k=0:=ab
        subst this;exact .slnil
       |some a1=>exact .slz hk
      |cons x xs=>
       have b9:0<cap:=by
        rcases k9 cap with h|h
        .have:k=0:=ab
         rw[this] at hL;simp at hL
        .exact h
       rw[h5 b9,<-hL];refine .sl (λj=>cs.getD (off+j) undef) hk (λj hj=>?_) (λ_=>hG1 b hbB) (λj q hq=>?_)
       .rw[jY,uR] at hj
        have:off+j<cs.size:=ab
        rw[nL hh];simp[this]
       .rw[k8] at hq;split at hq
        .rw[x9] at hq;obtain⟨x,hx,d'⟩:=h2 _ q hq
         have hj:off+j<cs.size:=by have:=(fu.1 hx).1;omega
         exact nN hs a5 fr hG1 hG2 d x q _ d' (λe=>by have:=b5 e;simp only[fF,hg] at this;grind) (a6 _ x _ hx (by simp[hj]))
        .cases hq
   .cases hf
  .cases hf
 |d+1,.agg cs,p,v,hf,b5,hr=>by
  simp only[frz] at hf
  cases hm:cs.mapM (frz h d) with
  |none=>grind
  |some r=>
   simp only[hm,eI,dg] at hf;subst hf;obtain⟨h1,h2⟩:=j1 hm;obtain⟨vs,rfl,hl,hc⟩:=hr.Hz
   exact .agg ab (λj q u hq hu=>by
    obtain⟨x,hx,d'⟩:=h2 j q hq
    exact nN hs a5 fr hG1 hG2 d x q u d' (λe=>by have:=b5 e;simp only[fF] at this;grind) (hc j x u hx hu))
 |d+1,.tup cs,p,v,hf,b5,hr=>by
  simp only[frz] at hf
  cases hm:cs.mapM (frz h d) with
  |none=>grind
  |some r=>
   simp only[hm,eI,dg] at hf;subst hf;obtain⟨h1,h2⟩:=j1 hm;obtain⟨vs,rfl,hl,hc⟩:=hr.xq
   exact .tup ab (λj q u hq hu=>by
    obtain⟨x,hx,d'⟩:=h2 j q hq
    exact nN hs a5 fr hG1 hG2 d x q u d' (λe=>by have:=b5 e;simp only[fF] at this;grind) (hc j x u hx hu))
 |d+1,.fn g cs,p,v,hf,b5,hr=>by
  simp only[frz] at hf
  cases hm:cs.mapM (frz h d) with
  |none=>grind
  |some r=>
   simp only[hm,eI,dg] at hf;subst hf;obtain⟨h1,h2⟩:=j1 hm
   cases hr with
   |fn hl hc=>
    exact .fn ab (λj q u hq hu=>by
     obtain⟨x,hx,d'⟩:=h2 j q hq
     exact nN hs a5 fr hG1 hG2 d x q u d' (λe=>by have:=b5 e;simp only[fF] at this;grind) (hc j x u hx hu))
end
def lJ(h:bD):List AV->Option (List PV)
 |[]=>some []
 |x::r=>match frz h 6 x with
  |some p=>match lJ h r with
   |some q=>some (p::q)
   |none=>none
  |none=>none
inductive Mark{α:Type}(a:α):Type where
 |it
def pn(fr:Bool)(p:PV):Bool:=fr && !flat p
def AV.sh(n:Nat):AV->AV
 |.w o f p=>.w o f p
 |.ptr id v off=>.ptr (id+n) v off
 |.msl id v sz off k=>.msl (id+n) v sz off k
 |.mp id=>.mp (id+n)
 |.agg cs=>.agg (shL n cs)
 |.tup cs=>.tup (shL n cs)
 |.fn f cs=>.fn f (shL n cs)
where shL (n:Nat):List AV->List AV
 |[]=>[]
 |x::r=>x.sh n::shL n r
def AV.frs:AV->Bool
 |.w o _ p=>o || flat p
 |.ptr _ _ _=>true
 |.msl _ _ _ _ _=>true
 |.mp _=>true
 |.agg cs=>mq cs
 |.tup cs=>mq cs
 |.fn _ cs=>mq cs
where mq:List AV->Bool
 |[]=>true
 |x::r=>x.frs&&mq r
section
omit [bJ]
theorem Ed{n:Nat}{c:List AV}:jP (AV.sh.shL n c)=jP c:=by
 match c with
 |[]=>rfl
 |[x]=>cases x<;>simp[AV.sh.shL,AV.sh,jP]
 |x::y::r=>simp[AV.sh.shL,jP]
theorem J8{n:Nat}{c:List AV}{l:List (PV×PV)}(h:fM (AV.sh.shL n c)=some l):fM c=some l:=by
 match c with
 |[]=>trivial
 |[x]=>
  cases x with
  |w o f p=>trivial
  |_=>simp[AV.sh.shL,AV.sh,fM] at h
 |x::y::r=>simp[AV.sh.shL,fM] at h
theorem J9{n:Nat}{c:List AV}{l:List (PV×PV)}(h:fM c=some l):fM (AV.sh.shL n c)=some l:=by
 match c with
 |[]=>trivial
 |[x]=>
  cases x with
  |w o f p=>trivial
  |_=>simp[fM] at h
 |x::y::r=>simp[fM] at h
end
def db(h:bD)(n:Nat):List (List AV)->bD
 |[]=>h
 |c::E=>(n,c)::db h (n+1) E
def og(P:Program)(f:FuncId)(args:List PV)(E:List (List AV))(v:AV):Prop:=
 BV P f/\v.frs=true/\(∀c∈E,AV.frs.mq c=true)/\∀(G:Nat->Prop)(w:World)(vs:Array Value),bJ.ok w->args.length=vs.size->(∀(j:Nat)(p:PV)(v:Value),args[j]?=some p->vs[j]?=some v->Rep G w p v) ->
  kh P f vs w λe w'=>∃u mm,e=.returned u/\Bel w.heap.size w w'/\(∀i,mm.dom i↔i<E.length)/\dc ⟨w.heap.size,G⟩ (db [] 0 E) mm w'/\bI ⟨w.heap.size,G⟩ (LB mm (db [] 0 E)) mm w' v u
def CW(P:Program)(g:FuncId)(args:List PV)(K:PV->Bool->Prop)(K2:List (List AV)->AV->Prop)(_:Mark (K,K2)):Prop:=(∃res fr,bT P g args res fr/\K res fr)\/∃E v,og P g args E v/\K2 E v
def uu(P:Program)(h:bD)(n:Nat)(g:FuncId)(args:List AV)(K:AV->List (List AV)->Prop):Prop:=
 match lJ h args with
 |some pvs=>CW P g pvs (λres fr=>(fr=true\/nj args=true)/\K (.w (pn fr res) false res) []) (λE v=>K (v.sh n) (E.map (AV.sh.shL n))) .it
 |none=>False
def gd:AV->Option (FuncId×List AV)
 |.fn g b8=>some (g,b8)
 |.w own _ (.fn g b8)=>some (g,b8.map (AV.w own false))
 |_=>none
def du(P:Program)(env:Env)(h:bD)(n:Nat)(op:Op)(K:AV->List (List AV)->Prop):Prop:=
 match op with
 |.call { callee:=.value f,args:=args,argTypes:=_ } =>
  match gd (ev env f) with
  |some (g,b8)=>uu P h n g (args.toList.map (ev env)++b8) K
  |none=>False
 |op=>match aOp P h n (ev env) op with
  |some (c,v,E)=>c/\K v E
  |none=>False
def jc(B:Base)(H:bD)(m:Mm)(w:World)(n k:Nat)(v:AV)(v':Value)(w':World)(m':Mm):Prop:=
 m.le m'/\(∀i,m'.dom i↔m.dom i\/(n<=i/\i<n+k))/\Bel w.heap.size w w'/\dc B H m' w'/\(∀b,LB m' H b->LB m H b\/w.heap.size<=b)/\bI B (LB m' H) m' w' v v'
omit [bJ] in
theorem Ka{fr:Bool}{p:PV}(h:pn fr p=true):fr=true:=by
 unfold pn at h;simp_all
section
variable{P:Program}{B:Base}{m:Mm}{w:World}{H h:bD}{n:Nat}{env:Env}{a:Act}{L:Nat->Prop}
section
omit [bJ]
theorem zj:∀{l:List AV}{r:List PV},lJ h l=some r->l.length=r.length/\∀(j:Nat)(p:PV),r[j]?=some p->∃x,l[j]?=some x/\frz h 6 x=some p
 |[],r,e=>by simp[lJ] at e;simp_all
 |x::l,r,e=>by
  simp only[lJ] at e;split at e
  .rename_i p hp;split at e
   .rename_i q hq;cases e;obtain⟨h1,h2⟩:=zj hq
    grind
   .cases e
  .cases e
theorem Ee:∀{l:List AV},nj l=true->∀(j:Nat)(x:AV),l[j]?=some x->xu x=true
 |[],_,j,x,h=>by simp at h
 |y::l,hp,j,x,h=>by
  simp only[nj,eT] at hp
  cases j with
  |zero=>simp_all
  |succ j=>exact Ee hp.2 j x av
theorem zk:∀{l:List AV},rK l=true->∀(j:Nat)(x:AV),l[j]?=some x->isW x=true
 |[],_,j,x,h=>by simp at h
 |y::l,hp,j,x,h=>by
  simp only[rK,eT] at hp
  cases j with
  |zero=>simp_all
  |succ j=>exact zk hp.2 j x av
end
theorem Kb(hO:bJ.ok w)(hs:dc B H m w)(hB:B.n<=w.heap.size)(a5:∀id cs,cV h id=some cs->(id,cs)∈H)(o:Oper)(f:Operand)(args:Array Operand)(tys:Array TypeId)(ho:o.op=.call { callee:=.value f,args:=args,argTypes:=tys })(hx:∀x,x∈o.op.operands->bI B (LB m H) m w (ev env x) (a.eval x)){g:FuncId}{b8:List AV}(hf:gd (ev env f)=some (g,b8)){pvs:List PV}(hp:lJ h (args.toList.map (ev env)++b8)=some pvs){res:PV}{fr:Bool}(hc:bT P g pvs res fr)(b5:fr=true\/nj (args.toList.map (ev env)++b8)=true)(K:Act->World->Prop)(Q:Exit->Act->World->Prop)(hK:∀v' w' m',jc B H m w n 0 (.w (pn fr res) false res) v' w' m'->K (a.put o.dst v') w'):o.wpt P a w K Q:=by
 obtain⟨⟨fn,fp,em,ej⟩,bn⟩:=hc;have bv:bI B (LB m H) m w (ev env f) (a.eval f):=hx f aD
 have jw:∀x∈args.toList,bI B (LB m H) m w (ev env x) (a.eval x):=λx hm=>hx x (by rw[ho];simp[Op.operands,Call.operands,qV.1 hm])
 have ef:∃cv:Array Value,a.eval f=.func (.func g) #[] cv/\b8.length=cv.size/\∀(j:Nat)(p:AV)(v:Value),b8[j]?=some p->cv[j]?=some v->bI B (LB m H) m w p v:=by
  unfold gd at hf;split at hf
  .rename_i g' cf e
   injection hf with hf;injection hf with h1 h2;subst h1;subst h2
   rw[e] at bv;generalize hv:a.eval f=vf at bv
   cases bv with|fn h1 h2=>grind
  .rename_i own f' g' cf e
   injection hf with hf;injection hf with h1 h2;subst h1;subst h2
   rw[e] at bv;generalize hv:a.eval f=vf at bv
   cases bv with
   |w h1 _=>
    cases h1 with
    |fn h1 h2=>
     refine⟨_,rfl,ak,λj p v hp hv=>?_⟩;obtain⟨q,hq,rfl⟩:=gI hp;exact .w (h2 j q v hq hv) nofun
  .cases hf
 obtain⟨cv,fo,d7,ie⟩:=ef
 have fh:∀(j:Nat)(x:AV)(v:Value),(args.toList.map (ev env)++b8)[j]?=some x->(args.map a.eval++cv)[j]?=some v->bI B (LB m H) m w x v:=by
  grind
 obtain⟨g3,f9⟩:=zj hp
 have hlen:pvs.length=(args.map a.eval++cv).size:=by rw[<-g3];simp[d7]
 have a4:(execOp a.eval o).run P w=.ok (.enter g (args.map a.eval++cv)) w:=by
  have g4:¬fn.name = "runtime.NumGoroutine" := by simp_all
  have bu:¬fn.body=none:=ak
  simp[execOp,ho,resolve,fo,Deferred.ofValue,invoke,callFunc,fp,g4,bu]
 unfold Oper.wpt;rw[a4,Oper.BL]
 rcases b5 with b5|er
 .subst b5
  refine (bn (λ_=>True) w _ hO hlen (λj p v hp hv=>by
   obtain⟨x,hx,d4⟩:=f9 j p hp
   exact nN hs a5 false (λ_ _=>trivial) (λ_ _ _=>trivial) 6 x p v d4 nofun (fh j x v hx hv))).mono ?_
  rintro e w' ⟨v,rfl,hb,hr⟩
  refine hK v w' m ⟨Mm.le.refl m,λi=>⟨.inl,λh=>h.elim id λh=>ab⟩,hb,hs.below hb,λb h=>.inl h,.w (hr.imp λb hg=>?_) nofun⟩;have bu:=hg.2 rfl;exact⟨λhl=>by have:=fz hs hl;omega,λ_=>ab,λh=>ab⟩
 .refine (bn (Good B (LB m H) false) w _ hO hlen (λj p v hp hv=>by
   obtain⟨x,hx,d4⟩:=f9 j p hp;have gc:=Ee er j x hx;have hr:=fh j x v hx hv
   cases x with
   |w o f q=>
    have:q=p:=by simpa[frz] using d4
    subst this
    cases hr with|w hr _=>exact hr.imp λb hg=>⟨hg.1,nofun,hg.2.2⟩
   |agg cs=>
    cases hm:cs.mapM (frz h 5) with
    |none=>simp[frz,hm] at d4
    |some r=>
     simp only[frz,hm,eI,dg] at d4;subst d4;obtain⟨h1,h2⟩:=j1 hm
     cases hr with
     |agg hl a6=>
      refine .agg ab (λi q u hq hu=>?_);obtain⟨y,hy,gq⟩:=h2 i q hq;have gu:isW y=true:=zk gc i y hy;have gt:=a6 i y u hy hu
      cases y with
      |w o f q'=>
       have:q'=q:=by simpa[frz] using gq
       subst this
       cases gt with|w hr _=>exact hr.imp λb hg=>⟨hg.1,nofun,hg.2.2⟩
      |_=>cases gu
   |fn gg cs=>
    cases hm:cs.mapM (frz h 5) with
    |none=>simp[frz,hm] at d4
    |some r=>
     simp only[frz,hm,eI,dg] at d4;subst d4;obtain⟨h1,h2⟩:=j1 hm
     cases hr with
     |fn hl a6=>
      refine .fn ab (λi q u hq hu=>?_);obtain⟨y,hy,gq⟩:=h2 i q hq;have gu:isW y=true:=zk gc i y hy;have gt:=a6 i y u hy hu
      cases y with
      |w o f q'=>
       have:q'=q:=by simpa[frz] using gq
       subst this
       cases gt with|w hr _=>exact hr.imp λb hg=>⟨hg.1,nofun,hg.2.2⟩
      |_=>cases gu
   |_=>cases gc)).mono ?_
  rintro e w' ⟨v,rfl,hb,hr⟩
  refine hK v w' m ⟨Mm.le.refl m,λi=>⟨.inl,λh=>h.elim id λh=>ab⟩,hb,hs.below hb,λb h=>.inl h,.w (hr.imp λb hg=>?_) nofun⟩
  rcases fq b w.heap.size with b6|k0
  .have gy:=hg.1 b6;exact⟨gy.1,λh=>by have:=hg.2 (Ka h);omega,gy.2.2⟩
  .exact⟨λhl=>by have:=fz hs hl;omega,λ_=>ab,λh=>ab⟩
section
omit [bJ]
theorem ia(n:Nat):∀cs:List AV,AV.sh.shL n cs=cs.map (AV.sh n)
 |[]=>rfl
 |x::r=>by simp[AV.sh.shL,ia n r]
theorem tc:∀{cs:List AV},AV.frs.mq cs=true->∀(j:Nat)(x:AV),cs[j]?=some x->x.frs=true
 |[],_,j,x,h=>by simp at h
 |y::l,hp,j,x,h=>by
  simp only[AV.frs.mq,eT] at hp
  cases j with
  |zero=>simp_all
  |succ j=>exact tc hp.2 j x av
theorem bI.up{B1:Base}{L1 L2:Nat->Prop}{mm m':Mm}{w':World}{n:Nat}{x:AV}{v:Value}(h:bI B1 L1 mm w' x v)(hd:∀i,mm.dom i->m'.dom (i+n))(ht:∀i,mm.dom i->m'.top (i+n)=mm.top i)(ha:∀i ver,mm.dom i->m'.addr (i+n) ver=mm.addr i ver)(hG:∀b,B1.n<=b->¬L1 b->Good B L2 true b)(b5:x.frs=true):bI B L2 m' w' (x.sh n) v:=by
 induction h with
 |@w own full p v hr hf=>
  refine .w ?_ hf
  cases own with
  |true=>exact hr.imp λb hg=>hG b (hg.2.1 rfl) hg.1
  |false=>exact vB aE hr
 |ptr bg bf fe hC=>exact .ptr (hd _ bg) (by rw[ht _ bg];exact bf) ((ha _ _ bg).trans fe) hC
 |mp bg bf fe=>exact .mp (hd _ bg) (by rw[ht _ bg];exact bf) ((ha _ _ bg).trans fe)
 |msl bg bf hn h0 h1=>exact .msl (hd _ bg) (by rw[ht _ bg];exact bf) hn (λe=>h0 ((ha _ _ bg).symm.trans e)) (λb C e=>h1 b C ((ha _ _ bg).symm.trans e))
 |@agg cs vs hl _ ih=>
  rw[AV.sh,ia];refine .agg ak (λj p v hp hv=>?_);obtain⟨q,hq,rfl⟩:=gI hp;exact ih j q v hq hv (tc b5 j q hq)
 |@tup cs vs hl _ ih=>
  rw[AV.sh,ia];refine .tup ak (λj p v hp hv=>?_);obtain⟨q,hq,rfl⟩:=gI hp;exact ih j q v hq hv (tc b5 j q hq)
 |@fn f cs vs hl _ ih=>
  rw[AV.sh,ia];refine .fn ak (λj p v hp hv=>?_);obtain⟨q,hq,rfl⟩:=gI hp;exact ih j q v hq hv (tc b5 j q hq)
end
def Mm.glue(m mm:Mm)(n len:Nat):Mm:=
 ⟨λi ver=>if n<=i/\i<n+len then mm.addr (i-n) ver else m.addr i ver,λi=>if n<=i/\i<n+len then mm.top (i-n) else m.top i,λi=>m.dom i\/(n<=i/\i<n+len)⟩
section
omit [bJ]
theorem zl:∀(E:List (List AV))(h:bD)(n:Nat)(id:Nat)(c:List AV),(id,c)∈db h n E↔(id,c)∈h\/∃k,E[k]?=some c/\id=n+k
 |[],h,n,id,c=>by simp[db]
 |x::E,h,n,id,c=>by
  simp only[db,ew,dH,zl E h (n+1) id c];constructor
  .rintro (⟨rfl,rfl⟩|h1|⟨k,h1,rfl⟩)
   .exact .inr ⟨0,rfl,rfl⟩
   .exact .inl h1
   .exact .inr ⟨k+1,by simpa using h1,ab⟩
  grind
theorem Kc{α:Type}{R:α->α->Prop}{l:List α}(h:l.Pairwise R)(hs:∀a b,R a b->R b a){x y:α}(hx:x∈l)(hy:y∈l):x=y\/R x y:=by
 rw[sQ] at h;obtain⟨p,hp,ep⟩:=mV hx;obtain⟨q,hq,eq⟩:=mV hy
 grind
theorem Ke(hs:dc B H m w)(hB:B.n<=w.heap.size){E:List (List AV)}{v:AV}(hv:v.frs=true)(hEf:∀c∈E,AV.frs.mq c=true)(hE:∀k cs,(E.map (AV.sh.shL n))[k]?=some cs->(n+k,cs)∈H)(ao:∀k,k<E.length->¬m.dom (n+k)){G:Nat->Prop}{w':World}{u:Value}{mm:Mm}(hb:Bel w.heap.size w w')(bi:∀i,mm.dom i↔i<E.length)(ez:dc ⟨w.heap.size,G⟩ (db [] 0 E) mm w')(hr:bI ⟨w.heap.size,G⟩ (LB mm (db [] 0 E)) mm w' v u):jc B H m w n E.length (v.sh n) u w' (m.glue mm n E.length):=by
 have hold:∀i,m.dom i->¬(n<=i/\i<n+E.length):=λi hd hi=>by
  have:=ao (i-n) ab;rw[show n+(i-n)=i by omega] at this;exact this hd
 have hle:m.le (m.glue mm n E.length):=⟨λi hd=>.inl hd,λi hd=>by simp only[Mm.glue,bH (hold i hd)];exact bV _,λi ver hd _=>by simp only[Mm.glue,bH (hold i hd)]⟩
 have co:∀k c,E[k]?=some c->(k,c)∈db [] 0 E:=λk c hk=>(zl E [] 0 k c).2 (.inr ⟨k,hk,ab⟩)
 have bb:∀k c,(n+k,c)∈H->k<E.length->∃c0,E[k]?=some c0/\c=AV.sh.shL n c0:=λk c hin hk=>by
  have h1:=dY hk;refine⟨E[k],h1,?_⟩;have h2:=hE k (AV.sh.shL n E[k]) (by rw[jk,h1];rfl);exact hs.key hin h2
 have hLB:∀b,LB (m.glue mm n E.length) H b->LB m H b\/LB mm (db [] 0 E) b:=by
  rintro b ⟨id,c,C,hin,hd,ha⟩
  by_cases hi:n<=id/\id<n+E.length
  .obtain⟨c0,h1,h2⟩:=bb (id-n) c (by rw[show n+(id-n)=id by omega];exact hin) ab;simp only[Mm.glue,bX hi] at ha;rw[h2,ia,iV] at ha;exact .inr ⟨id-n,c0,C,co _ _ h1,(bi _).2 ab,ha⟩
  .have bg:m.dom id:=by
    rcases hd with hd|hd
    .exact hd
    .exact absurd hd hi
   simp only[Mm.glue,bH hi] at ha;exact .inl ⟨id,c,C,hin,bg,ha⟩
 have hmmB:∀b,LB mm (db [] 0 E) b->w.heap.size<=b:=by
  rintro b ⟨id,c,C,hin,hd,ha⟩
  exact (ez.block hin hd ha).2
 have hG:∀b,w.heap.size<=b->¬LB mm (db [] 0 E) b->Good B (LB (m.glue mm n E.length) H) true b:=λb ei fi=>⟨λhl=>by
  rcases hLB b hl with h1|h1
  .have:=fz hs h1;omega
  .exact fi h1,λ_=>ab,λh=>ab⟩
 have i5:∀x u,bI ⟨w.heap.size,G⟩ (LB mm (db [] 0 E)) mm w' x u->x.frs=true->bI B (LB (m.glue mm n E.length) H) (m.glue mm n E.length) w' (x.sh n) u:=λx u h hf=>
  h.up (λi hd=>.inr ⟨ab,by have:=(bi i).1 hd;omega⟩) (λi hd=>by have:=(bi i).1 hd;simp only[Mm.glue];rw[bX ⟨ab,ab⟩,Nat.add_sub_cancel])
   (λi ver hd=>by have:=(bi i).1 hd;simp only[Mm.glue];rw[bX ⟨ab,ab⟩,Nat.add_sub_cancel]) hG hf
 have bp:∀x u,bI B (LB m H) m w x u->bI B (LB (m.glue mm n E.length) H) (m.glue mm n E.length) w' x u:=λx u h=>
  h.mono hle (λb ei fi hl=>by
   rcases hLB b hl with h1|h1
   .exact fi h1
   .have:=hmmB b h1;omega) (λb ei _=>hb.block b ei)
 refine⟨hle,λi=>Iff.rfl,hb,⟨λid c hin hd=>?_,?_⟩,λb hl=>?_,i5 v u hr hv⟩
 .by_cases hi:n<=id/\id<n+E.length
  .obtain⟨c0,h1,h2⟩:=bb (id-n) c (by rw[show n+(id-n)=id by omega];exact hin) ab
   have hlen:c.length=c0.length:=by rw[h2,ia,iV]
   obtain⟨e1,e2⟩:=ez.entry (id-n) c0 (co _ _ h1) ((bi _).2 ab);refine⟨by simp only[Mm.glue,bX hi];rw[e1,hlen],?_⟩
   rcases e2 with ⟨e3,e4⟩|⟨b,C,cs,e,f1,f2,f3,f4,f5,f6⟩|⟨b,es,clk,f1,f2,f3,f4,f5⟩
   .exact .inl ⟨by simp only[Mm.glue,bX hi];rw[hlen];exact e3,by rw[h2,e4];rfl⟩
   rotate_left
   .exact .inr (.inr ⟨b,es,clk,by simp only[Mm.glue,bX hi];rw[hlen];exact f1,by rw[h2,Ed];exact f2,f3,by simp only at f4;omega,λl hl=>f5 l (J8 (by rw[<-h2];exact hl))⟩)
   .refine .inr (.inl ⟨b,C,cs,e,by simp only[Mm.glue,bX hi];rw[hlen];exact f1,f2,f3,ab,by simp only at f5;omega,λj p u hp hu=>?_⟩);rw[h2,ia] at hp;obtain⟨q,hq,rfl⟩:=gI hp;exact i5 q u (f6 j q u hq hu) (tc (hEf c0 (IT h1)) j q hq)
  .have bg:m.dom id:=by
    rcases hd with hd|hd
    .exact hd
    .exact absurd hd hi
   obtain⟨e1,e2⟩:=hs.entry id c hin bg;refine⟨by simp only[Mm.glue,bH hi];exact e1,?_⟩
   rcases e2 with ⟨e3,e4⟩|⟨b,C,cs,e,f1,f2,f3,f4,f5,f6⟩|⟨b,es,clk,f1,f2,f3,f4,f5⟩
   .exact .inl ⟨by simp only[Mm.glue,bH hi];exact e3,e4⟩
   rotate_left
   .have dr:b<w.heap.size:=fz hs ⟨id,c,0,hin,bg,f1⟩;exact .inr (.inr ⟨b,es,clk,by simp only[Mm.glue,bH hi];exact f1,f2,(hb.block b dr).trans f3,f4,f5⟩)
   .have dr:b<w.heap.size:=fz hs ⟨id,c,C,hin,bg,f1⟩;exact .inr (.inl ⟨b,C,cs,e,by simp only[Mm.glue,bH hi];exact f1,(hb.block b dr).trans f2,f3,f4,f5,λj p u hp hu=>bp p u (f6 j p u hp hu)⟩)
 .refine sL ?_ hs.inj;intro x y hx hy ⟨b7,gn⟩;refine⟨b7,λb C C' ee e9 dh d5=>?_⟩
  have key:∀z:Nat×List AV,z∈H->(m.glue mm n E.length).dom z.1->∀C,(m.glue mm n E.length).addr z.1 z.2.length=some (b,C)->(¬(n<=z.1/\z.1<n+E.length)/\m.dom z.1/\m.addr z.1 z.2.length=some (b,C)) \/
   ((n<=z.1/\z.1<n+E.length)/\∃c0,(z.1-n,c0)∈db [] 0 E/\mm.addr (z.1-n) c0.length=some (b,C)):=by
   intro z hz d8 C ha;by_cases hi:n<=z.1/\z.1<n+E.length
   .obtain⟨c0,h1,h2⟩:=bb (z.1-n) z.2 (by rw[show n+(z.1-n)=z.1 by omega];exact hz) ab;simp only[Mm.glue,bX hi] at ha;rw[h2,ia,iV] at ha;exact .inr ⟨hi,c0,co _ _ h1,ha⟩
   .simp only[Mm.glue,bH hi] at ha
    rcases d8 with d8|d8
    .exact .inl ⟨hi,d8,ha⟩
    .exact absurd d8 hi
  rcases key x hx ee C dh with ⟨_,dx,ax⟩|⟨ix,cx,mx,ax⟩
  .rcases key y hy e9 C' d5 with ⟨_,dy,ay⟩|⟨iy,cy,my,ay⟩
   .exact gn b C C' dx dy ax ay
   .have h1:b<w.heap.size:=fz hs ⟨x.1,x.2,C,hx,dx,ax⟩;have h2:=hmmB b ⟨y.1-n,cy,C',my,(bi _).2 ab,ay⟩;omega
  .rcases key y hy e9 C' d5 with ⟨_,dy,ay⟩|⟨iy,cy,my,ay⟩
   .have h1:b<w.heap.size:=fz hs ⟨y.1,y.2,C',hy,dy,ay⟩;have h2:=hmmB b ⟨x.1-n,cx,C,mx,(bi _).2 ab,ax⟩;omega
   .rcases Kc ez.inj (λa c gv=>⟨λe=>gv.1 e.symm,λb C C' d1 d2 a1 a2=>gv.2 b C' C d2 d1 a2 a1⟩) mx my with h1|h1
    .injection h1 with h1 _
     exact b7 ab
    .exact h1.2 b C C' ((bi _).2 ab) ((bi _).2 ab) ax ay
 grind
end
theorem Kf(hO:bJ.ok w)(hs:dc B H m w)(hB:B.n<=w.heap.size)(a5:∀id cs,cV h id=some cs->(id,cs)∈H)(o:Oper)(f:Operand)(args:Array Operand)(tys:Array TypeId)(ho:o.op=.call { callee:=.value f,args:=args,argTypes:=tys })(hx:∀x,x∈o.op.operands->bI B (LB m H) m w (ev env x) (a.eval x)){g:FuncId}{b8:List AV}(hf:gd (ev env f)=some (g,b8)){pvs:List PV}(hp:lJ h (args.toList.map (ev env)++b8)=some pvs){E:List (List AV)}{v:AV}(hE:∀k cs,(E.map (AV.sh.shL n))[k]?=some cs->(n+k,cs)∈H)(ao:∀k,k<E.length->¬m.dom (n+k))(hc:og P g pvs E v)(K:Act->World->Prop)(Q:Exit->Act->World->Prop)(hK:∀v' w' m',jc B H m w n E.length (v.sh n) v' w' m'->K (a.put o.dst v') w'):o.wpt P a w K Q:=by
 obtain⟨⟨fn,fp,em,ej⟩,hv,hEf,bn⟩:=hc;have bv:bI B (LB m H) m w (ev env f) (a.eval f):=hx f aD
 have jw:∀x∈args.toList,bI B (LB m H) m w (ev env x) (a.eval x):=λx hm=>hx x (by rw[ho];simp[Op.operands,Call.operands,qV.1 hm])
 have ef:∃cv:Array Value,a.eval f=.func (.func g) #[] cv/\b8.length=cv.size/\∀(j:Nat)(p:AV)(v:Value),b8[j]?=some p->cv[j]?=some v->bI B (LB m H) m w p v:=by
  unfold gd at hf;split at hf
  .rename_i g' cf e
   injection hf with hf;injection hf with h1 h2;subst h1;subst h2
   rw[e] at bv;generalize hv:a.eval f=vf at bv
   cases bv with|fn h1 h2=>grind
  .rename_i own f' g' cf e
   injection hf with hf;injection hf with h1 h2;subst h1;subst h2
   rw[e] at bv;generalize hv:a.eval f=vf at bv
   cases bv with
   |w h1 _=>
    cases h1 with
    |fn h1 h2=>
     refine⟨_,rfl,ak,λj p v hp hv=>?_⟩;obtain⟨q,hq,rfl⟩:=gI hp;exact .w (h2 j q v hq hv) nofun
  .cases hf
 obtain⟨cv,fo,d7,ie⟩:=ef
 have fh:∀(j:Nat)(x:AV)(v:Value),(args.toList.map (ev env)++b8)[j]?=some x->(args.map a.eval++cv)[j]?=some v->bI B (LB m H) m w x v:=by
  grind
 obtain⟨g3,f9⟩:=zj hp
 have hlen:pvs.length=(args.map a.eval++cv).size:=by rw[<-g3];simp[d7]
 have a4:(execOp a.eval o).run P w=.ok (.enter g (args.map a.eval++cv)) w:=by
  have g4:¬fn.name = "runtime.NumGoroutine" := by simp_all
  have bu:¬fn.body=none:=ak
  simp[execOp,ho,resolve,fo,Deferred.ofValue,invoke,callFunc,fp,g4,bu]
 unfold Oper.wpt;rw[a4,Oper.BL]
 refine (bn (λ_=>True) w _ hO hlen (λj p v hp hv=>by
  obtain⟨x,hx,d4⟩:=f9 j p hp
  exact nN hs a5 false (λ_ _=>trivial) (λ_ _ _=>trivial) 6 x p v d4 nofun (fh j x v hx hv))).mono ?_
 rintro e w' ⟨u,mm,rfl,hb,bi,ez,hr⟩
 exact hK u w' _ (Ke hs hB hv hEf hE ao hb bi ez hr)
def QF(P:Program)(env:Env)(h:bD)(n:Nat)(op:Op)(v:AV)(E:List (List AV)):Prop:=
 (∃c,aOp P h n (ev env) op=some (c,v,E)/\c) \/
 ∃f args tys g b8 pvs res fr,op=.call { callee:=.value f,args:=args,argTypes:=tys }/\gd (ev env f)=some (g,b8)/\lJ h (args.toList.map (ev env)++b8)=some pvs /\
  ((bT P g pvs res fr/\(fr=true\/nj (args.toList.map (ev env)++b8)=true)/\v=.w (pn fr res) false res/\E=[]) \/
    ∃E0 v0,og P g pvs E0 v0/\v=v0.sh n/\E=E0.map (AV.sh.shL n))
theorem du.qf{op:Op}{K:AV->List (List AV)->Prop}(hq:du P env h n op K):∃v E,QF P env h n op v E/\K v E:=by
 unfold du at hq;split at hq
 .rename_i f args tys;split at hq
  .rename_i g b8 hf;unfold uu at hq;split at hq
   .rename_i pvs hp
    rcases hq with ⟨res,fr,hc,b5,hk⟩|⟨E,v,hc,hk⟩
    .exact⟨_,_,.inr ⟨f,args,tys,g,b8,pvs,res,fr,rfl,hf,hp,.inl ⟨hc,b5,rfl,rfl⟩⟩,hk⟩
    .exact⟨_,_,.inr ⟨f,args,tys,g,b8,pvs,.undef,true,rfl,hf,hp,.inr ⟨E,v,hc,rfl,rfl⟩⟩,hk⟩
   .exact hq.elim
  trivial
 .split at hq
  .rename_i c v E he;exact⟨v,E,.inl ⟨c,he,hq.1⟩,hq.2⟩
  trivial
theorem QF.sound(o:Oper){v:AV}{E:List (List AV)}(hq:QF P env h n o.op v E)(hO:bJ.ok w)(hs:dc B H m w)(hB:B.n<=w.heap.size)(a5:∀id cs,cV h id=some cs->(id,cs)∈H)(hE:∀k cs,E[k]?=some cs->(n+k,cs)∈H)(ao:∀k,k<E.length->¬m.dom (n+k))(hx:∀x,x∈o.op.operands->bI B (LB m H) m w (ev env x) (a.eval x))(K:Act->World->Prop)(Q:Exit->Act->World->Prop)(hK:∀v' w' m',jc B H m w n E.length v v' w' m'->K (a.put o.dst v') w'):o.wpt P a w K Q:=by
 rcases hq with ⟨c,h0,hc⟩|⟨f,args,tys,g,b8,pvs,res,fr,ho,hf,hp,⟨hc,b5,rfl,rfl⟩|⟨E0,v0,hc,rfl,rfl⟩⟩
 .obtain⟨v',w',m',a4,h1,h2,h3,h4,h5,h6⟩:=J7 o h0 hc hs hB a5 hE ao hx;unfold Oper.wpt;rw[a4,Oper.o8];exact hK v' w' m' ⟨h1,h2,h3,h4,h5,h6⟩
 .exact Kb hO hs hB a5 o f args tys ho hx hf hp hc b5 K Q hK
 .rw[iV] at ao hK;exact Kf hO hs hB a5 o f args tys ho hx hf hp hE ao hc K Q hK
end
end Go.Fi
namespace Go.Fi
open Go Go.RowKit
def fN(w:World)(b:Nat)(cs:Array Value)(e:TypeId):World:={ w with heap:=w.heap.setIfInBounds b (.cells cs e (0,0))}
theorem Kg(w:World)(b:Nat)(cs:Array Value)(e:TypeId):(fN w b cs e).heap.size=w.heap.size:=by simp[fN]
theorem vD(w:World)(b:Nat)(cs:Array Value)(e:TypeId){k:Nat}(h:k≠b):(fN w b cs e).heap[k]?=w.heap[k]?:=by
 simp only[fN];rw[jj]
 grind
theorem vE(w:World)(b:Nat)(cs:Array Value)(e:TypeId)(h:b<w.heap.size):(fN w b cs e).heap[b]?=some (.cells cs e (0,0)):=by
 simp only[fN];rw[jj];simp[h]
theorem Kh(w:World)(b:Nat)(cs cs':Array Value)(e:TypeId):fN (fN w b cs e) b cs' e=fN w b cs' e:=by
 simp[fN]
theorem te(w:World)(b:Nat)(cs:Array Value)(e:TypeId)(h:w.heap[b]?=some (.cells cs e (0,0))):fN w b cs e=w:=by
 have:w.heap.setIfInBounds b (.cells cs e (0,0))=w.heap:=by
  grind
 unfold fN;rw[this]
def fR(cs:Array Value)(off:Nat):List Value->Array Value
 |[]=>cs
 |v::r=>fR (cs.setIfInBounds off v) (off+1) r
theorem vG:∀(vs:List Value)(off:Nat)(cs:Array Value),(fR cs off vs).size=cs.size
 |[],_,_=>rfl
 |v::r,off,cs=>by rw[fR,vG r];simp
theorem Ki{w:World}{b:Nat}{cs:Array Value}{e:TypeId}(h:w.heap[b]?=some (.cells cs e (0,0)))(off:Nat)(v:Value):w.setCell ⟨b,off,none⟩ v=fN w b (cs.setIfInBounds off v) e:=by
 unfold World.setCell fN;congr 1
 have hb:b<w.heap.size:=by
  rcases fq b w.heap.size with h'|h'
  .exact h'
  .rw[Db h'] at h;cases h
 have hg:w.heap[b]=.cells cs e (0,0):=by rw[dM hb] at h;injection h
 grind
section
variable{P:Program}
theorem vH(b off:Nat)(e:TypeId):∀(vs:List Value)(i:Nat)(w:World)(cs:Array Value),w.heap[b]?=some (.cells cs e (0,0))->off+i+vs.length<=cs.size->(∀v∈vs,v.oneCell'=true)->(storeCells ⟨b,off,none⟩ vs i).run P w=.ok () (fN w b (fR cs (off+i) vs) e)
 |[],i,w,cs,h,_,_=>by
  simp only[storeCells,fR];rw[te w b cs e h];rfl
 |v::r,i,w,cs,h,hle,h1=>by
  have b6:off+i<cs.size:=ak
  have hb:b<w.heap.size:=by
   grind
  have d6:(store ((⟨b,off,none⟩:Addr).add i) v).run P w=.ok () (fN w b (cs.setIfInBounds (off+i) v) e):=by
   rw[Addr.jQ,run_store P w _ v _ (h1 v ae)]
   have hc:w.cell? ⟨b,off+i,none⟩=some cs[off+i]:=by rw[nL h];simp[b6]
   have hf:w.frozen? ⟨b,off+i,none⟩=false:=by simp[World.frozen?,h]
   simp[hc,hf,Ki h]
  have ih:=vH b off e r (i+1) (fN w b (cs.setIfInBounds (off+i) v) e) (cs.setIfInBounds (off+i) v) (vE w b _ e hb) ak (λx hx=>h1 x (by simp[hx]));simp only[storeCells,Sem.run_bind,d6,Result.andThen_ok,ih,Kh,fR];rw[show off+(i+1)=off+i+1 by omega]
end
section
variable{P:Program}{B:Base}{m:Mm}{w:World}{H h:bD}{n:Nat}{env:Env}{a:Act}{L:Nat->Prop}
theorem Ef:∀{l:List AV},eh l=true->∀(j:Nat)(x:AV),l[j]?=some x->x.one=true
 |[],_,j,x,h=>by simp at h
 |y::l,hp,j,x,h=>by
  simp only[eh,eT] at hp
  cases j with
  |zero=>simp_all
  |succ j=>exact Ef hp.2 j x av
theorem Kj{x:AV}{v:Value}(h1:x.one=true)(h:bI B L m w x v):v.oneCell'=true:=by
 cases h with
 |w hr _=>cases hr<;>first|rfl|(cases h1;done)
 |agg _ _=>cases h1
 |tup _ _=>cases h1
 |_=>rfl
def uw(B:Base)(L:Nat->Prop)(m:Mm)(w:World)(cs:List AV)(vs:Array Value):Prop:=
 cs.length<=vs.size/\∀(j:Nat)(p:AV)(v:Value),cs[j]?=some p->vs[j]?=some v->bI B L m w p v
theorem uw.set{cs:List AV}{vs:Array Value}(h:uw B L m w cs vs)(i:Nat){p:AV}{v:Value}(hp:bI B L m w p v):uw B L m w (cs.set i p) (vs.setIfInBounds i v):=by
 refine⟨by simpa using h.1,λj q u hq hu=>?_⟩;rw[IX] at hq;rw[jj] at hu;by_cases g0:i=j
 .simp_all
 .simp only[g0,cP] at hq hu;exact h.2 j q u hq hu
theorem zm:∀(ps:List AV)(us:List Value)(off:Nat)(cs:List AV)(vs:Array Value),uw B L m w cs vs->ps.length=us.length->(∀(j:Nat)(p:AV)(v:Value),ps[j]?=some p->us[j]?=some v->bI B L m w p v)->uw B L m w (setAt cs off ps) (fR vs off us)
 |[],us,off,cs,vs,h,hl,_=>by
  cases us with
  |nil=>exact h
  |cons u us=>cases hl
 |p::ps,us,off,cs,vs,h,hl,hr=>by
  cases us with
  |nil=>cases hl
  |cons u us=>
   simp only[setAt,fR];exact zm ps us (off+1) _ _ (h.set off (hr 0 p u rfl rfl)) ak (λj q v hq hv=>hr (j+1) q v ak ak)
theorem tg(h:bD)(id:Nat)(x:List AV)(hn:h.Pairwise λp q=>p.1≠q.1):dz h id x=h.map λp=>if p.1=id then (p.1,x) else p:=by
 induction hn with
 |nil=>rfl
 |@cons y r hy _ ih=>
  obtain⟨k,v⟩:=y;simp only[dz,oK];split
  .rename_i hk;subst hk;congr 1;rw[I0 (g:=λp=>p)]
   .simp
   grind
  .rw[ih]
end
def Mm.up(m:Mm)(id len:Nat)(bc:Option (Nat×Nat)):Mm:=
 { addr:=λi v=>if i=id/\v=len then bc else m.addr i v,top:=λi=>if i=id then len else m.top i,dom:=m.dom }
def js(h:bD)(id:Nat)(x:List AV):bD:=h.map λp=>if p.1=id then (p.1,x) else p
section
variable{P:Program}{B:Base}{m:Mm}{w w':World}{H h:bD}{n:Nat}{env:Env}{a:Act}{L:Nat->Prop}
theorem Eg{id i:Nat}{x c:List AV}(hin:(i,c)∈js h id x):(i≠id/\(i,c)∈h)\/(i=id/\c=x):=by
 unfold js at hin
 grind
theorem Qf{id len:Nat}{bc:Option (Nat×Nat)}(hle:m.top id<=len)(cu:len<=m.top id->bc=m.addr id len):m.le (m.up id len bc):=by
 refine⟨λi hi=>hi,λi hi=>?_,λi v hi hv=>?_⟩
 .simp only[Mm.up];grind
 .simp only[Mm.up];grind
theorem Eh(hs:dc B h m w){id:Nat}{cells cells':List AV}(hin:(id,cells)∈h)(hd:m.dom id)(hlen:cells.length<=cells'.length){b' C':Nat}(cu:cells'.length=cells.length->m.addr id cells.length=some (b',C'))(bu:w.heap.size<=b'\/∃C,m.addr id cells.length=some (b',C))(cq:∀k,k<w.heap.size->(∀C,m.addr id cells.length≠some (k,C))->w'.heap[k]?=w.heap[k]?)(bb:(∃cs e,w'.heap[b']?=some (.cells cs e (0,0))/\cs.size=C'/\cells'.length<=C'/\B.n<=b'/\∀(j:Nat)(p:AV)(v:Value),cells'[j]?=some p->cs[j]?=some v->bI B (LB m h) m w p v)\/(C'=0/\∃es clk l,w'.heap[b']?=some (.map es clk)/\cells'=[gK l]/\B.n<=b'/\nZ es l)):dc B (js h id cells') (m.up id cells'.length (some (b',C'))) w'/\m.le (m.up id cells'.length (some (b',C')))/\(∀b,b<w.heap.size->¬LB m h b->¬LB (m.up id cells'.length (some (b',C'))) (js h id cells') b)/\(∀b,b<w.heap.size->¬LB m h b->w'.heap[b]?=w.heap[b]?):=by
 have gm:m.top id=cells.length:=(hs.entry id cells hin hd).1
 have hle:m.le (m.up id cells'.length (some (b',C'))):=Qf (by rw[gm];exact hlen) (λhh=>by
  have:cells'.length=cells.length:=ab
  rw[this];simp_all)
 have hL0:∀b,LB (m.up id cells'.length (some (b',C'))) (js h id cells') b->(∃i c C,(i,c)∈h/\i≠id/\m.dom i/\m.addr i c.length=some (b,C))\/b=b':=by
  rintro b ⟨i,c,C,h1,h2,h3⟩
  rcases Eg h1 with ⟨hi,h4⟩|⟨rfl,rfl⟩
  .simp only[Mm.up,hi,false_and,cP] at h3;exact .inl ⟨i,c,C,h4,hi,h2,h3⟩
  .simp only[Mm.up,and_self,cD] at h3;simp_all
 have hL:∀b,b<w.heap.size->¬LB m h b->¬LB (m.up id cells'.length (some (b',C'))) (js h id cells') b:=by
  intro b hb hn hl
  rcases hL0 b hl with ⟨i,c,C,h1,_,h2,h3⟩|rfl
  .exact hn ⟨i,c,C,h1,h2,h3⟩
  .rcases bu with h|⟨C,h⟩
   .omega
   .exact hn ⟨id,cells,C,hin,hd,h⟩
 have hW:∀b,b<w.heap.size->¬LB m h b->w'.heap[b]?=w.heap[b]?:=λb hb hn=>cq b hb (λC hC=>hn ⟨id,cells,C,hin,hd,hC⟩)
 have bp:∀p v,bI B (LB m h) m w p v->bI B (LB (m.up id cells'.length (some (b',C'))) (js h id cells')) (m.up id cells'.length (some (b',C'))) w' p v:=λp v hp=>hp.mono hle hL hW
 refine⟨⟨λi c ir e8=>?_,?_⟩,hle,hL,hW⟩
 .rcases Eg ir with ⟨hi,h4⟩|⟨rfl,rfl⟩
  .obtain⟨ht,fm⟩:=hs.entry i c h4 e8;refine⟨by simp[Mm.up,hi,ht],?_⟩
   have ge:∀(x y:Nat×List AV),x∈h->y∈h->x.1≠y.1->∀b C C',m.dom x.1->m.dom y.1->m.addr x.1 x.2.length=some (b,C)->m.addr y.1 y.2.length≠some (b,C'):=by
    intro x y hx hy b7 b C C' ee e9 dh d5;have:=hs.inj;rw[sQ] at this;obtain⟨p,hp,rfl⟩:=mV hx;obtain⟨q,hq,rfl⟩:=mV hy
    grind
   rcases fm with ⟨h1,h2⟩|⟨b,C,cs,e,h1,h2,h3,h5,h6,h7⟩|⟨b,es,clk,h1,h2,h3,h5,h6⟩
   .exact .inl ⟨by simp[Mm.up,hi,h1],h2⟩
   .exact .inr (.inl ⟨b,C,cs,e,by simp[Mm.up,hi,h1],(cq b (fz hs ⟨i,c,C,h4,e8,h1⟩) (λC2 h8=>ge (i,c) (id,cells) h4 hin hi b C C2 e8 hd h1 h8)).trans h2,h3,h5,h6,λj p v hp hv=>bp p v (h7 j p v hp hv)⟩)
   .exact .inr (.inr ⟨b,es,clk,by simp[Mm.up,hi,h1],h2,(cq b (fz hs ⟨i,c,0,h4,e8,h1⟩) (λC2 h8=>ge (i,c) (id,cells) h4 hin hi b 0 C2 e8 hd h1 h8)).trans h3,h5,h6⟩)
  .refine⟨by simp[Mm.up],.inr ?_⟩
   rcases bb with ⟨cs,e,h1,h2,h3,h5,h6⟩|⟨rfl,es,clk,l,h1,rfl,h3,h5⟩
   .exact .inl ⟨b',C',cs,e,by simp[Mm.up],h1,h2,h3,h5,λj p v hp hv=>bp p v (h6 j p v hp hv)⟩
   .exact .inr ⟨b',es,clk,by simp[Mm.up],rfl,h1,h3,DC h5⟩
 .unfold js;rw[List.pairwise_map];refine sL ?_ hs.inj;intro x y hx hy ⟨b7,gn⟩
  have ea:∀p:Nat×List AV,(if p.1=id then (p.1,cells') else p).1=p.1:=ak
  refine⟨by rw[ea,ea];exact b7,λb C D ee e9 dh d5=>?_⟩;rw[ea] at ee e9
  have clash:∀z:Nat×List AV,z∈h->z.1≠id->m.dom z.1->∀C,m.addr z.1 z.2.length=some (b',C)->(z.1≠id->∀b C C',m.dom z.1->m.dom id->m.addr z.1 z.2.length=some (b,C)->m.addr id cells.length≠some (b,C'))->False:=by
   intro z hz k6 d8 C hC ge
   rcases bu with h|⟨C2,h⟩
   .have:=fz hs ⟨z.1,z.2,C,hz,d8,hC⟩;omega
   simp_all
  by_cases h1:x.1=id
  .have h2:y.1≠id:=λe=>b7 (h1.trans e.symm)
   have k4:x.2=cells:=hs.key (id:=id) (by rw[<-h1];exact hx) hin;simp only[h1,cD,Mm.up,and_self,dg,dH] at dh;obtain⟨rfl,rfl⟩:=dh;simp only[h2,cP,Mm.up,false_and] at d5;refine clash y hy h2 e9 D d5 (λ_ b C C' d8 e8 hC i9=>?_);simp_all
  .simp only[h1,cP,Mm.up,false_and] at dh;by_cases h2:y.1=id
   .have k5:y.2=cells:=hs.key (id:=id) (by rw[<-h2];exact hy) hin;simp only[h2,cD,Mm.up,and_self,dg,dH] at d5;obtain⟨rfl,rfl⟩:=d5;refine clash x hx h1 ee C dh (λ_ b C C' d8 e8 hC i9=>?_);simp_all
   .simp only[h2,cP,Mm.up,false_and] at d5;exact gn b C D ee e9 dh d5
theorem vI(hs:dc B h m w){id:Nat}{cells cells':List AV}(hin:(id,cells)∈h)(hd:m.dom id)(hlen:cells.length<=cells'.length){b' C':Nat}(cu:cells'.length=cells.length->m.addr id cells.length=some (b',C'))(bu:w.heap.size<=b'\/∃C,m.addr id cells.length=some (b',C))(cq:∀k,k<w.heap.size->(∀C,m.addr id cells.length≠some (k,C))->w'.heap[k]?=w.heap[k]?)(bb:∃cs e,w'.heap[b']?=some (.cells cs e (0,0))/\cs.size=C'/\cells'.length<=C'/\B.n<=b'/\∀(j:Nat)(p:AV)(v:Value),cells'[j]?=some p->cs[j]?=some v->bI B (LB m h) m w p v):dc B (js h id cells') (m.up id cells'.length (some (b',C'))) w'/\m.le (m.up id cells'.length (some (b',C')))/\(∀b,b<w.heap.size->¬LB m h b->¬LB (m.up id cells'.length (some (b',C'))) (js h id cells') b)/\(∀b,b<w.heap.size->¬LB m h b->w'.heap[b]?=w.heap[b]?):=
 Eh hs hin hd hlen cu bu cq (.inl bb)
theorem ti(hs:dc B h m w):h.Pairwise λp q=>p.1≠q.1:=hs.inj.imp λh=>h.1
end
section
variable{P:Program}{B:Base}{m:Mm}{w w':World}{H h:bD}{n:Nat}{env:Env}{a:Act}{L:Nat->Prop}
end
def rM(P:Program)(env:Env)(h:bD)(n:Nat)(args:List Operand)(tys:List TypeId)(K:AV->bD->Nat->Prop):Prop:=
 match args,tys with
 |[s,x],[t,tx]=>
  match slE P t,slE P tx with
  |some (e,sz),some _=>
   match byE P e,fE P e,iJ h sz (ev env x) with
   |some by_,some z,some (k2,news,c)=>
    match ev env s with
    |.msl id ver z' off k=>
     match cV h id with
     |some cells=>(c/\off=0/\cells.length=ver/\z'=sz/\z.length=sz/\0<sz/\k*sz<=ver/\k+k2<=1000000000/\by_<=100000/\eh news=true) /\
       K (.msl id (iK cells (k*sz) news).length sz 0 (k+k2)) (dz h id (iK cells (k*sz) news)) n
     |none=>False
    |.w own true (.sl k cells)=>
     bif own&&decide (k=0)&&cells.isEmpty then (c/\0<k2/\z.length=sz/\0<sz/\k2<=1000000000/\by_<=100000)/\K (.msl n news.length sz 0 k2) ((n,news)::h) (n+1)
     else match pvs news with
      |some q=>(c/\cells.length=k*sz/\z.length=sz/\0<sz/\k+k2<=1000000000/\by_<=100000)/\K (.w (ij q&&(own || cells.isEmpty)) false (.sl (k+k2) (cells++q))) h n
      |none=>False
    |_=>False
   |_,_,_=>False
  |_,_=>False
 |_,_=>False
def rO(P:Program)(env:Env)(h:bD)(n:Nat)(t:TypeId)(ad x:Operand)(K:AV->bD->Nat->Prop):Prop:=
 match tyL P t,ev env ad with
 |some (sz,_),.ptr id ver off=>
  match cV h id with
  |some cells=>(cells.length=ver/\(ev env x).ok=true/\(ev env x).cells.length=sz/\off+sz<=cells.length/\eh (ev env x).cells=true)/\K (.tup []) (dz h id (setAt cells off (ev env x).cells)) n
  |none=>False
 |_,_=>False
theorem Ei(c new:List AV)(p:Nat)(hp:p<=c.length)(j:Nat):(iK c p new)[j]?=if p<=j/\j<p+new.length then new[j-p]? else c[j]?:=by
 unfold iK;split
 .rename_i e;rw[List.getElem?_append];split
  .rename_i hj;rw[bH ab]
  .rename_i hj;rw[e];split
   .rfl
   .rename_i h2;rw[List.getElem?_eq_none ab,List.getElem?_eq_none ab]
 grind
theorem Kk(c new:List AV)(p:Nat)(hp:p<=c.length):(iK c p new).length=max c.length (p+new.length):=by
 unfold iK
 grind
theorem Ej:∀(us:List Value)(off:Nat)(cs:Array Value),off+us.length<=cs.size->∀j,(fR cs off us)[j]?=if off<=j/\j<off+us.length then us[j-off]? else cs[j]?
 |[],off,cs,_,j=>by
  simp only[fR,lg];rw[bH ab]
 |v::r,off,cs,h,j=>by
  simp only[fR];rw[Ej r (off+1) _ (by simp at h ⊢;omega) j]
  grind
section
variable{P:Program}{B:Base}{m:Mm}{w w':World}{H h:bD}{n:Nat}{env:Env}{a:Act}{L:Nat->Prop}
def EPost(B:Base)(h:bD)(m:Mm)(w:World)(n:Nat)(h':bD)(n':Nat)(v:AV)(v':Value)(w':World)(m':Mm):Prop:=
 m.le m'/\(∀i,m'.dom i↔m.dom i\/(n<=i/\i<n'))/\Bel B.n w w'/\dc B h' m' w'/\(∀b,b<w.heap.size->¬LB m h b->¬LB m' h' b)/\(∀b,b<w.heap.size->¬LB m h b->w'.heap[b]?=w.heap[b]?)/\bI B (LB m' h') m' w' v v'
theorem m7{p:Nat->Prop}{n:Nat}:∀i,p i↔p i\/(n<=i/\i<n):=λi=>⟨.inl,λh=>h.elim id λh=>ab⟩
theorem Ek(hs:dc B h m w){id:Nat}{cells:List AV}(hin:(id,cells)∈h):js h id cells=h:=by
 unfold js
 conv=>rhs;rw[<-List.map_id h]
 refine I0 λp hp=>?_
 split
 .rename_i e;have:p.2=cells:=hs.key (id:=id) (by rw[<-e];exact hp) hin;rw[<-this];rfl
 .rfl
theorem zn{b:Nat}(hb:B.n<=b)(w:World)(cs:Array Value)(e:TypeId):Bel B.n w (fN w b cs e):=
 ⟨rfl,rfl,by rw[Kg];simp,λk hk=>vD w b cs e ab⟩
theorem El(hB:B.n<=w.heap.size)(o:Obj):Bel B.n w (w.drew.alloc o):=
 ⟨rfl,rfl,by rw[y9];simp,λk hk=>jH w.drew o (show k<w.heap.size by omega)⟩
theorem zo{ps:List AV}{us:List Value}(gh:eh ps=true)(hl:us.length=ps.length)(hr:∀(j:Nat)(p:AV)(u:Value),ps[j]?=some p->us[j]?=some u->bI B L m w p u):∀v∈us,v.oneCell'=true:=by
 intro v hv;obtain⟨j,hj,rfl⟩:=mV hv
 have dj:j<ps.length:=ab
 exact Kj (Ef gh j ps[j] (dY dj)) (hr j ps[j] us[j] (dY dj) (dY hj))
theorem Km(hs:dc B h m w)(hB:B.n<=w.heap.size){t tx e sz:Nat}{ex:TypeId×Nat}{by_:Nat}{z:List AV}(ht:slE P t=some (e,sz))(bj:slE P tx=some ex)(bl:byE P e=some by_)(hz:fE P e=some z){x s:Value}{xa:AV}{k2:Nat}{news:List AV}{c:Prop}(aq:iJ h sz xa=some (k2,news,c))(hc:c)(hx:bI B (LB m h) m w xa x){id ver k:Nat}{cells:List AV}(dm:bI B (LB m h) m w (.msl id ver sz 0 k) s)(hg:cV h id=some cells)(c1:cells.length=ver)(c3:z.length=sz)(c4:0<sz)(c5:k*sz<=ver)(c6:k+k2<=1000000000)(c7:by_<=100000)(c8:eh news=true)(ty:TypeId):∃v' w' m',(Builtin.append_ #[t,tx] ty #[s,x]).run P w=.ok v' w'/\EPost B h m w n (dz h id (iK cells (k*sz) news)) n (.msl id (iK cells (k*sz) news).length sz 0 (k+k2)) v' w' m':=by
 have iq:dz h id (iK cells (k*sz) news)=js h id (iK cells (k*sz) news):=tg h id _ (ti hs);rw[iq];obtain⟨bf,i,hi,br⟩:=j0 ht;obtain⟨bk,_⟩:=j0 (e:=ex.1) (z:=ex.2) bj;obtain⟨iz,vz,de,hzero,rfl⟩:=pX hz;rw[hi] at de;cases de
 have cg:i.bytes<=100000:=by
  have:i.bytes=by_:=by simpa[byE,hi] using bl
  omega
 obtain⟨ax,cx,us,rfl,c9,cp,ag,cz⟩:=vC aq hc hs (λid cs e=>gj e) hx;obtain⟨a0,cap,rfl,hk,hd,d3,h3,h4⟩:=dm.oe;have hin:=gj hg;subst c1;have i1:=Kk cells news (k*sz) c5
 have i6:vz.cells.size=sz:=by rw[<-c3];simp
 by_cases bh:k+k2<=cap
 .cases ha:m.addr id cells.length with
  |none=>
   obtain⟨rfl,h5⟩:=h3 ha
   have g2:k2=0:=ab
   have dk:k=0:=ab
   subst g2;subst dk;have g5:news=[]:=iW (by simpa using cp);have eb:us=[]:=iW (by simpa using c9);subst g5;subst eb;have fj:cells=[]:=iW h5
   have g1:iK cells (0*sz) []=cells:=by subst fj;simp[iK]
   rw[g1,Ek hs hin];refine⟨_,w,m,zh bf bk hi br ty a0 0 0 0 _ ax cx rfl [] (ag w rfl) ab w (λad _=>rfl) (λ_=>rfl),Mm.le.refl m,m7,Bel.refl _ _,hs,λb _ h=>h,λb _ _=>rfl,?_⟩;trivial
  |some bc=>
   obtain⟨b,C⟩:=bc;obtain⟨h5,h6,h7⟩:=h4 b C ha;simp only[eo] at h6 h7;obtain⟨cs,e',hh,hC,hle,hbB,a6⟩:=hs.read hin hd ha ab;have ck:(k+k2)*sz<=cap*sz:=sJ _ bh;have aw:(k+k2)*sz=k*sz+k2*sz:=ga _ _ _
   have d6:∀ad,a0=some ad->(storeCells (ad.add (k*sz)) us).run P w=.ok () (fN w b (fR cs (k*sz) us) e'):=by
    intro ad e
    rcases k9 cap with h0|h0
    .have f8:us=[]:=iW (by rw[c9];have:k2=0:=by omega
                           simp[this])
     subst f8;simp only[fR,storeCells];rw[te w b cs e' hh];rfl
    .rw[h5 h0] at e;cases e;rw[Addr.jQ];have:=vH (P:=P) b (0+k*sz) e' us 0 w cs hh ab (zo c8 ab cz);simp_all
   have g9:a0=none->fN w b (fR cs (k*sz) us) e'=w:=by
    intro e
    rcases k9 cap with h0|h0
    .have f8:us=[]:=iW (by rw[c9];have:k2=0:=by omega
                           simp[this])
     subst f8;exact te w b cs e' hh
    simp_all
   have a4:=zh bf bk hi br ty a0 k cap k2 _ ax cx rfl us (ag w rfl) bh _ d6 g9;obtain⟨u1,u2,u3,u4⟩:=vI (w':=fN w b (fR cs (k*sz) us) e') hs hin hd (cells':=iK cells (k*sz) news) ab (b':=b) (C':=C) (λ_=>ha) (.inr ⟨C,ha⟩)
    (λq hq b7=>vD w b _ _ (λe=>b7 C (e▸ha)))
    ⟨fR cs (k*sz) us,e',vE w b _ _ (fz hs ⟨id,cells,C,hin,hd,ha⟩),by rw[vG,hC],ab,hbB,λj p v hp hv=>by
      rw[Ei cells news (k*sz) c5] at hp;rw[Ej us (k*sz) cs ab] at hv;rw[c9,<-cp] at hv
      grind⟩
   refine⟨_,_,_,a4,u2,m7,zn hbB w _ _,u1,u3,u4,?_⟩;refine .msl hd (by simp[Mm.up]) bh (λe=>?_) (λb' C' e=>?_)
   .simp[Mm.up] at e
   .simp only[Mm.up,and_self,cD,dg,dH] at e
    grind
 .have hold:∃os:List Value,os.length=k*sz/\(Builtin.firstCells sz k (.slice a0 k cap)).run P w.drew=.ok os.toArray w.drew/\∀(j:Nat)(p:AV)(v:Value),j<k*sz->cells[j]?=some p->os[j]?=some v->bI B (LB m h) m w p v:=by
   cases ha:m.addr id cells.length with
   |none=>
    obtain⟨rfl,h5⟩:=h3 ha
    have dk:k=0:=ab
    subst dk;exact⟨[],ae,nM sz 0 a0 0 [] ae (λ_=>ae) (λ_ _ j u hj=>by simp at hj),λj p v hj=>by simp at hj⟩
   |some bc=>
    obtain⟨b,C⟩:=bc;obtain⟨h5,h6,h7⟩:=h4 b C ha;obtain⟨cs,e',hh,hC,hle,hbB,a6⟩:=hs.read hin hd ha ab;refine⟨(List.range (k*sz)).map (λj=>cs.getD j undef),ae,nM sz k a0 cap _ ae (λe=>?_) (λad e j u hj=>?_),λj p v hj hp hv=>?_⟩
    .simp_all
    .obtain⟨y,hy,rfl⟩:=gI hj;obtain⟨b6,rfl⟩:=fu.1 hy;simp only[qT] at b6;simp only[sK]
     have fl:0<cap:=by
      grind
     rw[h5 fl] at e;cases e
     have dj:j<cs.size:=ab
     rw[Addr.jQ,eo];show w.cell? _=_;rw[nL hh];simp[dj]
    .have dj:j<cs.size:=ab
     simp only[jk,yb hj,eI,dg] at hv;exact a6 j p v hp (by rw[<-hv];simp[dj])
  obtain⟨os,j7,bd,i3⟩:=hold;obtain⟨nc,rest,d9,ct,a4⟩:=zi bf bk hi br hzero ty a0 k cap k2 _ ax cx rfl us os (ag w.drew rfl) bd bh c6 cg;have ck:cap*sz<(k+k2)*sz:=Nat.mul_lt_mul_of_pos_right ab c4;have aw:(k+k2)*sz=k*sz+k2*sz:=ga _ _ _
  have b6:cells.length<k*sz+news.length:=by
   cases ha:m.addr id cells.length with
   |none=>simp_all
   |some bc=>grind
  have bq:(os.toArray++us.toArray++rest).size=nc*sz:=by
   have:(nc-(k+k2))*sz=nc*sz-(k+k2)*sz:=Nat.sub_mul _ _ _;have h9:(k+k2)*sz<=nc*sz:=sJ _ d9;simp_all
  have g6:(k+k2)*sz<=nc*sz:=sJ _ d9;obtain⟨u1,u2,u3,u4⟩:=vI (w':=w.drew.alloc (.cells (os.toArray++us.toArray++rest) e)) hs hin hd (cells':=iK cells (k*sz) news) ab (b':=w.heap.size) (C':=nc*sz) (λe=>ab) (.inl (bV _))
   (λq hq b7=>jH w.drew _ hq)
   ⟨_,e,vt w.drew _,bq,ab,hB,λj p v hp hv=>by
     rw[Ei cells news (k*sz) c5] at hp;rw[uQ,yd] at hv
     grind⟩
  refine⟨_,_,_,a4,u2,m7,El hB _,u1,u3,u4,?_⟩;refine .msl hd (by simp[Mm.up]) d9 (λe=>?_) (λb' C' e=>?_)
  .simp[Mm.up] at e
  .simp only[Mm.up,and_self,cD,dg,dH] at e
   grind
end
end Go.Fi
namespace Go.Fi
open Go Go.RowKit
variable[bJ]
section
variable{P:Program}{B:Base}{m:Mm}{w w':World}{H h:bD}{n:Nat}{env:Env}{a:Act}{L:Nat->Prop}
section
omit [bJ]
theorem vJ{c:List AV}(ao:¬m.dom n)(b:Nat):LB m ((n,c)::h) b↔LB m h b:=by
 constructor
 .rintro⟨id,cs,C,hin,hd,ha⟩
  rcases ew.1 hin with e|e
  .simp_all
  .exact⟨id,cs,C,e,hd,ha⟩
 .rintro⟨id,cs,C,hin,hd,ha⟩
  exact⟨id,cs,C,fw _ hin,hd,ha⟩
theorem zp(hs:dc B h m w){c:List AV}(ao:¬m.dom n)(b7:∀id cs,(id,cs)∈h->id≠n):dc B ((n,c)::h) m w:=by
 have hL:LB m ((n,c)::h)=LB m h:=funext λb=>propext (vJ ao b)
 refine⟨λid cells hin hd=>?_,?_⟩
 .rw[hL]
  rcases ew.1 hin with e|e
  .simp_all
  .exact hs.entry id cells e hd
 .refine I4.2 ⟨λy hy=>⟨λe=>b7 y.1 y.2 hy e.symm,λb C C' hd=>absurd hd ao⟩,hs.inj⟩
theorem Kn(hs:dc B h m w)(ao:¬m.dom n)(b7:∀id cs,(id,cs)∈h->id<n)(hB:B.n<=w.heap.size){t tx e sz:Nat}{ex:TypeId×Nat}{by_:Nat}{z:List AV}(ht:slE P t=some (e,sz))(bj:slE P tx=some ex)(bl:byE P e=some by_)(hz:fE P e=some z){x s:Value}{xa:AV}{k2:Nat}{news:List AV}{c:Prop}(aq:iJ h sz xa=some (k2,news,c))(hc:c)(hx:bI B (LB m h) m w xa x){own:Bool}(dm:bI B (LB m h) m w (.w own true (.sl 0 [])) s)(c1:0<k2)(c3:z.length=sz)(c6:k2<=1000000000)(c7:by_<=100000)(ty:TypeId):∃v' w' m',(Builtin.append_ #[t,tx] ty #[s,x]).run P w=.ok v' w'/\EPost B h m w n ((n,news)::h) (n+1) (.msl n news.length sz 0 k2) v' w' m':=by
 have eg:=zp (c:=news) hs ao (λid cs hin=>by have:=b7 id cs hin;omega)
 have hL:LB m ((n,news)::h)=LB m h:=funext λb=>propext (vJ ao b)
 obtain⟨bf,i,hi,br⟩:=j0 ht;obtain⟨bk,_⟩:=j0 (e:=ex.1) (z:=ex.2) bj;obtain⟨iz,vz,de,hzero,rfl⟩:=pX hz;rw[hi] at de;cases de
 have cg:i.bytes<=100000:=by
  have:i.bytes=by_:=by simpa[byE,hi] using bl
  omega
 obtain⟨ax,cx,us,rfl,c9,cp,ag,cz⟩:=vC aq hc hs (λid cs e=>gj e) hx;obtain⟨a0,cap,rfl,_,cj,_,_⟩:=dm.n9;have b9:=cj rfl;subst b9
 have i6:vz.cells.size=sz:=by rw[<-c3];simp
 obtain⟨nc,rest,d9,ct,a4⟩:=zi bf bk hi br hzero ty a0 0 0 k2 _ ax cx rfl us [] (ag w.drew rfl)
  (nM sz 0 a0 0 [] ae (λ_=>ae) (λ_ _ j u hj=>by simp at hj)) ab ab cg
 simp only[eo] at d9 ct a4;have g6:k2*sz<=nc*sz:=sJ _ d9
 have bq:(#[]++us.toArray++rest).size=nc*sz:=by
  have:(nc-k2)*sz=nc*sz-k2*sz:=Nat.sub_mul _ _ _;simp_all
 have g7:dc B ((n,news)::h) (m.new n news.length (some (w.heap.size,nc*sz))) (w.drew.alloc (.cells (#[]++us.toArray++rest) e)):=by
  rw[<-bq]
  exact DQ (w:=w.drew) (eg.below (w':=w.drew) (Bel.refl _ _).drew) hB (id:=n) (cells:=news) (jB) ao (#[]++us.toArray++rest) e (by rw[bq];omega) (λj p v hp hv=>by
  have hj:=(fu.1 hp).1;rw[Array.empty_append,yd,mW,bX ab,ya] at hv;rw[hL]
  exact (cz j p v hp hv).mono (Mm.le.refl m) (λ_ _ h=>h) (λ_ _ _=>rfl))
 refine⟨_,_,m.new n news.length (some (w.heap.size,nc*sz)),a4,Mm.uq ao,λi=>?_,El hB _,g7,λb hb hn hl=>?_,λb hb _=>jH w.drew _ hb,?_⟩
 .simp only[Mm.new]
  grind
 .rcases sY (w:=w) eg (jB) hl with h1|⟨C,h1⟩
  .rw[hL] at h1;exact hn h1
  simp_all
 .refine .msl (Or.inr rfl) a8 d9 (λe=>?_) (λb' C' e=>?_)
  .simp[Mm.new] at e
  .simp only[Mm.new,and_self,cD,dg,dH] at e;simp_all
theorem Ko(hs:dc B h m w)(hB:B.n<=w.heap.size){t tx e sz:Nat}{ex:TypeId×Nat}{by_:Nat}{z:List AV}(ht:slE P t=some (e,sz))(bj:slE P tx=some ex)(bl:byE P e=some by_)(hz:fE P e=some z){x s:Value}{xa:AV}{k2:Nat}{news:List AV}{c:Prop}(aq:iJ h sz xa=some (k2,news,c))(hc:c)(hx:bI B (LB m h) m w xa x){q:List PV}(hq:pvs news=some q){own:Bool}{k:Nat}{cells:List PV}(dm:bI B (LB m h) m w (.w own true (.sl k cells)) s)(c1:cells.length=k*sz)(c3:z.length=sz)(c6:k+k2<=1000000000)(c7:by_<=100000)(ty:TypeId):∃v' w' m',(Builtin.append_ #[t,tx] ty #[s,x]).run P w=.ok v' w'/\EPost B h m w n h n (.w (ij q&&(own || cells.isEmpty)) false (.sl (k+k2) (cells++q))) v' w' m':=by
 obtain⟨v',w',a4,hb,eg,hv⟩:=Ec hs (λid cs e=>gj e) hB ht bj bl hz aq hc hx hq dm c1 c3 c6 c7 ty;exact⟨v',w',m,a4,Mm.le.refl m,m7,hb.mono hB,eg,λb _ h=>h,λb bu _=>hb.block b bu,hv⟩
end
end
end Go.Fi
namespace Go.Fi
open Go Go.RowKit
def shr(sz k:Nat):AV->AV
 |.msl id ver z off k2=>.msl id ver z off (min k2 k)
 |.w own _ (.sl k2 c)=>.w own false (.sl (min k2 k) (c.take (min k2 k*sz)))
 |x=>x
def pq(P:Program)(h:bD)(t:TypeId)(d x:AV):Option (Prop×AV×bD):=
 match slE P t,d with
 |some (_,sz),.msl id ver z' off k=>
  match cV h id,iJ h sz (shr sz k x) with
  |some cells,some (kk,news,c)=>some ((c/\cells.length=ver/\z'=sz/\off+k*sz<=ver/\eh news=true),.w false false (.int .i64 kk),dz h id (setAt cells off news))
  |_,_=>none
 |_,_=>none
def rP(P:Program)(h:bD)(args:List AV)(tys:List TypeId):Option (Prop×AV×bD):=
 match args,tys with
 |[d,x],t::_=>pq P h t d x
 |_,_=>none
def rQ(P:Program)(env:Env)(h:bD)(n:Nat)(args:List Operand)(tys:List TypeId)(K:AV->bD->Nat->Prop):Prop:=
 match rP P h (args.map (ev env)) tys with
 |some (c,v,h')=>c/\K v h' n
 |none=>False
section
variable{P:Program}{B:Base}{m:Mm}{w w':World}{H h:bD}{n:Nat}{env:Env}{a:Act}{L:Nat->Prop}
theorem Ks{sz k:Nat}{x:AV}{v:Value}{y:Nat×List AV×Prop}(h0:iJ h sz (shr sz k x)=some y)(hx:bI B L m w x v):∃a0 k2 cap,v=.slice a0 k2 cap/\y.1=min k2 k/\bI B L m w (shr sz k x) (.slice a0 (min k2 k) cap):=by
 cases x with
 |msl id ver z off k2=>
  obtain⟨a0,cap,rfl,h1,h2,h3,h4,h5⟩:=hx.oe;refine⟨a0,k2,cap,rfl,?_,.msl h2 h3 ab h4 h5⟩;simp only[shr,iJ] at h0
  grind
 |w own f p=>
  cases p with
  |sl k2 c=>
   obtain⟨a0,cap,rfl,h1,h2,h3,h4⟩:=hx.n9;refine⟨a0,k2,cap,rfl,?_,?_⟩
   .simp only[shr,iJ] at h0
    grind
   .simp only[shr];refine .w ?_ nofun
    cases hc:c with
    |nil=>
     cases ha:a0 with
     |none=>
      obtain⟨rfl,rfl⟩:=h3 ha;simp only[List.take_nil,Nat.zero_min];exact .slnil
     |some a=>
      simp only[List.take_nil];exact .slz ab
    |cons y ys=>
     obtain⟨b,off,vals,rfl,h5,h6,h7⟩:=h4 (by rw[hc];simp);rw[<-hc];refine .sl vals ab (λj hj=>h5 j (by simp at hj;omega)) (λ_=>h6) (λj q hq=>?_);rw[k8] at hq;simp_all
  |_=>simp[shr,iJ] at h0
 |_=>simp[shr,iJ] at h0
theorem Kt(hs:dc B h m w){t:TypeId}{d x:AV}{dv xv:Value}{c:Prop}{v:AV}{h':bD}(hr:pq P h t d x=some (c,v,h'))(hc:c)(hd:bI B (LB m h) m w d dv)(hx:bI B (LB m h) m w x xv)(tys:List TypeId)(ty:TypeId):∃v' w' m',(Builtin.copy_ (t::tys).toArray ty #[dv,xv]).run P w=.ok v' w'/\EPost B h m w n h' n v v' w' m':=by
 unfold pq at hr;split at hr
 .rename_i e sz id ver z' off k ht;split at hr
  .rename_i cells kk news c' hg aq;cases hr;obtain⟨c0,c1,c2,c3,c4⟩:=hc;subst c2;subst c1;obtain⟨bf,i,hi,br⟩:=j0 ht;obtain⟨ax,k2,cx,rfl,aw,jv⟩:=Ks aq hx;simp only at aw;obtain⟨jx,jy,us,hv,c9,cp,ag,cz⟩:=vC aq c0 hs (λid cs e=>gj e) jv
   injection hv with jd k3 jg
   subst jd jg
   have b4:(Builtin.firstCells z' kk (.slice ax k2 cx)).run P w=.ok us.toArray w:=by
    have:=ag w rfl;rw[<-aw] at this;rw[<-this]
    cases ax<;>rfl
   obtain⟨a0,cap,rfl,hk,bi,d3,h3,h4⟩:=hd.oe;rw[tg h id _ (ti hs)];have hin:=gj hg;have ck:kk*z'<=k*z':=sJ _ ab
   cases ha:m.addr id cells.length with
   |none=>
    obtain⟨rfl,h5⟩:=h3 ha
    have dk:kk=0:=ab
    have fj:cells=[]:=iW h5;subst fj;have eb:us=[]:=iW (by rw[c9,dk];simp);have g5:news=[]:=iW (by rw[cp,dk];simp);subst eb g5;have cm:Nat.min k2 k=kk:=aw.symm;have dl:js h id (setAt [] off [])=h:=Ek hs hin;refine⟨.int .i64 kk,w,m,?_,Mm.le.refl m,m7,Bel.refl _ _,?_,λb _ h=>?_,λb _ _=>rfl,.w (.int _ _) nofun⟩
    .cases a0 with
     |none=>simp[Builtin.copy_,run_underlying bf,sizeOf,typeInfo,hi,br,Builtin.lenOf,cm,b4,goInt]
     |some ad=>simp[Builtin.copy_,run_underlying bf,sizeOf,typeInfo,hi,br,Builtin.lenOf,cm,b4,goInt,storeCells]
    .have:=hs;rw[<-dl] at this;exact this
    .have h2:=h;rw[<-dl] at h2;exact h2
   |some bc=>
    obtain⟨b,C⟩:=bc;obtain⟨h5,h6,h7⟩:=h4 b C ha;obtain⟨cs,e',hh,hC,hle,hbB,a6⟩:=hs.read hin bi ha ab;have hlen:(setAt cells off news).length=cells.length:=vw _ _ _;have d6:=vH (P:=P) b off e' us 0 w cs hh ab (zo c4 ab cz);simp only[oI] at d6;have cm:Nat.min k2 k=kk:=aw.symm
    have a4:(Builtin.copy_ (t::tys).toArray ty #[.slice a0 k cap,.slice ax k2 cx]).run P w=.ok (.int .i64 kk) (fN w b (fR cs off us) e'):=by
     cases a0 with
     |none=>
      have b9:cap=0:=by
       grind
      have eb:us=[]:=iW (by rw[c9,show kk=0 by omega];simp);subst eb;simp only[fR];rw[te w b cs e' hh];simp[Builtin.copy_,run_underlying bf,sizeOf,typeInfo,hi,br,Builtin.lenOf,cm,b4,goInt]
     |some ad=>
      have gi:(storeCells ad us).run P w=.ok () (fN w b (fR cs off us) e'):=by
       rcases k9 cap with h0|h0
       .have eb:us=[]:=iW (by rw[c9,show kk=0 by omega];simp);subst eb;simp only[fR,storeCells];rw[te w b cs e' hh];rfl
       grind
      simp[Builtin.copy_,run_underlying bf,sizeOf,typeInfo,hi,br,Builtin.lenOf,cm,b4,goInt,gi]
    obtain⟨u1,u2,u3,u4⟩:=vI (w':=fN w b (fR cs off us) e') hs hin bi (cells':=setAt cells off news) ab (b':=b) (C':=C) (λ_=>ha) (.inr ⟨C,ha⟩)
     (λq hq b7=>vD w b _ _ (λe=>b7 C (e▸ha)))
     ⟨fR cs off us,e',vE w b _ _ (fz hs ⟨id,cells,C,hin,bi,ha⟩),by rw[vG,hC],ab,hbB,
       (zm news us off cells cs ⟨ab,a6⟩ ab cz).2⟩
    exact⟨_,_,_,a4,u2,m7,zn hbB w _ _,u1,u3,u4,.w (.int _ _) nofun⟩
  .cases hr
 .cases hr
end
end Go.Fi
namespace Go.Fi
open Go Go.RowKit
variable[bJ]
structure St where
 env:Env
 heap:bD
 nxt:Nat
 nt:Nat
def AV.lt(n:Nat):AV->Bool
 |.w _ _ _=>true
 |.ptr id _ _=>decide (id<n)
 |.msl id _ _ _ _=>decide (id<n)
 |.mp id=>decide (id<n)
 |.agg cs=>ltL n cs
 |.tup cs=>ltL n cs
 |.fn _ cs=>ltL n cs
where ltL (n:Nat):List AV->Bool
 |[]=>true
 |x::r=>x.lt n&&ltL n r
section
omit [bJ]
theorem oO{n:Nat}:∀{l:List AV},AV.lt.ltL n l=true->∀(j:Nat)(x:AV),l[j]?=some x->x.lt n=true
 |[],_,j,x,h=>by simp at h
 |y::l,hp,j,x,h=>by
  simp only[AV.lt.ltL,eT] at hp
  cases j with
  |zero=>simp_all
  |succ j=>exact oO hp.2 j x av
theorem bI.BW{B:Base}{L L':Nat->Prop}{m:Mm}{w:World}{x:AV}{v:Value}(h:bI B L m w x v){n:Nat}(hl:x.lt n=true)(hL:∀b,L' b->L b):bI B L' { m with dom:=λi=>i<n } w x v:=by
 induction h with
 |w hr hf=>exact .w (hr.imp λb hg=>⟨λhb=>hg.1 (hL b hb),hg.2⟩) hf
 |ptr hd ht ha hC=>exact .ptr (by simpa[AV.lt] using hl) ht ha hC
 |mp hd ht ha=>exact .mp (by simpa[AV.lt] using hl) ht ha
 |msl hd ht hn h0 h1=>exact .msl (by simpa[AV.lt] using hl) ht hn h0 h1
 |agg hlen _ ih=>exact .agg hlen (λj p v hp hv=>ih j p v hp hv (oO aE j p hp))
 |tup hlen _ ih=>exact .tup hlen (λj p v hp hv=>ih j p v hp hv (oO aE j p hp))
 |fn hlen _ ih=>exact .fn hlen (λj p v hp hv=>ih j p v hp hv (oO aE j p hp))
theorem AV.rR{n n':Nat}(hn:n<=n'):∀{x:AV},x.lt n=true->x.lt n'=true
 |.w _ _ _,_=>rfl
 |.ptr _ _ _,h=>by simp only[AV.lt,decide_eq_true_eq] at h ⊢;omega
 |.msl _ _ _ _ _,h=>by simp only[AV.lt,decide_eq_true_eq] at h ⊢;omega
 |.mp _,h=>by simp only[AV.lt,decide_eq_true_eq] at h ⊢;omega
 |.agg cs,h=>xw hn (cs:=cs) h
 |.tup cs,h=>xw hn (cs:=cs) h
 |.fn _ cs,h=>xw hn (cs:=cs) h
where xw {n n':Nat} (hn:n<=n'):∀{cs:List AV},AV.lt.ltL n cs=true->AV.lt.ltL n' cs=true
 |[],_=>rfl
 |x::r,h=>by
  simp only[AV.lt.ltL,eT] at h ⊢;exact⟨AV.rR hn h.1,xw hn h.2⟩
end
structure RI where
 l:Nat
 env:Env
 nt:Nat
 ps:Array Tmp
 assign:Code
 body:Code
structure Fk where
 k:Nat
 ri:Option RI
abbrev fk0:Fk:=⟨0,none⟩
def marks(ds:List Nat):List Deferred:=ds.map λD=>{ target:=.collected D,args:=#[] }
def dw(ri:RI)(fn:FuncId)(T:Array Value)(D:Nat)(s:LoopState)(p:Option Code):Obj:=.loop { state:=s,pending:=p,fn:=fn,tmps:=T,params:=ri.ps,assign:=ri.assign,body:=ri.body,defers:=D }
def Qg(ri:RI)(F:List (AV×Value))(obs:List (Nat×Obj)):Prop:=
 ∃fn T D,(ri.l,dw ri fn T D .ready none)∈obs/\T.size=ri.nt/\∀t v,(t,v)∈ri.env->(get ri.env t,T.getD t undef)∈F
def HB(fk:Fk)(F:List (AV×Value))(obs:List (Nat×Obj)):Prop:=∀ri,fk.ri=some ri->Qg ri F obs
structure Ctx(fk:Fk) where
 w:World
 F:List (AV×Value)
 r:Option Nat
 obs:List (Nat×Obj)
 ds:List Nat
 dw:HB fk F obs
 ok:bJ.ok w
def pt(B:Base){fk:Fk}(w0:Ctx fk)(L:Nat->Prop)(m:Mm)(w:World)(n:Nat):Prop:=
 fk.k<=n/\(∀p∈w0.F,p.1.lt fk.k=true/\bI B L m w p.1 p.2)/\∀q∈w0.obs,B.n<=q.1/\q.1<w.heap.size/\¬L q.1/\w.heap[q.1]?=some q.2
theorem pt.mono{B:Base}{fk:Fk}{w0:Ctx fk}{L L':Nat->Prop}{m m':Mm}{w w':World}{n n':Nat}(h:pt B w0 L m w n)(hm:m.le m')(hL:∀b,b<w.heap.size->¬L b->¬L' b)(hw:∀b,b<w.heap.size->¬L b->w'.heap[b]?=w.heap[b]?)(hn:n<=n'):pt B w0 L' m' w' n':=
 ⟨dK h.1 hn,λp hp=>⟨(h.2.1 p hp).1,(h.2.1 p hp).2.mono hm hL hw⟩,λq hq=>by
   obtain⟨h1,h2,h3,h4⟩:=h.2.2 q hq;have h5:=(hw q.1 h2 h3).trans h4
   grind⟩
structure Sim{fk:Fk}(B:Base)(w0:Ctx fk)(st:St)(a:Act)(w:World)(m:Mm):Prop where
 base:B.n=w0.w.heap.size
 below:Bel B.n w0.w w
 defers:a.defers=marks w0.ds
 size:a.tmps.size=st.nt
 env:∀t,bI B (LB m st.heap) m w (get st.env t) (a.tmps.getD t undef)
 heap:dc B st.heap m w
 dom:∀i,m.dom i↔i<st.nxt
 ids:∀id c,(id,c)∈st.heap->id<st.nxt
 fr:pt B w0 (LB m st.heap) m w st.nxt
theorem Sim.ok{fk:Fk}{B:Base}{w0:Ctx fk}{st:St}{a:Act}{w:World}{m:Mm}(h:Sim B w0 st a w m):bJ.ok w:=
 bJ.keep w0.ok (by have:=h.below;rw[h.base] at this;exact this)
theorem Sim.room{fk:Fk}{B:Base}{w0:Ctx fk}{st:St}{a:Act}{w:World}{m:Mm}(h:Sim B w0 st a w m):B.n<=w.heap.size:=by
 have:=h.below.size;have:=h.base;omega
theorem Sim.bel{fk:Fk}{B:Base}{w0:Ctx fk}{st:St}{a:Act}{w w':World}{m:Mm}(h:Sim B w0 st a w m)(hb:Bel w.heap.size w w'):Sim B w0 st a w' m:=
 ⟨h.base,h.below.trans (hb.mono h.room),h.defers,h.size,λt=>(h.env t).mono (Mm.le.refl m) (λ_ _ x=>x) (λb hl _=>hb.block b hl),h.heap.below hb,h.dom,h.ids,
   h.fr.mono (Mm.le.refl m) (λ_ _ x=>x) (λb hl _=>hb.block b hl) (bV _)⟩
theorem Sim.move{fk:Fk}{B:Base}{w0:Ctx fk}{st:St}{a:Act}{w w':World}{m:Mm}(h:Sim B w0 st a w m)(e:EnvD.E w w'):Sim B w0 st a w' m:=h.bel (EnvD.ext e)
def dOk(nt:Nat):Option Nat->Prop
 |some d=>d<nt
 |none=>True
section
variable{P:Program}{B:Base}{m:Mm}{w w':World}{H h:bD}{n:Nat}{env:Env}{a:Act}{L:Nat->Prop}
section
omit [bJ]
theorem Ku(hs:dc B h m w){t sz:Nat}{g:Bool}(ht:tyL P t=some (sz,g)){id ver off:Nat}{ad xv:Value}{x:AV}{cells:List AV}(fg:bI B (LB m h) m w (.ptr id ver off) ad)(hx:bI B (LB m h) m w x xv)(hg:cV h id=some cells)(c1:cells.length=ver)(c2:x.ok=true)(c3:x.cells.length=sz)(c4:off+sz<=cells.length)(c5:eh x.cells=true):∃w' m',(Instr.storeAt t ad xv).run P w=.ok () w'/\EPost B h m w n (dz h id (setAt cells off x.cells)) n (.tup []) undef w' m':=by
 rw[tg h id _ (ti hs)];obtain⟨b,C,rfl,hd,hvC,ha⟩:=fg.pg;rw[<-c1] at ha hvC;have hin:=gj hg;obtain⟨cs,e',hh,hC,hle,hbB,a6⟩:=hs.read hin hd ha hvC.2;obtain⟨h1,h2⟩:=vk hx c2;obtain⟨i,d,hi,br,_,_⟩:=DK (w:=w) ht;have hlen:(setAt cells off x.cells).length=cells.length:=vw _ _ _
 have cz:∀(j:Nat)(p:AV)(u:Value),x.cells[j]?=some p->xv.cells.toList[j]?=some u->bI B (LB m h) m w p u:=λj p u hp hu=>h2 j p u hp (by rw[<-jA];exact hu)
 have d6:=vH (P:=P) b off e' xv.cells.toList 0 w cs hh ar (zo c5 ar cz);simp only[oI] at d6
 have a4:(Instr.storeAt t (.pointer (some ⟨b,off,none⟩)) xv).run P w=.ok () (fN w b (fR cs off xv.cells.toList) e'):=by
  have gk:xv.cells.size=i.size:=ab
  simp[Instr.storeAt,Instr.sureAddr,storeVar,sizeOf,typeInfo,hi,gk,d6]
 obtain⟨u1,u2,u3,u4⟩:=vI (w':=fN w b (fR cs off xv.cells.toList) e') hs hin hd (cells':=setAt cells off x.cells) ab (b':=b) (C':=C) (λ_=>ha) (.inr ⟨C,ha⟩)
  (λq hq b7=>vD w b _ _ (λe=>b7 C (e▸ha)))
  ⟨fR cs off xv.cells.toList,e',vE w b _ _ (fz hs ⟨id,cells,C,hin,hd,ha⟩),by rw[vG,hC],ab,hbB,
    (zm x.cells xv.cells.toList off cells cs ⟨ab,a6⟩ ab cz).2⟩
 exact⟨_,_,a4,u2,m7,zn hbB w _ _,u1,u3,u4,.tup rfl (λj p v hp=>by simp at hp)⟩
theorem nO(env:Env)(a:Act)(d:Option Nat)(v:AV)(v':Value)(hd:dOk a.tmps.size d)(hv:bI B L m w v v')(he:∀t,bI B L m w (get env t) (a.tmps.getD t undef)):∀t,bI B L m w (get (put env d v) t) ((a.put d v').tmps.getD t undef):=by
 intro t
 cases d with
 |none=>exact he t
 |some d=>
  simp only[put,get,Act.put];by_cases ii:d=t
  .subst ii;simp only[cD];rw[dL,jj];simp only[cD];rw[bX (show d<a.tmps.size from hd)];exact hv
  simp_all
theorem lh(a:Act)(d:Option Nat)(v:Value):(a.put d v).tmps.size=a.tmps.size:=by cases d<;>simp[Act.put]
theorem lj(a:Act)(d:Option Nat)(v:Value):(a.put d v).defers=a.defers:=by cases d<;>rfl
theorem ll:∀(E:List (List AV))(h:bD)(n:Nat)(id:Nat)(c:List AV),(id,c)∈db h n E↔(id,c)∈h\/∃k,E[k]?=some c/\id=n+k
 |[],h,n,id,c=>by simp[db]
 |x::E,h,n,id,c=>by
  simp only[db,ew,dH,ll E h (n+1) id c];constructor
  .rintro (⟨rfl,rfl⟩|h1|⟨k,h1,rfl⟩)
   .exact .inr ⟨0,rfl,rfl⟩
   .exact .inl h1
   .exact .inr ⟨k+1,by simpa using h1,ab⟩
  grind
theorem vK:∀(E:List (List AV))(h:bD)(n:Nat),dc B h m w->(∀i,n<=i->¬m.dom i)->(∀id c,(id,c)∈h->id<n)->dc B (db h n E) m w/\LB m (db h n E)=LB m h
 |[],h,n,hs,_,_=>⟨hs,rfl⟩
 |x::E,h,n,hs,hd,hi=>by
  have ao:=hd n (bV _);obtain⟨h1,h2⟩:=vK E h (n+1) hs (λi hi=>hd i ab) (λid c hin=>by have:=hi id c hin;omega)
  have:=zp (c:=x) h1 ao (λid c hin=>by
   rcases (ll E h (n+1) id c).1 hin with h3|⟨k,_,rfl⟩
   .have:=hi id c h3;omega
   .omega)
  refine⟨this,?_⟩;show LB m ((n,x)::db h (n+1) E)=_;rw[show LB m ((n,x)::db h (n+1) E)=LB m (db h (n+1) E) from funext λb=>propext (vJ ao b),h2]
end
def mA(s:ByteArray):List PV:=s.data.toList.map λb=>PV.int .u8 b.toNat
def rT(P:Program)(src dst:TypeId):Bool:=
 match P.underlying src,P.underlying dst with
 |some _,some (.slice e)=>match P.underlying e with
  |some (.int .u8)=>true
  |_=>false
 |_,_=>false
omit [bJ] in
theorem Kw(hs:dc B h m w)(hB:B.n<=w.heap.size){src dst:TypeId}(hb:rT P src dst=true)(s:ByteArray):∃v' w',(convert src dst (.string s)).run P w=.ok v' w'/\EPost B h m w n h n (.w true false (.sl s.size (mA s))) v' w' m:=by
 unfold rT at hb;split at hb
 .rename_i u e hu hd;split at hb
  .rename_i he
   refine⟨_,_,Lib.run_convert_string_bytes w src dst e s hu hd he,Mm.le.refl m,m7,⟨rfl,rfl,by rw[Lib.bytesWorld_size];simp,λk hk=>Lib.bytesWorld_at_old w e s k ab⟩,
    hs.below ⟨rfl,rfl,by rw[Lib.bytesWorld_size];simp,λb hb=>Lib.bytesWorld_at_old w e s b hb⟩,λb _ h=>h,λb hb _=>Lib.bytesWorld_at_old w e s b hb,.w ?_ nofun⟩
   have hlen:(mA s).length=s.size:=by simp[mA]
   have b9:s.size<=grownCap w s.size 0 e:=grownCap_ge w _ _ e;refine .sl (b:=w.heap.size) (off:=0) (λj=>.int .u8 (s.data.toList.getD j 0).toNat) b9 (λj hj=>?_) (λ_=>⟨λhl=>?_,λ_=>hB,λhl=>?_⟩) (λj p hp=>?_)
   .rw[eo];exact Lib.bytesWorld_cell w e s j ab
   .have:=fz hs hl;omega
   .omega
   .unfold mA at hp;rw[jk] at hp;obtain⟨b,ei,rfl⟩:=sS.1 hp
    have:s.data.toList.getD j 0=b:=by rw[eu,ei];rfl
    rw[this];exact .int _ _
  .cases hb
 .cases hb
def xx(P:Program)(env:Env)(h:bD)(n:Nat)(src dst:TypeId)(x:Operand)(K:AV->bD->Nat->Prop):Prop:=
 match ev env x with
 |.w _ _ (.str s)=>rT P src dst=true/\K (.w true false (.sl s.size (mA s))) h n
 |_=>du P env h n (.convert src dst x) λv E=>K v (db h n E) (n+E.length)
def Qh(P:Program)(h:bD)(n:Nat)(t:TypeId)(K:AV->bD->Nat->Prop):Prop:=(lI P t).isSome=true/\K (.mp n) ((n,[gK []])::h) (n+1)
def rU(P:Program)(env:Env)(h:bD)(n:Nat)(t:TypeId)(m k v:Operand)(K:AV->bD->Nat->Prop):Prop:=
 match ev env m with
 |.mp id=>match (cV h id).bind fM,ev env k,ev env v,lI P t with
  |some l,.w _ _ kp,.w _ _ vp,some (d,_)=>(okM d kp l=true/\isLit vp=true)/\K (.tup []) (dz h id [gK (jb l kp vp)]) n
  |_,_,_,_=>False
 |_=>False
def dA(P:Program)(env:Env)(h:bD)(n:Nat)(op:Op)(K:AV->bD->Nat->Prop):Prop:=
 match op with
 |.store t ad x=>rO P env h n t ad x K
 |.call { callee:=.builtin .append,args:=args,argTypes:=tys }=>rM P env h n args.toList tys.toList K
 |.call { callee:=.builtin .copy,args:=args,argTypes:=tys }=>rQ P env h n args.toList tys.toList K
 |.convert src dst x=>xx P env h n src dst x K
 |.makeMap t none=>Qh P h n t K
 |.mapUpdate t m k v=>rU P env h n t m k v K
 |op=>du P env h n op λv E=>K v (db h n E) (n+E.length)
section
omit [bJ]
theorem Kx{d:TypeDesc}{k v:PV}(hk:okK d k=true){es:Array MapEntry}{l:List (PV×PV)}(bw:nZ es l)(hl:∀p∈l,okK d p.1=true):(∀i q,gD l k 0=some (i,q)->nZ (es.modify i λe=>{ e with key:=dT k,val:=dT v }) (jb l k v))/\(gD l k 0=none->∀clk,nZ (es.push { key:=dT k,val:=dT v,born:=clk }) (jb l k v)):=by
 have gen:∀(l:List (PV×PV))(s:Nat)(q:PV)(i:Nat),gD l k s=some (i,q)->s<=i/\i-s<l.length/\jb l k v=l.set (i-s) (k,v):=by
  intro l
  induction l with
  |nil=>intro s q i h;cases h
  |cons p r ih=>
   intro s q i h;unfold gD at h;unfold jb;split at h
   .simp_all
   .rename_i hp;rw[bH hp];obtain⟨h1,h2,h3⟩:=ih (s+1) q i h;refine⟨ab,ak,?_⟩;rw[h3,show i-s=(i-(s+1))+1 by omega];rfl
 have gen2:∀(l:List (PV×PV))(s:Nat),gD l k s=none->jb l k v=l++[(k,v)]:=by
  intro l
  induction l with
  |nil=>intro s _;rfl
  |cons p r ih=>
   intro s h;unfold gD at h;unfold jb
   grind
 refine⟨λi q h=>?_,λh clk=>?_⟩
 .obtain⟨_,h2,h3⟩:=gen l 0 q i h;rw[Nat.sub_zero] at h2 h3;rw[h3];refine⟨by simp[bw.1],λj p e hp he=>?_⟩;rw[IX] at hp;rw[fG] at he;by_cases g0:i=j
  .grind
  .simp only[g0,cP] at hp he;exact bw.2 j p e hp he
 .rw[gen2 l 0 h];refine⟨by simp[bw.1],λj p e hp he=>?_⟩
  rcases fq j l.length with hj|hj
  .rw[qU hj] at hp;rw[pO,bH (by have:=bw.1;omega)] at he;exact bw.2 j p e hp he
  .have iu:j=l.length:=by
    have:=(fu.1 hp).1;simp at this;omega
   subst iu;simp at hp;subst hp;rw[pO,bX bw.1] at he
   grind
theorem Em:∀(l:List (PV×PV))(k:PV)(s i:Nat)(q:PV),gD l k s=some (i,q)->∃p,l[i-s]?=some p/\eqK k p.1=true
 |[],k,s,i,q,h=>by cases h
 |p::r,k,s,i,q,h=>by
  unfold gD at h;split at h
  .simp_all
  .obtain⟨p',h1,h2⟩:=Em r k (s+1) i q h
   have hi:s+1<=i:=by
    have:∀(r:List (PV×PV))(s:Nat),gD r k s=some (i,q)->s<=i:=by
     intro r
     induction r with
     |nil=>intro s h;cases h
     |cons y r ih=>
      intro s h;unfold gD at h;split at h
      .injection h with h;injection h with h1 _;omega
      .have:=ih (s+1) h;omega
    exact this r (s+1) h
   grind
theorem Ky{a b:PV}(h:eqK a b=true):dT a=dT b:=by
 cases a<;>cases b<;>simp[eqK] at h
 .obtain⟨rfl,rfl⟩:=h;rfl
 grind
theorem Kz(hs:dc B h m w){t:TypeId}{id:Nat}{cells:List AV}{l:List (PV×PV)}{mv kv vv:Value}{ok fk ov fv:Bool}{kp vp:PV}{d:TypeDesc}{z:PV}(hm:bI B (LB m h) m w (.mp id) mv)(hk:bI B (LB m h) m w (.w ok fk kp) kv)(hv:bI B (LB m h) m w (.w ov fv vp) vv)(hg:cV h id=some cells)(hd:fM cells=some l)(ht:lI P t=some (d,z))(hc:okM d kp l=true)(jp:isLit vp=true):∃w' m',(Instr.mapUpdate t mv kv vv).run P w=.ok () w'/\EPost B h m w n (dz h id [gK (jb l kp vp)]) n (.tup []) undef w' m':=by
 rw[tg h id _ (ti hs)];have hin:=gj hg;obtain⟨b,es,clk,rfl,bi,d7,ha,hb,hB,bw⟩:=hs.HA hin hm hd;obtain⟨kt,et,hu,gx,_⟩:=DY ht;unfold okM at hc;rw[eT,gz] at hc;obtain⟨ek,ic⟩:=hc
 have hl:∀p∈l,okK d p.1=true:=λp hp=>by have:=ic p hp;rw[eT] at this;exact this.1
 have j4:kv=dT kp:=by cases hk with|w hr _=>exact zg (DX ek) hr
 have jr:vv=dT vp:=by cases hv with|w hr _=>exact zg jp hr
 subst j4;subst jr;have hf:=zc ek l es.toList 0 (by rw[Da];exact bw.1) (λj p e hp he=>bw.2 j p e hp (by rw[<-jA];exact he)) hl;obtain⟨q1,q2⟩:=Kx (v:=vp) ek bw hl
 have a4:∀o,(match gD l kp 0 with
  |some x=>o=Obj.map (es.modify x.1 λe=>{ e with key:=dT kp,val:=dT vp }) clk
  |none=>o=Obj.map (es.push { key:=dT kp,val:=dT vp,born:=clk }) (clk+1))->(Instr.mapUpdate t (.map (some b)) (dT kp) (dT vp)).run P w=.ok () { w with heap:=w.heap.setIfInBounds b o }:=by
  intro o ho;unfold Instr.mapUpdate;simp only[Sem.run_bind,run_underlying hu,Result.andThen_ok,MapKept.run_getObj_map hb];rw[show (10000:Nat)=9999+1 from rfl,MapKept.run_checkKey gx (zb ek)];simp only[Result.andThen_ok];rw[MapKept.run_findKey gx hf];simp only[Result.andThen_ok]
  cases hq:gD l kp 0 with
  |none=>
   rw[hq] at ho;simp only[IV];rw[MapKept.run_setObj_map _ hb,ho]
  |some x=>
   rw[hq] at ho;obtain⟨i,q⟩:=x;simp only[eI]
   have hold:((es[i]?).map (·.key)).getD (dT kp)=dT kp:=by
    obtain⟨p,hp,j8⟩:=Em l kp 0 i q hq;rw[Nat.sub_zero] at hp
    have i0:i<es.size:=by rw[<-bw.1];grind
    have:=(bw.2 i p _ hp (dM i0)).1;rw[dM i0];simp only[eI,oL];rw[this];exact (Ky j8).symm
   simp only[Sem.run_bind,hold,MapKept.run_keyThatStays (zb ek),Result.andThen_ok];rw[MapKept.run_setObj_map _ hb,ho]
 have i':b<w.heap.size:=fz hs ⟨id,cells,0,hin,bi,ha⟩
 have fin:∀dp bt,nZ dp (jb l kp vp)->(Instr.mapUpdate t (.map (some b)) (dT kp) (dT vp)).run P w=.ok () { w with heap:=w.heap.setIfInBounds b (.map dp bt)} ->
  ∃w' m',(Instr.mapUpdate t (.map (some b)) (dT kp) (dT vp)).run P w=.ok () w'/\EPost B h m w n (js h id [gK (jb l kp vp)]) n (.tup []) undef w' m':=by
  intro dp bt j5 hr;have hlen:cells.length=1:=yS d7;obtain⟨u1,u2,u3,u4⟩:=Eh (w':={ w with heap:=w.heap.setIfInBounds b (.map dp bt)}) hs hin bi (cells':=[gK (jb l kp vp)]) (by simp[hlen]) (b':=b) (C':=0) (λ_=>ha) (.inr ⟨0,ha⟩)
   (λq hq b7=>by
     have:q≠b:=λe=>b7 0 (by rw[e];exact ha)
     show (w.heap.setIfInBounds b (.map dp bt))[q]?=w.heap[q]?
     rw[jj,bH (λe=>this e.symm)])
   (.inr ⟨rfl,dp,bt,_,by show (w.heap.setIfInBounds b (.map dp bt))[b]?=_;rw[jj,bX rfl,bX i'],rfl,hB,j5⟩)
  refine⟨_,_,hr,u2,m7,⟨rfl,rfl,ae,λk hk=>?_⟩,u1,u3,u4,.tup rfl (λj p v hp=>by simp at hp)⟩
  grind
 cases hq:gD l kp 0 with
 |none=>exact fin _ _ (q2 hq clk) (a4 _ (by rw[hq]))
 |some x=>exact fin _ _ (q1 x.1 x.2 hq) (a4 _ (by rw[hq]))
theorem KA(hs:dc B h m w)(hB:B.n<=w.heap.size)(ao:¬m.dom n)(b7:∀id cs,(id,cs)∈h->id<n)(t:TypeId):∃v' w' m',(Instr.makeMap t none).run P w=.ok v' w'/\EPost B h m w n ((n,[gK []])::h) (n+1) (.mp n) v' w' m':=by
 have i4:dc B ((n,[gK []])::h) m w:=zp hs ao (λid cs hin=>Nat.ne_of_lt (b7 id cs hin))
 have hL:LB m ((n,[gK []])::h)=LB m h:=funext λb=>propext (vJ ao b)
 have hin:(n,[gK []])∈(n,[gK []])::h:=ae
 have hn:=JW i4 hB hin rfl ao;refine⟨.map (some w.heap.size),w.alloc (.map #[] 0),m.new n 1 (some (w.heap.size,0)),?_,Mm.uq ao,λi=>?_,(Bel.refl _ _).alloc hB _,hn,λb hb cp hl=>?_,λb hb _=>jH w _ hb,?_⟩
 .rfl
 .show m.dom i\/i=n↔m.dom i\/n<=i/\i<n+1
  grind
 .rcases sY i4 hin hl with h1|⟨C,h1⟩
  .rw[hL] at h1;exact cp h1
  simp_all
 .exact .mp (.inr rfl) a8 a8
end
theorem En(o:Oper){K:AV->bD->Nat->Prop}(hk:dA P env h n o.op K)(hO:bJ.ok w)(hs:dc B h m w)(hB:B.n<=w.heap.size)(ao:∀i,n<=i->¬m.dom i)(ba:∀id c,(id,c)∈h->id<n)(bm:∀x,x∈o.op.operands->bI B (LB m h) m w (ev env x) (a.eval x))(Q:Exit->Act->World->Prop)(K':Act->World->Prop)(hK:∀v v' h' n' w' m',K v h' n'->EPost B h m w n h' n' v v' w' m'->n<=n'->(∀id c,(id,c)∈h'->id<n')->K' (a.put o.dst v') w'):o.wpt P a w K' Q:=by
 have fin:∀(v:AV)(v':Value)(h':bD)(n':Nat)(w':World)(m':Mm),K v h' n'->EPost B h m w n h' n' v v' w' m'->n<=n'->(∀id c,(id,c)∈h'->id<n')->K' (a.put o.dst v') w':=
  λv v' h' n' w' m' aw he hn ft=>hK v v' h' n' w' m' aw he hn ft
 have hset_id:∀id x,∀i c,(i,c)∈dz h id x->i<n:=by
  intro id x i c hin;rw[tg h id x (ti hs)] at hin;obtain⟨p,hp,e⟩:=gA.1 hin;have:=ba p.1 p.2 hp;split at e
  .injection e with e1 _;rw[<-e1];exact this
  .have e1:p.1=i:=by rw[e]
   rw[<-e1];exact this
 have quietly:du P env h n o.op (λv E=>K v (db h n E) (n+E.length))->o.wpt P a w K' Q:=by
  intro hk;obtain⟨v,E,hq,aw⟩:=hk.qf;obtain⟨s1,s2⟩:=vK E h n hs ao ba;refine hq.sound o hO s1 hB (λid cs e=>(ll E h n id cs).2 (.inl (gj e))) (λk cs e=>(ll E h n _ cs).2 (.inr ⟨k,e,rfl⟩)) (λk hk=>ao _ ab) (λx hx=>by rw[s2];exact bm x hx) K' Q ?_
  rintro v' w' m' ⟨p1,p2,p3,p4,p5,p6⟩
  refine fin v v' _ _ w' m' aw ⟨p1,λi=>?_,p3.mono hB,p4,λb hb hn hl=>?_,λb hb _=>p3.block b hb,p6⟩ ab (λi c hin=>?_)
  .rw[p2]
  .rcases p5 b hl with h1|h1
   .rw[s2] at h1;exact hn h1
   .omega
  .rcases (ll E h n i c).1 hin with h1|⟨k,h1,rfl⟩
   .have:=ba i c h1;omega
   .have:=(fu.1 h1).1;omega
 unfold dA at hk;split at hk
 .rename_i t ad x ho;unfold rO at hk;split at hk
  .rename_i sz g id ver off ht fg;split at hk
   .rename_i cells hg;obtain⟨⟨c1,c2,c3,c4,c5⟩,aw⟩:=hk;obtain⟨w',m',a4,aa⟩:=Ku hs ht (by rw[<-fg];exact bm ad aG) (bm x aG) hg c1 c2 c3 c4 c5;unfold Oper.wpt
    have:(execOp a.eval o).run P w=.ok .skip w':=by simp[execOp,ho,a4]
    rw[this,Oper.Hy];exact fin _ _ _ _ _ _ aw aa (bV _) (hset_id _ _)
   .exact hk.elim
  .exact hk.elim
 .rename_i args tys ho;unfold rM at hk;split at hk
  .rename_i s x t tx a9 cw
   have ha:args=#[s,x]:=by rw[<-oJ (xs:=args),a9]
   have f7:tys=#[t,tx]:=by rw[<-oJ (xs:=tys),cw]
   subst ha;subst f7
   have en:∀v' w',(Builtin.append_ #[t,tx] o.type #[a.eval s,a.eval x]).run P w=.ok v' w'->(execOp a.eval o).run P w=.ok (.value v') w':=by
    intro v' w' hr;simp[execOp,ho,resolve,invoke,builtin,hr]
   split at hk
   .rename_i e sz ex ht bj;split at hk
    .rename_i by_ z k2 news c bl hz aq;split at hk
     .rename_i id ver z' off k es;split at hk
      .rename_i cells hg;obtain⟨⟨c0,coff,c1,c2,c3,c4,c5,c6,c7,c8⟩,aw⟩:=hk;subst coff;subst c2;obtain⟨v',w',m',a4,aa⟩:=Km hs hB ht bj bl hz aq c0 (bm x aD) (by rw[<-es];exact bm s aD) hg c1 c3 c4 c5 c6 c7 c8 o.type;unfold Oper.wpt;rw[en _ _ a4,Oper.o8];exact fin _ _ _ _ _ _ aw aa (bV _) (hset_id _ _)
      .exact hk.elim
     .rename_i own k cells es
      cases bo:(own&&decide (k=0)&&cells.isEmpty) with
      |true=>
       rw[bo] at hk;simp only[cond_true] at hk;obtain⟨⟨c0,c1,c3,_,c6,c7⟩,aw⟩:=hk;simp only[eT,decide_eq_true_eq] at bo;obtain⟨⟨h1,h2⟩,h3⟩:=bo
       have i8:cells=[]:=by simpa using h3
       subst h2;subst i8;obtain⟨v',w',m',a4,aa⟩:=Kn hs (ao n (bV _)) ba hB ht bj bl hz aq c0 (bm x aD) (by rw[<-es];exact bm s aD) c1 c3 c6 c7 o.type;unfold Oper.wpt;rw[en _ _ a4,Oper.o8];refine fin _ _ _ _ _ _ aw aa ab (λi c hin=>?_)
       rcases ew.1 hin with e|e
       .injection e with e1 _;omega
       .have:=ba i c e;omega
      |false=>
       rw[bo] at hk;simp only[cond_false] at hk;split at hk
       .rename_i q hq;obtain⟨⟨c0,c1,c3,_,c6,c7⟩,aw⟩:=hk;obtain⟨v',w',m',a4,aa⟩:=Ko hs hB ht bj bl hz aq c0 (bm x aD) hq (by rw[<-es];exact bm s aD) c1 c3 c6 c7 o.type;unfold Oper.wpt;rw[en _ _ a4,Oper.o8];exact fin _ _ _ _ _ _ aw aa (bV _) ba
       .exact hk.elim
     .exact hk.elim
    .exact hk.elim
   .exact hk.elim
  .exact hk.elim
 .rename_i args tys ho;unfold rQ rP at hk
  match a9:args.toList,cw:tys.toList with
  |[d,x],t::ts=>
   rw[a9,cw] at hk;simp only[oK,ye] at hk
   have ha:args=#[d,x]:=by rw[<-oJ (xs:=args),a9]
   have f7:tys=(t::ts).toArray:=by rw[<-oJ (xs:=tys),cw]
   cases hr:pq P h t (ev env d) (ev env x) with
   |none=>rw[hr] at hk;exact hk.elim
   |some y=>
    obtain⟨c,v,h'⟩:=y;rw[hr] at hk;obtain⟨hc,aw⟩:=hk;obtain⟨v',w',m',a4,aa⟩:=Kt (n:=n) hs hr hc (bm d (by rw[ho,ha];simp[Op.operands,Call.operands])) (bm x (by rw[ho,ha];simp[Op.operands,Call.operands])) ts o.type;unfold Oper.wpt
    have en:(execOp a.eval o).run P w=.ok (.value v') w':=by
     rw[<-f7] at a4;subst ha;simp[execOp,ho,resolve,invoke,builtin,a4]
    rw[en,Oper.o8];refine fin _ _ _ _ _ _ aw aa (bV _) (λi c' hin=>?_);unfold pq at hr;split at hr
    .split at hr
     .cases hr;exact hset_id _ _ _ _ hin
     .cases hr
    .cases hr
  |[],_=>rw[a9] at hk;exact hk.elim
  |[_],_=>rw[a9] at hk;exact hk.elim
  |_::_::_::_,_=>rw[a9] at hk;exact hk.elim
  |[_,_],[]=>rw[a9,cw] at hk;exact hk.elim
 .rename_i src dst x ho
  have quiet:du P env h n (.convert src dst x) (λv E=>K v (db h n E) (n+E.length))->o.wpt P a w K' Q:=by
   intro hk;rw[<-ho] at hk;exact quietly hk
  unfold xx at hk;split at hk
  .rename_i o' f' s es;obtain⟨hb,aw⟩:=hk;have hx:=bm x aG;rw[es] at hx;obtain⟨v',w',a4,aa⟩:=Kw hs hB hb s;unfold Oper.wpt
   have:(execOp a.eval o).run P w=.ok (.value v') w':=by simp[execOp,ho,hx.pf,a4]
   rw[this,Oper.o8];exact fin _ _ _ _ _ _ aw aa (bV _) ba
  .exact quiet hk
 .rename_i t ho;obtain⟨_,aw⟩:=hk;obtain⟨v',w',m',a4,aa⟩:=KA (P:=P) hs hB (ao n (bV _)) ba t;unfold Oper.wpt
  have:(execOp a.eval o).run P w=.ok (.value v') w':=by simp[execOp,ho,a4]
  rw[this,Oper.o8];refine fin _ _ _ _ _ _ aw aa ab (λi c hin=>?_)
  rcases ew.1 hin with e|e
  .injection e with e1 _;omega
  .have:=ba i c e;omega
 .rename_i t mo ko vo ho;unfold rU at hk;split at hk
  .rename_i id hm;split at hk
   .rename_i l ok fk kp ov fv vp d z hl j3 ji j6;obtain⟨⟨c1,c2⟩,aw⟩:=hk
    obtain⟨cells,hg,hd⟩:∃cells,cV h id=some cells/\fM cells=some l:=by
     cases hg:cV h id with
     |none=>rw[hg] at hl;cases hl
     |some cells=>rw[hg] at hl;exact⟨cells,rfl,hl⟩
    obtain⟨w',m',a4,aa⟩:=Kz (n:=n) hs (by rw[<-hm];exact bm mo aG) (by rw[<-j3];exact bm ko aG) (by rw[<-ji];exact bm vo aG) hg hd j6 c1 c2;unfold Oper.wpt
    have:(execOp a.eval o).run P w=.ok .skip w':=by simp[execOp,ho,a4]
    rw[this,Oper.Hy];exact fin _ _ _ _ _ _ aw aa (bV _) (hset_id _ _)
   .exact hk.elim
  .exact hk.elim
 simp_all
theorem vL{o:Op}{K:AV->bD->Nat->Prop}(hk:dA P env h n o K):∀c,o≠.defer c:=by
 intro c e;subst e;trivial
theorem HC{o:Op}{v:AV}{E:List (List AV)}(hk:QF P env h n o v E):∀c,o≠.defer c:=by
 intro c e;subst e
 rcases hk with ⟨c,h1,_⟩|⟨f,args,tys,g,b8,pvs,res,fr,h1,_⟩
 .trivial
 .cases h1
theorem vM{fk:Fk}(w0:Ctx fk)(o:Oper){nt:Nat}{K:AV->bD->Nat->Prop}(hk:dA P env h n o.op K)(hs:Sim B w0 ⟨env,h,n,nt⟩ a w m)(ig:dOk nt o.dst)(Q:Exit->Act->World->Prop)(K':Act->World->Prop)(hK:∀v h' n' a' w' m',K v h' n'->Sim B w0 ⟨put env o.dst v,h',n',nt⟩ a' w' m'->K' a' w'):o.wpt P a w K' Q:=by
 refine En o hk hs.ok hs.heap hs.room (λi hi hd=>by have:=(hs.dom i).1 hd;grind) hs.ids (λx _=>mY x (λt _=>hs.env t)) Q K' ?_
 rintro v v' h' n' w' m' aw ⟨e1,e2,e3,e4,e5,e6,e7⟩ hn ft
 refine hK v h' n' _ w' m' aw ⟨hs.base,hs.below.trans e3,by rw[lj];exact hs.defers,by rw[lh];exact hs.size,?_,e4,λi=>?_,ft,hs.fr.mono e1 e5 e6 hn⟩
 .exact nO env a o.dst v v' (by rw[hs.size];exact ig) e7 (λt=>(hs.env t).mono e1 e5 e6)
 .rw[e2,hs.dom]
  grind
end
end Go.Fi
