/- Lemmas. -/
import Derived.Test.YthpkmilhiganjaaGreatPLa
import Derived.Lib.ConvBytes
import Derived.TacticsIn
import Derived.OrdersIn
import Derived.RangeFuncRecord
import Derived.RangeFuncCalls
set_option linter.all false
set_option maxHeartbeats 32000000
set_option maxRecDepth 100000
namespace Go.Fi
open Go Go.RowKit
variable[bI]
section
omit [bI]
variable{P:Program}{B:Base}{m:Mm}{w w':World}{H h:bE}{n:Nat}{env:Env}{a:Act}{L:Nat->Prop}
theorem wA{w w':World}{p:PV}(hf:flat p=true){G G':Nat->Prop}{v:Value}(h:Rep G w p v):Rep G' w' p v:=by
 cases h<;>first
  |exact .undef _
  |exact .jQ _
  |exact .bool _
  |exact .int _ _
  |exact .str _
  |exact .gX
  |exact .lL
  |(cases hf;done)
theorem FG:∀{l:List PV},jA l=true->∀(j:Nat)(x:PV),l[j]?=some x->flat x=true
 |[],_,j,x,h=>by simp at h
 |y::l,hp,j,x,h=>by
  simp only[jA,eY] at hp
  cases j with
  |zero=>simp_all
  |succ j=>exact FG hp.2 j x av
theorem FH:∀{l:List AV}{q:List PV},pvs l=some q->l.length=q.length/\∀(j:Nat)(p:PV),q[j]?=some p->∃o f,l[j]?=some (.w o f p)
 |[],q,h=>by injection h with h;simp_all
 |x::l,q,h=>by
  cases x with
  |w o f p=>
   simp only[pvs] at h;split at h
   .rename_i q' hq;cases h;obtain⟨h1,h2⟩:=FH hq
    grind
   .cases h
  |_=>simp[pvs] at h
theorem og(sz k:Nat)(a0:Option Addr)(cap:Nat)(us:List Value)(hl:us.length=k*sz)(h0:a0=none->k*sz=0)(hc:∀ad,a0=some ad->∀j u,us[j]?=some u->w.cell? (ad.add j)=some u):(Builtin.firstCells sz k (.slice a0 k cap)).run P w=.ok us.toArray w:=by
 cases a0 with
 |none=>
  have:us=[]:=ja (by rw[hl,h0 rfl]);subst this;rfl
 |some ad=>
  have:=run_loadCells_list (P:=P) w ad us (hc ad rfl);rw[hl] at this;trivial
theorem wB{sz k:Nat}{x:AV}{v:Value}{news:List AV}{c:Prop}(h0:iN h sz x=some (k,news,c))(hc:c)(hs:cX B H m w)(a5:∀id cs,cJ h id=some cs->(id,cs)∈H)(hx:bJ B (LB m H) m w x v):∃(ax:Option Addr)(cx:Nat)(us:List Value),v=.slice ax k cx/\us.length=k*sz/\news.length=k*sz/\(∀ee,ee.heap=w.heap->(Builtin.firstCells sz k v).run P ee=.ok us.toArray ee)/\∀(j:Nat)(p:AV)(u:Value),news[j]?=some p->us[j]?=some u->bJ B (LB m H) m w p u:=by
 unfold iN at h0;split at h0
 .rename_i id ver z off k';split at h0
  .rename_i cells hg;simp only[db,dC] at h0;obtain⟨rfl,rfl,rfl⟩:=h0;obtain⟨c1,c2,c3⟩:=hc;subst c2;obtain⟨ax,cx,rfl,hk,hd,_,h3,h4⟩:=hx.mJ;rw[vX]
   have hlen:((cells.drop off).take (k'*z)).length=k'*z:=ar
   rw[<-c1] at h3 h4
   cases ha:m.addr id cells.length with
   |none=>
    obtain⟨rfl,h5⟩:=h3 ha
    have di:k'=0:=ab
    subst di;exact⟨ax,0,[],rfl,ae,hlen,λee _=>og z 0 ax 0 [] ae (λ_=>ae) (λ_ _ j u hj=>by simp at hj),λj p u hp hu=>by simp at hu⟩
   |some bc=>
    obtain⟨b,C⟩:=bc;obtain⟨h5,h6,h7⟩:=h4 b C ha;obtain⟨cs,e,hh,hC,hle,_,a6⟩:=hs.read (a5 id cells hg) hd ha ab
    have hin:∀j,j<k'*z->off+j<cs.size:=by intro j hj;omega
    refine⟨ax,cx,(List.range (k'*z)).map (λj=>cs.getD (off+j) undef),rfl,ae,hlen,λee hw=>?_,λj p u hp hu=>?_⟩
    .refine og z k' ax cx _ ae (λe=>?_) (λad e j u hj=>?_)
     .rcases ll cx with h|h
      .have:k'=0:=ab
       simp[this]
      .rw[h5 h] at e;cases e
     .obtain⟨y,hy,rfl⟩:=fX hj;obtain⟨b6,rfl⟩:=eX.1 hy;simp only[rz] at b6;simp only[tG]
      have fp:0<cx:=by
       rcases ll cx with h|h
       .have:k'=0:=ab
        rw[this] at b6;simp at b6
       .exact h
      rw[h5 fp] at e;injection e with e;subst e
      rw[Addr.jT,oe (by rw[hw];exact hh)];simp[hin j b6]
    .obtain⟨y,hy,rfl⟩:=fX hu;obtain⟨b6,rfl⟩:=eX.1 hy;simp only[rz] at b6;simp only[tG];rw[j5] at hp;rw[b8 b6,yB] at hp;exact a6 _ p _ hp (by simp[hin j b6])
  .cases h0
 .rename_i own f k' cells;simp only[db,dC] at h0;obtain⟨rfl,rfl,rfl⟩:=h0;obtain⟨ax,cx,rfl,hk,_,h1,h2⟩:=hx.oF
  cases d8:cells with
  |nil=>
   have cj:k'*sz=0:=by rw[<-hc,d8];rfl
   exact⟨ax,cx,[],rfl,cj.symm,by simp[cj],λee _=>og sz k' ax cx [] cj.symm (λ_=>cj) (λ_ _ j u hj=>by simp at hj),λj p u hp hu=>by simp at hu⟩
  |cons y ys=>
   obtain⟨b,off,vals,rfl,h3,h4,h5⟩:=h2 (by rw[d8];simp);rw[<-d8];refine⟨_,cx,(List.range cells.length).map vals,rfl,by simp[hc],by simp[hc],λee hw=>?_,λj p u hp hu=>?_⟩
   .refine og sz k' _ cx _ (by simp[hc]) (λe=>by cases e) (λad e j u hj=>?_)
    injection e with e;subst e
    obtain⟨y',hy,rfl⟩:=fX hj;obtain⟨b6,rfl⟩:=eX.1 hy;simp only[rz] at b6;simp only[tG];rw[Addr.jT];have:=h3 j b6;simpa[World.cell?,hw] using this
   .obtain⟨q,hq,rfl⟩:=fX hp;obtain⟨y',hy,rfl⟩:=fX hu;obtain⟨b6,rfl⟩:=eX.1 hy;simp only[tG];exact .w (h5 j q hq) (λh=>au)
 .cases h0
theorem zY{t tx e ex sz:Nat}{i:TypeInfo}(ht:P.underlying t=some (.slice e))(bj:P.underlying tx=some (.slice ex))(hi:P.info? e=some i)(hz:i.size=sz)(ty:TypeId)(a0:Option Addr)(k cap k2:Nat)(x:Value)(ax:Option Addr)(cx:Nat)(hx:x=.slice ax k2 cx)(us:List Value)(hn:(Builtin.firstCells sz k2 x).run P w=.ok us.toArray w)(bh:k+k2<=cap)(w2:World)(d7:∀ad,a0=some ad->(storeCells (ad.add (k*sz)) us).run P w=.ok () w2)(g9:a0=none->w2=w):(Builtin.append_ #[t,tx] ty #[.slice a0 k cap,x]).run P w=.ok (.slice a0 (k+k2) cap) w2:=by
 subst hx
 cases a0 with
 |none=>
  have:=g9 rfl;subst this;simp[Builtin.append_,run_underlying ht,run_underlying bj,sizeOf,typeInfo,hi,hz,Builtin.lenOf,bh,hn]
 |some ad=>
  have:=d7 ad rfl;simp[Builtin.append_,run_underlying ht,run_underlying bj,sizeOf,typeInfo,hi,hz,Builtin.lenOf,bh,hn,this]
theorem zZ{t tx e ex sz:Nat}{i:TypeInfo}{z:Value}(ht:P.underlying t=some (.slice e))(bj:P.underlying tx=some (.slice ex))(hi:P.info? e=some i)(hz:i.size=sz)(hzero:i.zero=some z)(ty:TypeId)(a0:Option Addr)(k cap k2:Nat)(x:Value)(ax:Option Addr)(cx:Nat)(hx:x=.slice ax k2 cx)(us os:List Value)(hn:(Builtin.firstCells sz k2 x).run P w.drew=.ok us.toArray w.drew)(ho:(Builtin.firstCells sz k (.slice a0 k cap)).run P w.drew=.ok os.toArray w.drew)(bh:¬k+k2<=cap)(h1:k+k2<=1000000000)(bl:i.bytes<=100000):∃nc rest,k+k2<=nc/\rest.size=(nc-(k+k2))*z.cells.size/\(Builtin.append_ #[t,tx] ty #[.slice a0 k cap,x]).run P w=.ok (.slice (some ⟨w.heap.size,0,none⟩) (k+k2) nc) (w.drew.alloc (.cells (os.toArray++us.toArray++rest) e)):=by
 subst hx
 have hb:=growslice_fits (need:=k+k2) (old:=cap) (bytes:=i.bytes) ab (by
  have:(k+k2)*i.bytes<=1000000000*100000:=JQ h1 bl
  omega)
 have fe:¬(9223372036854775807<((k:Int)+(k2:Int))):=ab
 have fd:¬(281474976710656<Builtin.nextslicecap (k+k2) cap*i.bytes):=ab
 refine⟨grownCap w (k+k2) cap e,Builtin.zeroCells z.cells (grownCap w (k+k2) cap e-(k+k2)),grownCap_ge w _ _ e,size_zeroCells _ _,?_⟩;simp[Builtin.append_,run_underlying ht,run_underlying bj,sizeOf,typeInfo,zeroValue,hi,hz,hzero,Builtin.lenOf,bh,fe,fd,Question.forced,hn,ho,newRow,grownCap]
 grind
theorem cX.below(hs:cX B H m w){w':World}(hb:Bel w.heap.size w w'):cX B H m w':=by
 refine⟨λid cells hin hd=>?_,hs.inj⟩;obtain⟨ht,fq⟩:=hs.entry id cells hin hd;refine⟨ht,?_⟩
 rcases fq with h|⟨b,C,cs,e,h1,h2,h3,h4,h5,h6⟩|⟨b,es,clk,h1,h2,h3,h4,h5⟩
 .exact .inl h
 .exact .inr (.inl ⟨b,C,cs,e,h1,(hb.block b (fj hs ⟨id,cells,C,hin,hd,h1⟩)).trans h2,h3,h4,h5,λj p v hp hv=>(h6 j p v hp hv).mono (Mm.le.refl m) (λ_ _ h=>h) (λb bu _=>hb.block b bu)⟩)
 .exact .inr (.inr ⟨b,es,clk,h1,h2,(hb.block b (fj hs ⟨id,cells,0,hin,hd,h1⟩)).trans h3,h4,h5⟩)
theorem FI(hs:cX B H m w)(a5:∀id cs,cJ h id=some cs->(id,cs)∈H)(hB:B.n<=w.heap.size){t tx e sz:Nat}{ex:TypeId×Nat}{by_:Nat}{z:List AV}(ht:slE P t=some (e,sz))(bj:slE P tx=some ex)(bl:byE P e=some by_)(hz:fw P e=some z){x s:Value}{xa:AV}{k2:Nat}{news:List AV}{c:Prop}(aq:iN h sz xa=some (k2,news,c))(hc:c)(hx:bJ B (LB m H) m w xa x){q:List PV}(hq:pvs news=some q){own:Bool}{k:Nat}{cells:List PV}(dr:bJ B (LB m H) m w (.w own true (.sl k cells)) s)(c1:cells.length=k*sz)(c3:z.length=sz)(c6:k+k2<=1000000000)(c7:by_<=100000)(ty:TypeId):∃v' w',(Builtin.append_ #[t,tx] ty #[s,x]).run P w=.ok v' w'/\Bel w.heap.size w w'/\cX B H m w'/\bJ B (LB m H) m w' (.w (jA q&&(own || cells.isEmpty)) false (.sl (k+k2) (cells++q))) v':=by
 obtain⟨bf,i,hi,br⟩:=ky ht;obtain⟨bk,_⟩:=ky (e:=ex.1) (z:=ex.2) bj;obtain⟨iz,vz,df,hzero,rfl⟩:=qx hz;rw[hi] at df;cases df
 have cf:i.bytes<=100000:=by
  have:i.bytes=by_:=by simpa[byE,hi] using bl
  omega
 obtain⟨ax,cx,us,rfl,bz,co,ag,d3⟩:=wB aq hc hs a5 hx;obtain⟨a0,cap,rfl,hk,cg,gy,e8⟩:=dr.oF;have b9:=cg rfl;subst b9;obtain⟨ge,j4⟩:=FH hq
 have i3:vz.cells.size=sz:=by rw[<-c3];simp
 have en:∀(w2:World)(j:Nat)(p:PV)(u:Value),q[j]?=some p->us[j]?=some u->(∀b,b<w.heap.size->¬LB m H b->w2.heap[b]?=w.heap[b]?)->Rep (Good B (LB m H) (jA q&&(own || cells.isEmpty))) w2 p u:=by
  intro w2 j p u hp hu je;obtain⟨o,f,hn⟩:=j4 j p hp;have:=d3 j _ u hn hu
  cases this with
  |w hr _=>
   cases ie:jA q with
   |true=>exact wA (FG ie j p hp) hr
   |false=>exact hr.mono (λb _ hg=>⟨hg.1,(λh=>by simp at h),hg.2.2⟩) (λb hb hg=>je b hb hg.1)
 by_cases g3:k2=0
 .subst g3;have f9:us=[]:=ja ab;have j6:q=[]:=ja (by rw[<-ge,co];simp);subst f9;subst j6;refine⟨_,w,zY bf bk hi br ty a0 k k 0 _ ax cx rfl [] (ag w rfl) ab w (λad _=>rfl) (λ_=>rfl),Bel.refl _ _,hs,?_⟩;simp only[JR,m8,jA,fQ];refine .w ?_ nofun
  cases dr with
  |w hr _=>
   cases ef:cells with
   |nil=>
    rw[ef] at hr
    cases hr with
    |slnil=>exact .slnil
    |sl vals h1 h2 h3 h4=>exact .slz h1
    |slz h1=>exact .slz h1
   |cons y ys=>
    rw[ef] at hr
    grind
 .obtain⟨os,j2,bd,i0⟩:∃os:List Value,os.length=k*sz/\(Builtin.firstCells sz k (.slice a0 k k)).run P w.drew=.ok os.toArray w.drew/\∀(j:Nat)(p:PV)(v:Value),cells[j]?=some p->os[j]?=some v->Rep (Good B (LB m H) own) w p v:=by
   cases ef:cells with
   |nil=>
    have cj:k*sz=0:=by rw[<-c1,ef];rfl
    exact⟨[],cj.symm,og sz k a0 k [] cj.symm (λ_=>cj) (λ_ _ j u hj=>by simp at hj),λj p v hp=>by simp at hp⟩
   |cons y ys=>
    obtain⟨b,off,vals,rfl,h3,h4,h5⟩:=e8 (by rw[ef];simp);rw[<-ef];refine⟨(List.range cells.length).map vals,by simp[c1],og sz k _ k _ (by simp[c1]) nofun (λad e j u hj=>?_),λj p v hp hv=>?_⟩
    .cases e;obtain⟨y',hy,rfl⟩:=fX hj;obtain⟨b6,rfl⟩:=eX.1 hy;simp only[rz] at b6;simp only[tG];rw[Addr.jT];exact h3 j b6
    grind
  obtain⟨nc,rest,d',cq,a4⟩:=zZ bf bk hi br hzero ty a0 k k k2 _ ax cx rfl us os (ag w.drew rfl) bd ab c6 cf;have aw:(k+k2)*sz=k*sz+k2*sz:=iY _ _ _;refine⟨_,_,a4,⟨rfl,rfl,by rw[zS];simp,λb hb=>jL w.drew _ hb⟩,hs.below ⟨rfl,rfl,by rw[zS];simp,λb hb=>jL w.drew _ hb⟩,.w ?_ nofun⟩;have bb:=wq w.drew (.cells (os.toArray++us.toArray++rest) e)
  have a6:∀j,j<os.length+us.length->(w.drew.alloc (.cells (os.toArray++us.toArray++rest) e)).cell? ⟨w.heap.size,0+j,none⟩=some ((os++us).getD j undef):=by
   intro j hj;rw[eI,oe (b:=w.heap.size) bb];rw[yG,b8 (by simpa using hj)];simp_all
  refine .sl (b:=w.heap.size) (off:=0) (λj=>(os++us).getD j undef) d' (λj hj=>a6 j ?_) (λ_=>⟨λhl=>?_,λ_=>hB,λhl=>?_⟩) (λj p hp=>?_)
  .have j7:q.length=us.length:=by rw[<-ge,co,bz]
   have:j<cells.length+q.length:=ak
   omega
  .have:=fj hs hl;omega
  .omega
  .rw[List.getElem?_append] at hp;split at hp
   .rename_i hj
    have dg:j<os.length:=ab
    have hv:(os++us).getD j undef=os[j]:=ak
    rw[hv];have hr:=i0 j p _ hp (dP dg);refine hr.mono (λb _ hg=>⟨hg.1,λhf=>?_,hg.2.2⟩) (λb hb hg=>jL w.drew _ hb)
    cases own with
    |true=>exact hg.2.1 rfl
    |false=>
     have b7:cells≠[]:=by rintro rfl;simp at hj
     have:cells.isEmpty=false:=by cases cells<;>simp_all
     simp_all
   .rename_i hj;have jt:j-cells.length<q.length:=(eX.1 hp).1
    have io:j-os.length<us.length:=by
     have j7:q.length=us.length:=by rw[<-ge,co,bz]
     omega
    have hv:(os++us).getD j undef=us[j-os.length]:=ak
    rw[hv]
    have e1:j-cells.length=j-os.length:=ab
    rw[e1] at hp;exact en _ (j-os.length) p _ hp (dP io) (λb hb _=>jL w.drew _ hb)
theorem MJ(args:Array Operand)(tys:Array TypeId)(o:Oper)(ho:o.op=.call { callee:=.builtin .append,args:=args,argTypes:=tys }){c:Prop}{v:AV}{E:List (List AV)}(h0:aOp P h n (ev env) (.call { callee:=.builtin .append,args:=args,argTypes:=tys })=some (c,v,E))(hc:c)(hs:cX B H m w)(hB:B.n<=w.heap.size)(a5:∀id cs,cJ h id=some cs->(id,cs)∈H)(a9:∀x∈args.toList,bJ B (LB m H) m w (ev env x) (a.eval x)):QOk P B H m w n E.length (execOp a.eval o) v:=by
 simp only[aOp] at h0
 match hA:args.toList,hT:tys.toList with
 |[s,x],[t,tx]=>
  rw[hA,hT] at h0;simp only[oU,yH,Cp,Co] at h0;split at h0
  .rename_i e sz _ ht bj;split at h0
   .rename_i by_ z k2 news c0 bl hz aq;split at h0
    .rename_i own k cells es;split at h0
     .rename_i q hq;cases h0;obtain⟨i4,c1,c3,_,c6,c7⟩:=hc;have h1:=a9 s (by rw[hA];simp);have h2:=a9 x (by rw[hA];simp);rw[es] at h1;obtain⟨v',w',a4,hb,ej,hv⟩:=FI hs a5 hB ht bj bl hz aq i4 h2 hq h1 c1 c3 c6 c7 o.type;refine⟨v',w',m,?_,Mm.le.refl m,λi=>⟨.inl,λh=>h.elim id λh=>ak⟩,hb,ej,λb hb=>.inl hb,hv⟩
      have ha:args=#[s,x]:=by rw[<-oT (xs:=args),hA]
      have f8:tys=#[t,tx]:=by rw[<-oT (xs:=tys),hT]
      subst ha f8;simp[execOp,ho,resolve,invoke,builtin,a4]
     .cases h0
    .cases h0
   .cases h0
  .cases h0
 |[],_=>rw[hA] at h0;trivial
 |[_],_=>rw[hA] at h0;trivial
 |_::_::_::_,_=>rw[hA] at h0;trivial
 |[_,_],[]=>rw[hA,hT] at h0;trivial
 |[_,_],[_]=>rw[hA,hT] at h0;trivial
 |[_,_],_::_::_::_=>rw[hA,hT] at h0;trivial
end
section
variable{P:Program}{B:Base}{m:Mm}{w:World}{H h:bE}{n:Nat}{env:Env}{a:Act}{L:Nat->Prop}
omit [bI] in
theorem fZ{r:Sem Next}{v:AV}{E:List (List AV)}(hs:cX B H m w)(hv:E=[]/\fT P B H m w r v):QOk P B H m w n E.length r v:=by
 obtain⟨rfl,hv⟩:=hv;exact hv.q hs
omit [bI] in
theorem MK(o:Oper){c:Prop}{v:AV}{E:List (List AV)}(h0:aOp P h n (ev env) o.op=some (c,v,E))(hc:c)(hs:cX B H m w)(hB:B.n<=w.heap.size)(a5:∀id cs,cJ h id=some cs->(id,cs)∈H)(hE:∀k cs,E[k]?=some cs->(n+k,cs)∈H)(ao:∀k,k<E.length->¬m.dom (n+k))(hx:∀x,x∈o.op.operands->bJ B (LB m H) m w (ev env x) (a.eval x)):QOk P B H m w n E.length (execOp a.eval o) v:=by
 cases ho:o.op with
 |move x=>
  rw[ho] at h0 hx;simp only[aOp,db,dC] at h0;obtain⟨rfl,rfl,rfl⟩:=h0;exact fZ hs ⟨rfl,_,by simp[execOp,ho],hx x aA⟩
 |assign x=>
  rw[ho] at h0 hx;simp only[aOp,db,dC] at h0;obtain⟨rfl,rfl,rfl⟩:=h0;exact fZ hs ⟨rfl,_,by simp[execOp,ho],hx x aA⟩
 |pick x y z=>rw[ho] at h0 hx;exact fZ hs (Mc x y z o ho h0 (hx x aA) (hx y aA) (hx z aA))
 |alloc t=>rw[ho] at h0;exact MA t o ho h0 hs hB hE ao
 |box t x=>rw[ho] at h0 hx;exact MB t x o ho h0 hc hs hB hE ao (hx x aA)
 |build t ps=>rw[ho] at h0 hx;exact fZ hs (Mz t ps o ho h0 (λx hm=>hx x (by simpa[Op.operands] using hm)))
 |buildSlice t l ps=>rw[ho] at h0 hx;exact MD t l ps o ho h0 hc hs hB hE ao (λx hm=>hx x (by simpa[Op.operands] using hm))
 |load t x=>rw[ho] at h0 hx;exact fZ hs (Fu t x o ho h0 hc hs a5 (hx x aA))
 |nilCheck x=>rw[ho] at h0 hx;exact fZ hs (Mr x o ho h0 (hx x aA))
 |binOp op t x y yt=>
  rw[ho] at h0 hx;have h1:=hx x aA;have h2:=hx y aA;simp only[aOp] at h0;split at h0
  .rename_i k hk;split at h0
   .rename_i r hr;split at h0
    .cases h0;exact fZ hs ⟨rfl,Fs .eql (.inl rfl) t x y yt hk hr h1 h2 hc.1 hc.2 o ho⟩
    .cases h0;exact fZ hs ⟨rfl,Fs .neq (.inr rfl) t x y yt hk hr h1 h2 hc.1 hc.2 o ho⟩
    .cases h0
   .cases h0
  .split at h0
   .rename_i ox fx p oy fy q ex ey;split at h0
    .rename_i c' v' hb;cases h0;exact fZ hs ⟨rfl,L9 op t x y yt ex ey hb hc h1 h2 o ho⟩
    .cases h0
   .cases h0
 |unOp op t x=>rw[ho] at h0 hx;exact fZ hs (Rg op t x o ho h0 hc (hx x aA))
 |convert s d x=>rw[ho] at h0 hx;exact fZ hs (Mb s d x o ho h0 hc (hx x aA))
 |makeInterface t x=>rw[ho] at h0 hx;exact fZ hs (Ma t x o ho h0 (hx x aA))
 |makeFunc f fs cs=>rw[ho] at h0 hx;exact fZ hs (Ms f fs cs o ho h0 (λx hm=>hx x (by simp[Op.operands,rC.1 hm])))
 |makeSlice t x y=>rw[ho] at h0 hx;exact ME t x y o ho h0 hc hs hB hE ao (hx x aA) (hx y aA)
 |slice t x lo hi mx=>
  rw[ho] at h0 hx;exact fZ hs (Mv t x lo hi mx o ho h0 hc (hx x aA) (λy e=>hx y (by simp[Op.operands,e])) (λy e=>hx y (by simp[Op.operands,e])) (λy e=>hx y (by simp[Op.operands,e])))
 |fieldAddr s x f=>rw[ho] at h0 hx;exact fZ hs (Md s x f o ho h0 (hx x aA))
 |field s x f=>rw[ho] at h0 hx;exact fZ hs (Mh s x f o ho h0 hc (hx x aA))
 |indexAddr t x i=>rw[ho] at h0 hx;exact fZ hs (Mj t x i o ho h0 hc (hx x aA) (hx i aA))
 |index t x i=>rw[ho] at h0 hx;exact fZ hs (Ml t x i o ho h0 hc (hx x aA) (hx i aA))
 |lookup t x k c0=>rw[ho] at h0 hx;exact fZ hs (MH t x k c0 o ho h0 hc hs a5 (hx x aA) (hx k aA))
 |extract x i=>rw[ho] at h0 hx;exact fZ hs (Mn x i o ho h0 (hx x aA))
 |call cl=>
  rw[ho] at h0 hx;obtain⟨callee,args,tys⟩:=cl
  cases callee with
  |builtin b=>
   have a9:∀x∈args.toList,bJ B (LB m H) m w (ev env x) (a.eval x):=λx hm=>hx x (by simp[Op.operands,Call.operands,rC.1 hm])
   cases b with
   |len=>exact fZ hs (Mo args tys o ho h0 a9)
   |max=>exact fZ hs (Mp args tys o ho h0 a9)
   |min=>exact fZ hs (Mq args tys o ho h0 a9)
   |append=>exact MJ args tys o ho h0 hc hs hB a5 a9
   |_=>simp[aOp] at h0
  |_=>simp[aOp] at h0
 |_=>rw[ho] at h0;simp[aOp] at h0
end
def se(P:Program)(f:FuncId):Prop:=∃fn,P.funcs[f]?=some fn/\(fn.name == "runtime.NumGoroutine")=false/\fn.body.isNone=false
def bX(P:Program)(f:FuncId)(args:List PV)(res:PV)(fr:Bool):Prop:=
 se P f/\∀(G:Nat->Prop)(w:World)(vs:Array Value),bI.ok w->args.length=vs.size->(∀(j:Nat)(p:PV)(v:Value),args[j]?=some p->vs[j]?=some v->Rep G w p v) ->
  iw P f vs w λe w'=>∃v,e=.returned v/\Bel w.heap.size w w'/\Rep (λb=>(b<w.heap.size->G b)/\(fr=true->w.heap.size<=b)) w' res v
def isW:AV->Bool
 |.w _ _ _=>true
 |_=>false
def si:List AV->Bool
 |[]=>true
 |x::r=>isW x&&si r
def xP:AV->Bool
 |.w _ _ _=>true
 |.agg cs=>si cs
 |.fn _ cs=>si cs
 |_=>false
def nJ:List AV->Bool
 |[]=>true
 |x::r=>xP x&&nJ r
section
variable{P:Program}{B:Base}{m:Mm}{w:World}{H h:bE}{n:Nat}{env:Env}{a:Act}{L:Nat->Prop}
omit [bI] in
theorem kD{α β:Type}{f:α->Option β}:∀{l:List α}{r:List β},l.mapM f=some r->l.length=r.length/\∀(j:Nat)(y:β),r[j]?=some y->∃x,l[j]?=some x/\f x=some y
 |[],r,h=>by simp_all
 |x::l,r,h=>by
  simp only[yx] at h
  cases hx:f x with
  |none=>grind
  |some y=>
   simp only[hx,Option.bind_eq_bind,lj] at h
   cases hr:l.mapM f with
   |none=>grind
   |some r'=>
    simp only[hr,lj] at h;cases h;obtain⟨h1,h2⟩:=kD hr
    grind
def fO(h:bE):Nat->AV->Bool
 |_,.w own _ p=>own || flat p
 |0,_=>false
 |d+1,.ptr id _ _=>match cJ h id with
  |some cells=>cells.all (fO h d)
  |none=>false
 |d+1,.msl id _ _ _ _=>match cJ h id with
  |some cells=>cells.all (fO h d)
  |none=>false
 |d+1,.agg cs=>cs.all (fO h d)
 |d+1,.tup cs=>cs.all (fO h d)
 |d+1,.fn _ c=>c.all (fO h d)
 |_+1,.mp _=>false
omit [bI] in
theorem oh(hs:cX B H m w)(a5:∀id cs,cJ h id=some cs->(id,cs)∈H){G':Nat->Prop}(fr:Bool)(hG1:∀b,B.n<=b->G' b)(hG2:fr=false->∀b,Good B (LB m H) false b->G' b):∀(d:Nat)(x:AV)(p:PV)(v:Value),frz h d x=some p->(fr=true->fO h d x=true)->bJ B (LB m H) m w x v->Rep G' w p v
 |d,.w o f q,p,v,hf,b5,hr=>by
  have:q=p:=by cases d<;>(simp[frz] at hf;exact hf)
  subst this
  cases hr with
  |w hr _=>
   cases ei:fr with
   |false=>exact hr.imp λb hg=>hG2 ei b ⟨hg.1,nofun,hg.2.2⟩
   |true=>
    have h1:=b5 ei
    have h2:(o || flat q)=true:=by cases d<;>exact h1
    cases o with
    |true=>exact hr.imp λb hg=>hG1 b (hg.2.1 rfl)
    |false=>exact wA ak hr
 |0,.ptr ..,_,_,hf,_,_=>by trivial
 |0,.msl ..,_,_,hf,_,_=>by trivial
 |0,.agg _,_,_,hf,_,_=>by trivial
 |0,.tup _,_,_,hf,_,_=>by trivial
 |0,.fn _ _,_,_,hf,_,_=>by trivial
 |0,.mp _,_,_,hf,_,_=>by trivial
 |_+1,.mp _,_,_,hf,_,_=>by trivial
 |d+1,.ptr id ver off,p,v,hf,b5,hr=>by
  simp only[frz] at hf;split at hf
  .rename_i cells hg;split at hf
   .rename_i d4
    cases hm:cells.mapM (frz h d) with
    |none=>grind
    |some r=>
     simp only[hm,eh,db] at hf;subst hf;obtain⟨h1,h2⟩:=kD hm;obtain⟨b,C,rfl,hd,hvC,ha⟩:=hr.pF;rw[<-d4] at ha hvC;obtain⟨cs,e,hh,hC,hle,hbB,a6⟩:=hs.read (a5 id cells hg) hd ha hvC.2
     have:=Rep.ip (G:=G') (w:=w) (o:=off) (b:=b) (off:=0) (cells:=r) (λj=>cs.getD j undef) (λj hj=>by
      have:j<cs.size:=ab
      rw[eI,oe hh];simp[this]) (λ_=>hG1 b hbB) (λj q hq=>by
      obtain⟨x,hx,da⟩:=h2 j q hq
      have hj:j<cs.size:=by have:=(eX.1 hx).1;omega
      exact oh hs a5 fr hG1 hG2 d x q _ da (λe=>by have:=b5 e;simp only[fO,hg] at this;grind) (a6 j x _ hx (by simp[hj])))
     rw[eI] at this;exact this
   .cases hf
  .cases hf
 |d+1,.msl id ver sz off k,p,v,hf,b5,hr=>by
  simp only[frz] at hf;split at hf
  .rename_i cells hg;split at hf
   .rename_i d4
    cases hm:cells.mapM (frz h d) with
    |none=>grind
    |some r=>
     simp only[hm,eh,db,vX] at hf;subst hf;obtain⟨h1,h2⟩:=kD hm;obtain⟨a0,cap,rfl,hk,hd,_,h3,h4⟩:=hr.mJ;rw[<-d4] at h3 h4
     cases ha:m.addr id cells.length with
     |none=>
      obtain⟨rfl,h5⟩:=h3 ha;have j8:r=[]:=ja ab;subst j8
      have:k=0:=ab
      subst this
      cases a0 with
      |none=>simpa using Rep.slnil
      |some a1=>simpa using Rep.slz (bS _)
     |some bc=>
      obtain⟨b,C⟩:=bc;obtain⟨h5,h6,h7⟩:=h4 b C ha;obtain⟨cs,e,hh,hC,hle,hbB,a6⟩:=hs.read (a5 id cells hg) hd ha ab
      cases hL:(r.drop off).take (k*sz) with
      |nil=>
       cases a0 with
       |none=>
        have b9:cap=0:=by
         simp_all
        subst b9
        have:k=0:=ab
        subst this;exact .slnil
       |some a1=>exact .slz hk
      |cons x xs=>
       have b9:0<cap:=by
        rcases ll cap with h|h
        .have:k=0:=ab
         rw[this] at hL;simp at hL
        .exact h
       rw[h5 b9,<-hL];refine .sl (λj=>cs.getD (off+j) undef) hk (λj hj=>?_) (λ_=>hG1 b hbB) (λj q hq=>?_)
       .rw[lq,yE] at hj
        have:off+j<cs.size:=ab
        rw[oe hh];simp[this]
       .rw[j5] at hq;split at hq
        .rw[yB] at hq;obtain⟨x,hx,da⟩:=h2 _ q hq
         have hj:off+j<cs.size:=by have:=(eX.1 hx).1;omega
         exact oh hs a5 fr hG1 hG2 d x q _ da (λe=>by have:=b5 e;simp only[fO,hg] at this;grind) (a6 _ x _ hx (by simp[hj]))
        .cases hq
   .cases hf
  .cases hf
 |d+1,.agg cs,p,v,hf,b5,hr=>by
  simp only[frz] at hf
  cases hm:cs.mapM (frz h d) with
  |none=>grind
  |some r=>
   simp only[hm,eh,db] at hf;subst hf;obtain⟨h1,h2⟩:=kD hm;obtain⟨vs,rfl,hl,hc⟩:=hr.Ip
   exact .agg ab (λj q u hq hu=>by
    obtain⟨x,hx,da⟩:=h2 j q hq
    exact oh hs a5 fr hG1 hG2 d x q u da (λe=>by have:=b5 e;simp only[fO] at this;grind) (hc j x u hx hu))
 |d+1,.tup cs,p,v,hf,b5,hr=>by
  simp only[frz] at hf
  cases hm:cs.mapM (frz h d) with
  |none=>grind
  |some r=>
   simp only[hm,eh,db] at hf;subst hf;obtain⟨h1,h2⟩:=kD hm;obtain⟨vs,rfl,hl,hc⟩:=hr.xN
   exact .tup ab (λj q u hq hu=>by
    obtain⟨x,hx,da⟩:=h2 j q hq
    exact oh hs a5 fr hG1 hG2 d x q u da (λe=>by have:=b5 e;simp only[fO] at this;grind) (hc j x u hx hu))
 |d+1,.fn g cs,p,v,hf,b5,hr=>by
  simp only[frz] at hf
  cases hm:cs.mapM (frz h d) with
  |none=>grind
  |some r=>
   simp only[hm,eh,db] at hf;subst hf;obtain⟨h1,h2⟩:=kD hm
   cases hr with
   |fn hl hc=>
    exact .fn ab (λj q u hq hu=>by
     obtain⟨x,hx,da⟩:=h2 j q hq
     exact oh hs a5 fr hG1 hG2 d x q u da (λe=>by have:=b5 e;simp only[fO] at this;grind) (hc j x u hx hu))
end
def lM(h:bE):List AV->Option (List PV)
 |[]=>some []
 |x::r=>match frz h 6 x with
  |some p=>match lM h r with
   |some q=>some (p::q)
   |none=>none
  |none=>none
inductive Mark{α:Type}(a:α):Type where
 |it
def pG(fr:Bool)(p:PV):Bool:=fr && !flat p
def AV.sh(n:Nat):AV->AV
 |.w o f p=>.w o f p
 |.ptr id v off=>.ptr (id+n) v off
 |.msl id v sz off k=>.msl (id+n) v sz off k
 |.mp id=>.mp (id+n)
 |.agg cs=>.agg (shL n cs)
 |.tup cs=>.tup (shL n cs)
 |.fn f cs=>.fn f (shL n cs)
where shL (n:Nat):List AV->List AV
 |[]=>[]
 |x::r=>x.sh n::shL n r
def AV.frs:AV->Bool
 |.w o _ p=>o || flat p
 |.ptr _ _ _=>true
 |.msl _ _ _ _ _=>true
 |.mp _=>true
 |.agg cs=>mM cs
 |.tup cs=>mM cs
 |.fn _ cs=>mM cs
where mM:List AV->Bool
 |[]=>true
 |x::r=>x.frs&&mM r
section
omit [bI]
theorem FJ{n:Nat}{c:List AV}:jS (AV.sh.shL n c)=jS c:=by
 match c with
 |[]=>rfl
 |[x]=>cases x<;>simp[AV.sh.shL,AV.sh,jS]
 |x::y::r=>simp[AV.sh.shL,jS]
theorem ML{n:Nat}{c:List AV}{l:List (PV×PV)}(h:fN (AV.sh.shL n c)=some l):fN c=some l:=by
 match c with
 |[]=>trivial
 |[x]=>
  cases x with
  |w o f p=>trivial
  |_=>simp[AV.sh.shL,AV.sh,fN] at h
 |x::y::r=>simp[AV.sh.shL,fN] at h
theorem MM{n:Nat}{c:List AV}{l:List (PV×PV)}(h:fN c=some l):fN (AV.sh.shL n c)=some l:=by
 match c with
 |[]=>trivial
 |[x]=>
  cases x with
  |w o f p=>trivial
  |_=>simp[fN] at h
 |x::y::r=>simp[fN] at h
end
def cV(h:bE)(n:Nat):List (List AV)->bE
 |[]=>h
 |c::E=>(n,c)::cV h (n+1) E
def oG(P:Program)(f:FuncId)(args:List PV)(E:List (List AV))(v:AV):Prop:=
 se P f/\v.frs=true/\(∀c∈E,AV.frs.mM c=true)/\∀(G:Nat->Prop)(w:World)(vs:Array Value),bI.ok w->args.length=vs.size->(∀(j:Nat)(p:PV)(v:Value),args[j]?=some p->vs[j]?=some v->Rep G w p v) ->
  iw P f vs w λe w'=>∃u mm,e=.returned u/\Bel w.heap.size w w'/\(∀i,mm.dom i↔i<E.length)/\cX ⟨w.heap.size,G⟩ (cV [] 0 E) mm w'/\bJ ⟨w.heap.size,G⟩ (LB mm (cV [] 0 E)) mm w' v u
def CW(P:Program)(g:FuncId)(args:List PV)(K:PV->Bool->Prop)(K2:List (List AV)->AV->Prop)(_:Mark (K,K2)):Prop:=(∃res fr,bX P g args res fr/\K res fr)\/∃E v,oG P g args E v/\K2 E v
def uP(P:Program)(h:bE)(n:Nat)(g:FuncId)(args:List AV)(K:AV->List (List AV)->Prop):Prop:=
 match lM h args with
 |some pvs=>CW P g pvs (λres fr=>(fr=true\/nJ args=true)/\K (.w (pG fr res) false res) []) (λE v=>K (v.sh n) (E.map (AV.sh.shL n))) .it
 |none=>False
def ga:AV->Option (FuncId×List AV)
 |.fn g bY=>some (g,bY)
 |.w own _ (.fn g bY)=>some (g,bY.map (AV.w own false))
 |_=>none
def dk(P:Program)(env:Env)(h:bE)(n:Nat)(op:Op)(K:AV->List (List AV)->Prop):Prop:=
 match op with
 |.call { callee:=.value f,args:=args,argTypes:=_ } =>
  match ga (ev env f) with
  |some (g,bY)=>uP P h n g (args.toList.map (ev env)++bY) K
  |none=>False
 |op=>match aOp P h n (ev env) op with
  |some (c,v,E)=>c/\K v E
  |none=>False
def jg(B:Base)(H:bE)(m:Mm)(w:World)(n k:Nat)(v:AV)(v':Value)(w':World)(m':Mm):Prop:=
 m.le m'/\(∀i,m'.dom i↔m.dom i\/(n<=i/\i<n+k))/\Bel w.heap.size w w'/\cX B H m' w'/\(∀b,LB m' H b->LB m H b\/w.heap.size<=b)/\bJ B (LB m' H) m' w' v v'
omit [bI] in
theorem MN{fr:Bool}{p:PV}(h:pG fr p=true):fr=true:=by
 unfold pG at h;simp_all
section
variable{P:Program}{B:Base}{m:Mm}{w:World}{H h:bE}{n:Nat}{env:Env}{a:Act}{L:Nat->Prop}
section
omit [bI]
theorem z8:∀{l:List AV}{r:List PV},lM h l=some r->l.length=r.length/\∀(j:Nat)(p:PV),r[j]?=some p->∃x,l[j]?=some x/\frz h 6 x=some p
 |[],r,e=>by simp[lM] at e;simp_all
 |x::l,r,e=>by
  simp only[lM] at e;split at e
  .rename_i p hp;split at e
   .rename_i q hq;cases e;obtain⟨h1,h2⟩:=z8 hq
    grind
   .cases e
  .cases e
theorem FK:∀{l:List AV},nJ l=true->∀(j:Nat)(x:AV),l[j]?=some x->xP x=true
 |[],_,j,x,h=>by simp at h
 |y::l,hp,j,x,h=>by
  simp only[nJ,eY] at hp
  cases j with
  |zero=>simp_all
  |succ j=>exact FK hp.2 j x av
theorem Aa:∀{l:List AV},si l=true->∀(j:Nat)(x:AV),l[j]?=some x->isW x=true
 |[],_,j,x,h=>by simp at h
 |y::l,hp,j,x,h=>by
  simp only[si,eY] at hp
  cases j with
  |zero=>simp_all
  |succ j=>exact Aa hp.2 j x av
end
theorem MP(hO:bI.ok w)(hs:cX B H m w)(hB:B.n<=w.heap.size)(a5:∀id cs,cJ h id=some cs->(id,cs)∈H)(o:Oper)(f:Operand)(args:Array Operand)(tys:Array TypeId)(ho:o.op=.call { callee:=.value f,args:=args,argTypes:=tys })(hx:∀x,x∈o.op.operands->bJ B (LB m H) m w (ev env x) (a.eval x)){g:FuncId}{bY:List AV}(hf:ga (ev env f)=some (g,bY)){pvs:List PV}(hp:lM h (args.toList.map (ev env)++bY)=some pvs){res:PV}{fr:Bool}(hc:bX P g pvs res fr)(b5:fr=true\/nJ (args.toList.map (ev env)++bY)=true)(K:Act->World->Prop)(Q:Exit->Act->World->Prop)(hK:∀v' w' m',jg B H m w n 0 (.w (pG fr res) false res) v' w' m'->K (a.put o.dst v') w'):o.wpt P a w K Q:=by
 obtain⟨⟨fn,fz,er,el⟩,bn⟩:=hc;have bv:bJ B (LB m H) m w (ev env f) (a.eval f):=hx f aD
 have jk:∀x∈args.toList,bJ B (LB m H) m w (ev env x) (a.eval x):=λx hm=>hx x (by rw[ho];simp[Op.operands,Call.operands,rC.1 hm])
 have ei:∃cv:Array Value,a.eval f=.func (.func g) #[] cv/\bY.length=cv.size/\∀(j:Nat)(p:AV)(v:Value),bY[j]?=some p->cv[j]?=some v->bJ B (LB m H) m w p v:=by
  unfold ga at hf;split at hf
  .rename_i g' c9 e
   injection hf with hf;injection hf with h1 h2;subst h1;subst h2
   rw[e] at bv;generalize hv:a.eval f=vf at bv
   cases bv with|fn h1 h2=>grind
  .rename_i own f' g' c9 e
   injection hf with hf;injection hf with h1 h2;subst h1;subst h2
   rw[e] at bv;generalize hv:a.eval f=vf at bv
   cases bv with
   |w h1 _=>
    cases h1 with
    |fn h1 h2=>
     refine⟨_,rfl,ak,λj p v hp hv=>?_⟩;obtain⟨q,hq,rfl⟩:=fX hp;exact .w (h2 j q v hq hv) nofun
  .cases hf
 obtain⟨cv,ft,d8,i9⟩:=ei
 have fb:∀(j:Nat)(x:AV)(v:Value),(args.toList.map (ev env)++bY)[j]?=some x->(args.map a.eval++cv)[j]?=some v->bJ B (LB m H) m w x v:=by
  grind
 obtain⟨g4,fh⟩:=z8 hp
 have hlen:pvs.length=(args.map a.eval++cv).size:=by rw[<-g4];simp[d8]
 have a4:(execOp a.eval o).run P w=.ok (.enter g (args.map a.eval++cv)) w:=by
  have g5:¬fn.name = "runtime.NumGoroutine" := by simp_all
  have bu:¬fn.body=none:=ak
  simp[execOp,ho,resolve,ft,Deferred.ofValue,invoke,callFunc,fz,g5,bu]
 unfold Oper.wpt;rw[a4,Oper.xL]
 rcases b5 with b5|ew
 .subst b5
  refine (bn (λ_=>True) w _ hO hlen (λj p v hp hv=>by
   obtain⟨x,hx,d5⟩:=fh j p hp
   exact oh hs a5 false (λ_ _=>trivial) (λ_ _ _=>trivial) 6 x p v d5 nofun (fb j x v hx hv))).mono ?_
  rintro e w' ⟨v,rfl,hb,hr⟩
  refine hK v w' m ⟨Mm.le.refl m,λi=>⟨.inl,λh=>h.elim id λh=>ab⟩,hb,hs.below hb,λb h=>.inl h,.w (hr.imp λb hg=>?_) nofun⟩;have bu:=hg.2 rfl;exact⟨λhl=>by have:=fj hs hl;omega,λ_=>ab,λh=>ab⟩
 .refine (bn (Good B (LB m H) false) w _ hO hlen (λj p v hp hv=>by
   obtain⟨x,hx,d5⟩:=fh j p hp;have gc:=FK ew j x hx;have hr:=fb j x v hx hv
   cases x with
   |w o f q=>
    have:q=p:=by simpa[frz] using d5
    subst this
    cases hr with|w hr _=>exact hr.imp λb hg=>⟨hg.1,nofun,hg.2.2⟩
   |agg cs=>
    cases hm:cs.mapM (frz h 5) with
    |none=>simp[frz,hm] at d5
    |some r=>
     simp only[frz,hm,eh,db] at d5;subst d5;obtain⟨h1,h2⟩:=kD hm
     cases hr with
     |agg hl a6=>
      refine .agg ab (λi q u hq hu=>?_);obtain⟨y,hy,gn⟩:=h2 i q hq;have gr:isW y=true:=Aa gc i y hy;have gq:=a6 i y u hy hu
      cases y with
      |w o f q'=>
       have:q'=q:=by simpa[frz] using gn
       subst this
       cases gq with|w hr _=>exact hr.imp λb hg=>⟨hg.1,nofun,hg.2.2⟩
      |_=>cases gr
   |fn gg cs=>
    cases hm:cs.mapM (frz h 5) with
    |none=>simp[frz,hm] at d5
    |some r=>
     simp only[frz,hm,eh,db] at d5;subst d5;obtain⟨h1,h2⟩:=kD hm
     cases hr with
     |fn hl a6=>
      refine .fn ab (λi q u hq hu=>?_);obtain⟨y,hy,gn⟩:=h2 i q hq;have gr:isW y=true:=Aa gc i y hy;have gq:=a6 i y u hy hu
      cases y with
      |w o f q'=>
       have:q'=q:=by simpa[frz] using gn
       subst this
       cases gq with|w hr _=>exact hr.imp λb hg=>⟨hg.1,nofun,hg.2.2⟩
      |_=>cases gr
   |_=>cases gc)).mono ?_
  rintro e w' ⟨v,rfl,hb,hr⟩
  refine hK v w' m ⟨Mm.le.refl m,λi=>⟨.inl,λh=>h.elim id λh=>ab⟩,hb,hs.below hb,λb h=>.inl h,.w (hr.imp λb hg=>?_) nofun⟩
  rcases fo b w.heap.size with b6|jp
  .have gv:=hg.1 b6;exact⟨gv.1,λh=>by have:=hg.2 (MN h);omega,gv.2.2⟩
  .exact⟨λhl=>by have:=fj hs hl;omega,λ_=>ab,λh=>ab⟩
section
omit [bI]
theorem ir(n:Nat):∀cs:List AV,AV.sh.shL n cs=cs.map (AV.sh n)
 |[]=>rfl
 |x::r=>by simp[AV.sh.shL,ir n r]
theorem tX:∀{cs:List AV},AV.frs.mM cs=true->∀(j:Nat)(x:AV),cs[j]?=some x->x.frs=true
 |[],_,j,x,h=>by simp at h
 |y::l,hp,j,x,h=>by
  simp only[AV.frs.mM,eY] at hp
  cases j with
  |zero=>simp_all
  |succ j=>exact tX hp.2 j x av
theorem bJ.up{B1:Base}{L1 L2:Nat->Prop}{mm m':Mm}{w':World}{n:Nat}{x:AV}{v:Value}(h:bJ B1 L1 mm w' x v)(hd:∀i,mm.dom i->m'.dom (i+n))(ht:∀i,mm.dom i->m'.top (i+n)=mm.top i)(ha:∀i ver,mm.dom i->m'.addr (i+n) ver=mm.addr i ver)(hG:∀b,B1.n<=b->¬L1 b->Good B L2 true b)(b5:x.frs=true):bJ B L2 m' w' (x.sh n) v:=by
 induction h with
 |@w own full p v hr hf=>
  refine .w ?_ hf
  cases own with
  |true=>exact hr.imp λb hg=>hG b (hg.2.1 rfl) hg.1
  |false=>exact wA aE hr
 |ptr bg bf fg hC=>exact .ptr (hd _ bg) (by rw[ht _ bg];exact bf) ((ha _ _ bg).trans fg) hC
 |mp bg bf fg=>exact .mp (hd _ bg) (by rw[ht _ bg];exact bf) ((ha _ _ bg).trans fg)
 |msl bg bf hn h0 h1=>exact .msl (hd _ bg) (by rw[ht _ bg];exact bf) hn (λe=>h0 ((ha _ _ bg).symm.trans e)) (λb C e=>h1 b C ((ha _ _ bg).symm.trans e))
 |@agg cs vs hl _ ih=>
  rw[AV.sh,ir];refine .agg ak (λj p v hp hv=>?_);obtain⟨q,hq,rfl⟩:=fX hp;exact ih j q v hq hv (tX b5 j q hq)
 |@tup cs vs hl _ ih=>
  rw[AV.sh,ir];refine .tup ak (λj p v hp hv=>?_);obtain⟨q,hq,rfl⟩:=fX hp;exact ih j q v hq hv (tX b5 j q hq)
 |@fn f cs vs hl _ ih=>
  rw[AV.sh,ir];refine .fn ak (λj p v hp hv=>?_);obtain⟨q,hq,rfl⟩:=fX hp;exact ih j q v hq hv (tX b5 j q hq)
end
def Mm.glue(m mm:Mm)(n len:Nat):Mm:=
 ⟨λi ver=>if n<=i/\i<n+len then mm.addr (i-n) ver else m.addr i ver,λi=>if n<=i/\i<n+len then mm.top (i-n) else m.top i,λi=>m.dom i\/(n<=i/\i<n+len)⟩
section
omit [bI]
theorem Ab:∀(E:List (List AV))(h:bE)(n:Nat)(id:Nat)(c:List AV),(id,c)∈cV h n E↔(id,c)∈h\/∃k,E[k]?=some c/\id=n+k
 |[],h,n,id,c=>by simp[cV]
 |x::E,h,n,id,c=>by
  simp only[cV,dM,dC,Ab E h (n+1) id c];constructor
  .rintro (⟨rfl,rfl⟩|h1|⟨k,h1,rfl⟩)
   .exact .inr ⟨0,rfl,rfl⟩
   .exact .inl h1
   .exact .inr ⟨k+1,by simpa using h1,ab⟩
  grind
theorem MQ{α:Type}{R:α->α->Prop}{l:List α}(h:l.Pairwise R)(hs:∀a b,R a b->R b a){x y:α}(hx:x∈l)(hy:y∈l):x=y\/R x y:=by
 rw[vn] at h;obtain⟨p,hp,ep⟩:=lZ hx;obtain⟨q,hq,eq⟩:=lZ hy
 grind
theorem MR(hs:cX B H m w)(hB:B.n<=w.heap.size){E:List (List AV)}{v:AV}(hv:v.frs=true)(hEf:∀c∈E,AV.frs.mM c=true)(hE:∀k cs,(E.map (AV.sh.shL n))[k]?=some cs->(n+k,cs)∈H)(ao:∀k,k<E.length->¬m.dom (n+k)){G:Nat->Prop}{w':World}{u:Value}{mm:Mm}(hb:Bel w.heap.size w w')(bi:∀i,mm.dom i↔i<E.length)(f7:cX ⟨w.heap.size,G⟩ (cV [] 0 E) mm w')(hr:bJ ⟨w.heap.size,G⟩ (LB mm (cV [] 0 E)) mm w' v u):jg B H m w n E.length (v.sh n) u w' (m.glue mm n E.length):=by
 have hold:∀i,m.dom i->¬(n<=i/\i<n+E.length):=λi hd hi=>by
  have:=ao (i-n) ab;rw[show n+(i-n)=i by omega] at this;exact this hd
 have hle:m.le (m.glue mm n E.length):=⟨λi hd=>.inl hd,λi hd=>by simp only[Mm.glue,bP (hold i hd)];exact bS _,λi ver hd _=>by simp only[Mm.glue,bP (hold i hd)]⟩
 have cm:∀k c,E[k]?=some c->(k,c)∈cV [] 0 E:=λk c hk=>(Ab E [] 0 k c).2 (.inr ⟨k,hk,ab⟩)
 have bb:∀k c,(n+k,c)∈H->k<E.length->∃c0,E[k]?=some c0/\c=AV.sh.shL n c0:=λk c hin hk=>by
  have h1:=dP hk;refine⟨E[k],h1,?_⟩;have h2:=hE k (AV.sh.shL n E[k]) (by rw[im,h1];rfl);exact hs.key hin h2
 have hLB:∀b,LB (m.glue mm n E.length) H b->LB m H b\/LB mm (cV [] 0 E) b:=by
  rintro b ⟨id,c,C,hin,hd,ha⟩
  by_cases hi:n<=id/\id<n+E.length
  .obtain⟨c0,h1,h2⟩:=bb (id-n) c (by rw[show n+(id-n)=id by omega];exact hin) ab;simp only[Mm.glue,b8 hi] at ha;rw[h2,ir,iI] at ha;exact .inr ⟨id-n,c0,C,cm _ _ h1,(bi _).2 ab,ha⟩
  .have bg:m.dom id:=by
    rcases hd with hd|hd
    .exact hd
    .exact absurd hd hi
   simp only[Mm.glue,bP hi] at ha;exact .inl ⟨id,c,C,hin,bg,ha⟩
 have hmmB:∀b,LB mm (cV [] 0 E) b->w.heap.size<=b:=by
  rintro b ⟨id,c,C,hin,hd,ha⟩
  exact (f7.block hin hd ha).2
 have hG:∀b,w.heap.size<=b->¬LB mm (cV [] 0 E) b->Good B (LB (m.glue mm n E.length) H) true b:=λb ek fl=>⟨λhl=>by
  rcases hLB b hl with h1|h1
  .have:=fj hs h1;omega
  .exact fl h1,λ_=>ab,λh=>ab⟩
 have i2:∀x u,bJ ⟨w.heap.size,G⟩ (LB mm (cV [] 0 E)) mm w' x u->x.frs=true->bJ B (LB (m.glue mm n E.length) H) (m.glue mm n E.length) w' (x.sh n) u:=λx u h hf=>
  h.up (λi hd=>.inr ⟨ab,by have:=(bi i).1 hd;omega⟩) (λi hd=>by have:=(bi i).1 hd;simp only[Mm.glue];rw[b8 ⟨ab,ab⟩,Nat.add_sub_cancel])
   (λi ver hd=>by have:=(bi i).1 hd;simp only[Mm.glue];rw[b8 ⟨ab,ab⟩,Nat.add_sub_cancel]) hG hf
 have bp:∀x u,bJ B (LB m H) m w x u->bJ B (LB (m.glue mm n E.length) H) (m.glue mm n E.length) w' x u:=λx u h=>
  h.mono hle (λb ek fl hl=>by
   rcases hLB b hl with h1|h1
   .exact fl h1
   .have:=hmmB b h1;omega) (λb ek _=>hb.block b ek)
 refine⟨hle,λi=>Iff.rfl,hb,⟨λid c hin hd=>?_,?_⟩,λb hl=>?_,i2 v u hr hv⟩
 .by_cases hi:n<=id/\id<n+E.length
  .obtain⟨c0,h1,h2⟩:=bb (id-n) c (by rw[show n+(id-n)=id by omega];exact hin) ab
   have hlen:c.length=c0.length:=by rw[h2,ir,iI]
   obtain⟨e1,e2⟩:=f7.entry (id-n) c0 (cm _ _ h1) ((bi _).2 ab);refine⟨by simp only[Mm.glue,b8 hi];rw[e1,hlen],?_⟩
   rcases e2 with ⟨e3,e4⟩|⟨b,C,cs,e,f1,f2,f3,f4,f5,f6⟩|⟨b,es,clk,f1,f2,f3,f4,f5⟩
   .exact .inl ⟨by simp only[Mm.glue,b8 hi];rw[hlen];exact e3,by rw[h2,e4];rfl⟩
   rotate_left
   .exact .inr (.inr ⟨b,es,clk,by simp only[Mm.glue,b8 hi];rw[hlen];exact f1,by rw[h2,FJ];exact f2,f3,by simp only at f4;omega,λl hl=>f5 l (ML (by rw[<-h2];exact hl))⟩)
   .refine .inr (.inl ⟨b,C,cs,e,by simp only[Mm.glue,b8 hi];rw[hlen];exact f1,f2,f3,ab,by simp only at f5;omega,λj p u hp hu=>?_⟩);rw[h2,ir] at hp;obtain⟨q,hq,rfl⟩:=fX hp;exact i2 q u (f6 j q u hq hu) (tX (hEf c0 (JK h1)) j q hq)
  .have bg:m.dom id:=by
    rcases hd with hd|hd
    .exact hd
    .exact absurd hd hi
   obtain⟨e1,e2⟩:=hs.entry id c hin bg;refine⟨by simp only[Mm.glue,bP hi];exact e1,?_⟩
   rcases e2 with ⟨e3,e4⟩|⟨b,C,cs,e,f1,f2,f3,f4,f5,f6⟩|⟨b,es,clk,f1,f2,f3,f4,f5⟩
   .exact .inl ⟨by simp only[Mm.glue,bP hi];exact e3,e4⟩
   rotate_left
   .have dw:b<w.heap.size:=fj hs ⟨id,c,0,hin,bg,f1⟩;exact .inr (.inr ⟨b,es,clk,by simp only[Mm.glue,bP hi];exact f1,f2,(hb.block b dw).trans f3,f4,f5⟩)
   .have dw:b<w.heap.size:=fj hs ⟨id,c,C,hin,bg,f1⟩;exact .inr (.inl ⟨b,C,cs,e,by simp only[Mm.glue,bP hi];exact f1,(hb.block b dw).trans f2,f3,f4,f5,λj p u hp hu=>bp p u (f6 j p u hp hu)⟩)
 .refine tH ?_ hs.inj;intro x y hx hy ⟨b7,gl⟩;refine⟨b7,λb C C' eg ea dc d6=>?_⟩
  have key:∀z:Nat×List AV,z∈H->(m.glue mm n E.length).dom z.1->∀C,(m.glue mm n E.length).addr z.1 z.2.length=some (b,C)->(¬(n<=z.1/\z.1<n+E.length)/\m.dom z.1/\m.addr z.1 z.2.length=some (b,C)) \/
   ((n<=z.1/\z.1<n+E.length)/\∃c0,(z.1-n,c0)∈cV [] 0 E/\mm.addr (z.1-n) c0.length=some (b,C)):=by
   intro z hz d9 C ha;by_cases hi:n<=z.1/\z.1<n+E.length
   .obtain⟨c0,h1,h2⟩:=bb (z.1-n) z.2 (by rw[show n+(z.1-n)=z.1 by omega];exact hz) ab;simp only[Mm.glue,b8 hi] at ha;rw[h2,ir,iI] at ha;exact .inr ⟨hi,c0,cm _ _ h1,ha⟩
   .simp only[Mm.glue,bP hi] at ha
    rcases d9 with d9|d9
    .exact .inl ⟨hi,d9,ha⟩
    .exact absurd d9 hi
  rcases key x hx eg C dc with ⟨_,dx,ax⟩|⟨ix,cx,mx,ax⟩
  .rcases key y hy ea C' d6 with ⟨_,dy,ay⟩|⟨iy,cy,my,ay⟩
   .exact gl b C C' dx dy ax ay
   .have h1:b<w.heap.size:=fj hs ⟨x.1,x.2,C,hx,dx,ax⟩;have h2:=hmmB b ⟨y.1-n,cy,C',my,(bi _).2 ab,ay⟩;omega
  .rcases key y hy ea C' d6 with ⟨_,dy,ay⟩|⟨iy,cy,my,ay⟩
   .have h1:b<w.heap.size:=fj hs ⟨y.1,y.2,C',hy,dy,ay⟩;have h2:=hmmB b ⟨x.1-n,cx,C,mx,(bi _).2 ab,ax⟩;omega
   .rcases MQ f7.inj (λa c gt=>⟨λe=>gt.1 e.symm,λb C C' d1 d2 a1 a2=>gt.2 b C' C d2 d1 a2 a1⟩) mx my with h1|h1
    .injection h1 with h1 _
     exact b7 ab
    .exact h1.2 b C C' ((bi _).2 ab) ((bi _).2 ab) ax ay
 grind
end
theorem MU(hO:bI.ok w)(hs:cX B H m w)(hB:B.n<=w.heap.size)(a5:∀id cs,cJ h id=some cs->(id,cs)∈H)(o:Oper)(f:Operand)(args:Array Operand)(tys:Array TypeId)(ho:o.op=.call { callee:=.value f,args:=args,argTypes:=tys })(hx:∀x,x∈o.op.operands->bJ B (LB m H) m w (ev env x) (a.eval x)){g:FuncId}{bY:List AV}(hf:ga (ev env f)=some (g,bY)){pvs:List PV}(hp:lM h (args.toList.map (ev env)++bY)=some pvs){E:List (List AV)}{v:AV}(hE:∀k cs,(E.map (AV.sh.shL n))[k]?=some cs->(n+k,cs)∈H)(ao:∀k,k<E.length->¬m.dom (n+k))(hc:oG P g pvs E v)(K:Act->World->Prop)(Q:Exit->Act->World->Prop)(hK:∀v' w' m',jg B H m w n E.length (v.sh n) v' w' m'->K (a.put o.dst v') w'):o.wpt P a w K Q:=by
 obtain⟨⟨fn,fz,er,el⟩,hv,hEf,bn⟩:=hc;have bv:bJ B (LB m H) m w (ev env f) (a.eval f):=hx f aD
 have jk:∀x∈args.toList,bJ B (LB m H) m w (ev env x) (a.eval x):=λx hm=>hx x (by rw[ho];simp[Op.operands,Call.operands,rC.1 hm])
 have ei:∃cv:Array Value,a.eval f=.func (.func g) #[] cv/\bY.length=cv.size/\∀(j:Nat)(p:AV)(v:Value),bY[j]?=some p->cv[j]?=some v->bJ B (LB m H) m w p v:=by
  unfold ga at hf;split at hf
  .rename_i g' c9 e
   injection hf with hf;injection hf with h1 h2;subst h1;subst h2
   rw[e] at bv;generalize hv:a.eval f=vf at bv
   cases bv with|fn h1 h2=>grind
  .rename_i own f' g' c9 e
   injection hf with hf;injection hf with h1 h2;subst h1;subst h2
   rw[e] at bv;generalize hv:a.eval f=vf at bv
   cases bv with
   |w h1 _=>
    cases h1 with
    |fn h1 h2=>
     refine⟨_,rfl,ak,λj p v hp hv=>?_⟩;obtain⟨q,hq,rfl⟩:=fX hp;exact .w (h2 j q v hq hv) nofun
  .cases hf
 obtain⟨cv,ft,d8,i9⟩:=ei
 have fb:∀(j:Nat)(x:AV)(v:Value),(args.toList.map (ev env)++bY)[j]?=some x->(args.map a.eval++cv)[j]?=some v->bJ B (LB m H) m w x v:=by
  grind
 obtain⟨g4,fh⟩:=z8 hp
 have hlen:pvs.length=(args.map a.eval++cv).size:=by rw[<-g4];simp[d8]
 have a4:(execOp a.eval o).run P w=.ok (.enter g (args.map a.eval++cv)) w:=by
  have g5:¬fn.name = "runtime.NumGoroutine" := by simp_all
  have bu:¬fn.body=none:=ak
  simp[execOp,ho,resolve,ft,Deferred.ofValue,invoke,callFunc,fz,g5,bu]
 unfold Oper.wpt;rw[a4,Oper.xL]
 refine (bn (λ_=>True) w _ hO hlen (λj p v hp hv=>by
  obtain⟨x,hx,d5⟩:=fh j p hp
  exact oh hs a5 false (λ_ _=>trivial) (λ_ _ _=>trivial) 6 x p v d5 nofun (fb j x v hx hv))).mono ?_
 rintro e w' ⟨u,mm,rfl,hb,bi,f7,hr⟩
 exact hK u w' _ (MR hs hB hv hEf hE ao hb bi f7 hr)
def QF(P:Program)(env:Env)(h:bE)(n:Nat)(op:Op)(v:AV)(E:List (List AV)):Prop:=
 (∃c,aOp P h n (ev env) op=some (c,v,E)/\c) \/
 ∃f args tys g bY pvs res fr,op=.call { callee:=.value f,args:=args,argTypes:=tys }/\ga (ev env f)=some (g,bY)/\lM h (args.toList.map (ev env)++bY)=some pvs /\
  ((bX P g pvs res fr/\(fr=true\/nJ (args.toList.map (ev env)++bY)=true)/\v=.w (pG fr res) false res/\E=[]) \/
    ∃E0 v0,oG P g pvs E0 v0/\v=v0.sh n/\E=E0.map (AV.sh.shL n))
theorem dk.qf{op:Op}{K:AV->List (List AV)->Prop}(hq:dk P env h n op K):∃v E,QF P env h n op v E/\K v E:=by
 unfold dk at hq;split at hq
 .rename_i f args tys;split at hq
  .rename_i g bY hf;unfold uP at hq;split at hq
   .rename_i pvs hp
    rcases hq with ⟨res,fr,hc,b5,hk⟩|⟨E,v,hc,hk⟩
    .exact⟨_,_,.inr ⟨f,args,tys,g,bY,pvs,res,fr,rfl,hf,hp,.inl ⟨hc,b5,rfl,rfl⟩⟩,hk⟩
    .exact⟨_,_,.inr ⟨f,args,tys,g,bY,pvs,.undef,true,rfl,hf,hp,.inr ⟨E,v,hc,rfl,rfl⟩⟩,hk⟩
   .exact hq.elim
  trivial
 .split at hq
  .rename_i c v E he;exact⟨v,E,.inl ⟨c,he,hq.1⟩,hq.2⟩
  trivial
theorem QF.sound(o:Oper){v:AV}{E:List (List AV)}(hq:QF P env h n o.op v E)(hO:bI.ok w)(hs:cX B H m w)(hB:B.n<=w.heap.size)(a5:∀id cs,cJ h id=some cs->(id,cs)∈H)(hE:∀k cs,E[k]?=some cs->(n+k,cs)∈H)(ao:∀k,k<E.length->¬m.dom (n+k))(hx:∀x,x∈o.op.operands->bJ B (LB m H) m w (ev env x) (a.eval x))(K:Act->World->Prop)(Q:Exit->Act->World->Prop)(hK:∀v' w' m',jg B H m w n E.length v v' w' m'->K (a.put o.dst v') w'):o.wpt P a w K Q:=by
 rcases hq with ⟨c,h0,hc⟩|⟨f,args,tys,g,bY,pvs,res,fr,ho,hf,hp,⟨hc,b5,rfl,rfl⟩|⟨E0,v0,hc,rfl,rfl⟩⟩
 .obtain⟨v',w',m',a4,h1,h2,h3,h4,h5,h6⟩:=MK o h0 hc hs hB a5 hE ao hx;unfold Oper.wpt;rw[a4,Oper.pz];exact hK v' w' m' ⟨h1,h2,h3,h4,h5,h6⟩
 .exact MP hO hs hB a5 o f args tys ho hx hf hp hc b5 K Q hK
 .rw[iI] at ao hK;exact MU hO hs hB a5 o f args tys ho hx hf hp hE ao hc K Q hK
end
end Go.Fi
namespace Go.Fi
open Go Go.RowKit
def fK(w:World)(b:Nat)(cs:Array Value)(e:TypeId):World:={ w with heap:=w.heap.setIfInBounds b (.cells cs e (0,0))}
theorem MV(w:World)(b:Nat)(cs:Array Value)(e:TypeId):(fK w b cs e).heap.size=w.heap.size:=by simp[fK]
theorem wC(w:World)(b:Nat)(cs:Array Value)(e:TypeId){k:Nat}(h:k≠b):(fK w b cs e).heap[k]?=w.heap[k]?:=by
 simp only[fK];rw[iU]
 grind
theorem wD(w:World)(b:Nat)(cs:Array Value)(e:TypeId)(h:b<w.heap.size):(fK w b cs e).heap[b]?=some (.cells cs e (0,0)):=by
 simp only[fK];rw[iU];simp[h]
theorem MW(w:World)(b:Nat)(cs cs':Array Value)(e:TypeId):fK (fK w b cs e) b cs' e=fK w b cs' e:=by
 simp[fK]
theorem tY(w:World)(b:Nat)(cs:Array Value)(e:TypeId)(h:w.heap[b]?=some (.cells cs e (0,0))):fK w b cs e=w:=by
 have:w.heap.setIfInBounds b (.cells cs e (0,0))=w.heap:=by
  grind
 unfold fK;rw[this]
def fA(cs:Array Value)(off:Nat):List Value->Array Value
 |[]=>cs
 |v::r=>fA (cs.setIfInBounds off v) (off+1) r
theorem rK:∀(vs:List Value)(off:Nat)(cs:Array Value),(fA cs off vs).size=cs.size
 |[],_,_=>rfl
 |v::r,off,cs=>by rw[fA,rK r];simp
theorem MX{w:World}{b:Nat}{cs:Array Value}{e:TypeId}(h:w.heap[b]?=some (.cells cs e (0,0)))(off:Nat)(v:Value):w.setCell ⟨b,off,none⟩ v=fK w b (cs.setIfInBounds off v) e:=by
 unfold World.setCell fK;congr 1
 have hb:b<w.heap.size:=by
  rcases fo b w.heap.size with h'|h'
  .exact h'
  .rw[DI h'] at h;cases h
 have hg:w.heap[b]=.cells cs e (0,0):=by rw[du hb] at h;injection h
 grind
section
variable{P:Program}
theorem wF(b off:Nat)(e:TypeId):∀(vs:List Value)(i:Nat)(w:World)(cs:Array Value),w.heap[b]?=some (.cells cs e (0,0))->off+i+vs.length<=cs.size->(∀v∈vs,v.oneCell'=true)->(storeCells ⟨b,off,none⟩ vs i).run P w=.ok () (fK w b (fA cs (off+i) vs) e)
 |[],i,w,cs,h,_,_=>by
  simp only[storeCells,fA];rw[tY w b cs e h];rfl
 |v::r,i,w,cs,h,hle,h1=>by
  have b6:off+i<cs.size:=ak
  have hb:b<w.heap.size:=by
   grind
  have d7:(store ((⟨b,off,none⟩:Addr).add i) v).run P w=.ok () (fK w b (cs.setIfInBounds (off+i) v) e):=by
   rw[Addr.jT,run_store P w _ v _ (h1 v ae)]
   have hc:w.cell? ⟨b,off+i,none⟩=some cs[off+i]:=by rw[oe h];simp[b6]
   have hf:w.frozen? ⟨b,off+i,none⟩=false:=by simp[World.frozen?,h]
   simp[hc,hf,MX h]
  have ih:=wF b off e r (i+1) (fK w b (cs.setIfInBounds (off+i) v) e) (cs.setIfInBounds (off+i) v) (wD w b _ e hb) ak (λx hx=>h1 x (by simp[hx]));simp only[storeCells,Sem.run_bind,d7,Result.andThen_ok,ih,MW,fA];rw[show off+(i+1)=off+i+1 by omega]
end
section
variable{P:Program}{B:Base}{m:Mm}{w:World}{H h:bE}{n:Nat}{env:Env}{a:Act}{L:Nat->Prop}
theorem FM:∀{l:List AV},eo l=true->∀(j:Nat)(x:AV),l[j]?=some x->x.one=true
 |[],_,j,x,h=>by simp at h
 |y::l,hp,j,x,h=>by
  simp only[eo,eY] at hp
  cases j with
  |zero=>simp_all
  |succ j=>exact FM hp.2 j x av
theorem MY{x:AV}{v:Value}(h1:x.one=true)(h:bJ B L m w x v):v.oneCell'=true:=by
 cases h with
 |w hr _=>cases hr<;>first|rfl|(cases h1;done)
 |agg _ _=>cases h1
 |tup _ _=>cases h1
 |_=>rfl
def uQ(B:Base)(L:Nat->Prop)(m:Mm)(w:World)(cs:List AV)(vs:Array Value):Prop:=
 cs.length<=vs.size/\∀(j:Nat)(p:AV)(v:Value),cs[j]?=some p->vs[j]?=some v->bJ B L m w p v
theorem uQ.set{cs:List AV}{vs:Array Value}(h:uQ B L m w cs vs)(i:Nat){p:AV}{v:Value}(hp:bJ B L m w p v):uQ B L m w (cs.set i p) (vs.setIfInBounds i v):=by
 refine⟨by simpa using h.1,λj q u hq hu=>?_⟩;rw[JN] at hq;rw[iU] at hu;by_cases g1:i=j
 .simp_all
 .simp only[g1,cT] at hq hu;exact h.2 j q u hq hu
theorem Ac:∀(ps:List AV)(us:List Value)(off:Nat)(cs:List AV)(vs:Array Value),uQ B L m w cs vs->ps.length=us.length->(∀(j:Nat)(p:AV)(v:Value),ps[j]?=some p->us[j]?=some v->bJ B L m w p v)->uQ B L m w (setAt cs off ps) (fA vs off us)
 |[],us,off,cs,vs,h,hl,_=>by
  cases us with
  |nil=>exact h
  |cons u us=>cases hl
 |p::ps,us,off,cs,vs,h,hl,hr=>by
  cases us with
  |nil=>cases hl
  |cons u us=>
   simp only[setAt,fA];exact Ac ps us (off+1) _ _ (h.set off (hr 0 p u rfl rfl)) ak (λj q v hq hv=>hr (j+1) q v ak ak)
theorem mf(h:bE)(id:Nat)(x:List AV)(hn:h.Pairwise λp q=>p.1≠q.1):dQ h id x=h.map λp=>if p.1=id then (p.1,x) else p:=by
 induction hn with
 |nil=>rfl
 |@cons y r hy _ ih=>
  obtain⟨k,v⟩:=y;simp only[dQ,oU];split
  .rename_i hk;subst hk;congr 1;rw[List.map_congr_left (g:=λp=>p)]
   .simp
   grind
  .rw[ih]
end
def Mm.up(m:Mm)(id len:Nat)(bc:Option (Nat×Nat)):Mm:=
 { addr:=λi v=>if i=id/\v=len then bc else m.addr i v,top:=λi=>if i=id then len else m.top i,dom:=m.dom }
def jB(h:bE)(id:Nat)(x:List AV):bE:=h.map λp=>if p.1=id then (p.1,x) else p
section
variable{P:Program}{B:Base}{m:Mm}{w w':World}{H h:bE}{n:Nat}{env:Env}{a:Act}{L:Nat->Prop}
theorem FN{id i:Nat}{x c:List AV}(hin:(i,c)∈jB h id x):(i≠id/\(i,c)∈h)\/(i=id/\c=x):=by
 unfold jB at hin
 grind
theorem Ri{id len:Nat}{bc:Option (Nat×Nat)}(hle:m.top id<=len)(cu:len<=m.top id->bc=m.addr id len):m.le (m.up id len bc):=by
 refine⟨λi hi=>hi,λi hi=>?_,λi v hi hv=>?_⟩
 .simp only[Mm.up];grind
 .simp only[Mm.up];grind
theorem FO(hs:cX B h m w){id:Nat}{cells cells':List AV}(hin:(id,cells)∈h)(hd:m.dom id)(hlen:cells.length<=cells'.length){b' C':Nat}(cu:cells'.length=cells.length->m.addr id cells.length=some (b',C'))(bu:w.heap.size<=b'\/∃C,m.addr id cells.length=some (b',C))(cp:∀k,k<w.heap.size->(∀C,m.addr id cells.length≠some (k,C))->w'.heap[k]?=w.heap[k]?)(bb:(∃cs e,w'.heap[b']?=some (.cells cs e (0,0))/\cs.size=C'/\cells'.length<=C'/\B.n<=b'/\∀(j:Nat)(p:AV)(v:Value),cells'[j]?=some p->cs[j]?=some v->bJ B (LB m h) m w p v)\/(C'=0/\∃es clk l,w'.heap[b']?=some (.map es clk)/\cells'=[gZ l]/\B.n<=b'/\oE es l)):cX B (jB h id cells') (m.up id cells'.length (some (b',C'))) w'/\m.le (m.up id cells'.length (some (b',C')))/\(∀b,b<w.heap.size->¬LB m h b->¬LB (m.up id cells'.length (some (b',C'))) (jB h id cells') b)/\(∀b,b<w.heap.size->¬LB m h b->w'.heap[b]?=w.heap[b]?):=by
 have gk:m.top id=cells.length:=(hs.entry id cells hin hd).1
 have hle:m.le (m.up id cells'.length (some (b',C'))):=Ri (by rw[gk];exact hlen) (λhh=>by
  have:cells'.length=cells.length:=ab
  rw[this];simp_all)
 have hL0:∀b,LB (m.up id cells'.length (some (b',C'))) (jB h id cells') b->(∃i c C,(i,c)∈h/\i≠id/\m.dom i/\m.addr i c.length=some (b,C))\/b=b':=by
  rintro b ⟨i,c,C,h1,h2,h3⟩
  rcases FN h1 with ⟨hi,h4⟩|⟨rfl,rfl⟩
  .simp only[Mm.up,hi,false_and,cT] at h3;exact .inl ⟨i,c,C,h4,hi,h2,h3⟩
  .simp only[Mm.up,and_self,cz] at h3;simp_all
 have hL:∀b,b<w.heap.size->¬LB m h b->¬LB (m.up id cells'.length (some (b',C'))) (jB h id cells') b:=by
  intro b hb hn hl
  rcases hL0 b hl with ⟨i,c,C,h1,_,h2,h3⟩|rfl
  .exact hn ⟨i,c,C,h1,h2,h3⟩
  .rcases bu with h|⟨C,h⟩
   .omega
   .exact hn ⟨id,cells,C,hin,hd,h⟩
 have hW:∀b,b<w.heap.size->¬LB m h b->w'.heap[b]?=w.heap[b]?:=λb hb hn=>cp b hb (λC hC=>hn ⟨id,cells,C,hin,hd,hC⟩)
 have bp:∀p v,bJ B (LB m h) m w p v->bJ B (LB (m.up id cells'.length (some (b',C'))) (jB h id cells')) (m.up id cells'.length (some (b',C'))) w' p v:=λp v hp=>hp.mono hle hL hW
 refine⟨⟨λi c ii e9=>?_,?_⟩,hle,hL,hW⟩
 .rcases FN ii with ⟨hi,h4⟩|⟨rfl,rfl⟩
  .obtain⟨ht,fq⟩:=hs.entry i c h4 e9;refine⟨by simp[Mm.up,hi,ht],?_⟩
   have gd:∀(x y:Nat×List AV),x∈h->y∈h->x.1≠y.1->∀b C C',m.dom x.1->m.dom y.1->m.addr x.1 x.2.length=some (b,C)->m.addr y.1 y.2.length≠some (b,C'):=by
    intro x y hx hy b7 b C C' eg ea dc d6;have:=hs.inj;rw[vn] at this;obtain⟨p,hp,rfl⟩:=lZ hx;obtain⟨q,hq,rfl⟩:=lZ hy
    grind
   rcases fq with ⟨h1,h2⟩|⟨b,C,cs,e,h1,h2,h3,h5,h6,h7⟩|⟨b,es,clk,h1,h2,h3,h5,h6⟩
   .exact .inl ⟨by simp[Mm.up,hi,h1],h2⟩
   .exact .inr (.inl ⟨b,C,cs,e,by simp[Mm.up,hi,h1],(cp b (fj hs ⟨i,c,C,h4,e9,h1⟩) (λC2 h8=>gd (i,c) (id,cells) h4 hin hi b C C2 e9 hd h1 h8)).trans h2,h3,h5,h6,λj p v hp hv=>bp p v (h7 j p v hp hv)⟩)
   .exact .inr (.inr ⟨b,es,clk,by simp[Mm.up,hi,h1],h2,(cp b (fj hs ⟨i,c,0,h4,e9,h1⟩) (λC2 h8=>gd (i,c) (id,cells) h4 hin hi b 0 C2 e9 hd h1 h8)).trans h3,h5,h6⟩)
  .refine⟨by simp[Mm.up],.inr ?_⟩
   rcases bb with ⟨cs,e,h1,h2,h3,h5,h6⟩|⟨rfl,es,clk,l,h1,rfl,h3,h5⟩
   .exact .inl ⟨b',C',cs,e,by simp[Mm.up],h1,h2,h3,h5,λj p v hp hv=>bp p v (h6 j p v hp hv)⟩
   .exact .inr ⟨b',es,clk,by simp[Mm.up],rfl,h1,h3,Fh h5⟩
 .unfold jB;rw[List.pairwise_map];refine tH ?_ hs.inj;intro x y hx hy ⟨b7,gl⟩
  have eb:∀p:Nat×List AV,(if p.1=id then (p.1,cells') else p).1=p.1:=ak
  refine⟨by rw[eb,eb];exact b7,λb C D eg ea dc d6=>?_⟩;rw[eb] at eg ea
  have clash:∀z:Nat×List AV,z∈h->z.1≠id->m.dom z.1->∀C,m.addr z.1 z.2.length=some (b',C)->(z.1≠id->∀b C C',m.dom z.1->m.dom id->m.addr z.1 z.2.length=some (b,C)->m.addr id cells.length≠some (b,C'))->False:=by
   intro z hz jy d9 C hC gd
   rcases bu with h|⟨C2,h⟩
   .have:=fj hs ⟨z.1,z.2,C,hz,d9,hC⟩;omega
   simp_all
  by_cases h1:x.1=id
  .have h2:y.1≠id:=λe=>b7 (h1.trans e.symm)
   have jw:x.2=cells:=hs.key (id:=id) (by rw[<-h1];exact hx) hin;simp only[h1,cz,Mm.up,and_self,db,dC] at dc;obtain⟨rfl,rfl⟩:=dc;simp only[h2,cT,Mm.up,false_and] at d6;refine clash y hy h2 ea D d6 (λ_ b C C' d9 e9 hC i6=>?_);simp_all
  .simp only[h1,cT,Mm.up,false_and] at dc;by_cases h2:y.1=id
   .have jx:y.2=cells:=hs.key (id:=id) (by rw[<-h2];exact hy) hin;simp only[h2,cz,Mm.up,and_self,db,dC] at d6;obtain⟨rfl,rfl⟩:=d6;refine clash x hx h1 eg C dc (λ_ b C C' d9 e9 hC i6=>?_);simp_all
   .simp only[h2,cT,Mm.up,false_and] at d6;exact gl b C D eg ea dc d6
theorem rM(hs:cX B h m w){id:Nat}{cells cells':List AV}(hin:(id,cells)∈h)(hd:m.dom id)(hlen:cells.length<=cells'.length){b' C':Nat}(cu:cells'.length=cells.length->m.addr id cells.length=some (b',C'))(bu:w.heap.size<=b'\/∃C,m.addr id cells.length=some (b',C))(cp:∀k,k<w.heap.size->(∀C,m.addr id cells.length≠some (k,C))->w'.heap[k]?=w.heap[k]?)(bb:∃cs e,w'.heap[b']?=some (.cells cs e (0,0))/\cs.size=C'/\cells'.length<=C'/\B.n<=b'/\∀(j:Nat)(p:AV)(v:Value),cells'[j]?=some p->cs[j]?=some v->bJ B (LB m h) m w p v):cX B (jB h id cells') (m.up id cells'.length (some (b',C'))) w'/\m.le (m.up id cells'.length (some (b',C')))/\(∀b,b<w.heap.size->¬LB m h b->¬LB (m.up id cells'.length (some (b',C'))) (jB h id cells') b)/\(∀b,b<w.heap.size->¬LB m h b->w'.heap[b]?=w.heap[b]?):=
 FO hs hin hd hlen cu bu cp (.inl bb)
theorem mg(hs:cX B h m w):h.Pairwise λp q=>p.1≠q.1:=hs.inj.imp λh=>h.1
end
section
variable{P:Program}{B:Base}{m:Mm}{w w':World}{H h:bE}{n:Nat}{env:Env}{a:Act}{L:Nat->Prop}
end
def sj(P:Program)(env:Env)(h:bE)(n:Nat)(args:List Operand)(tys:List TypeId)(K:AV->bE->Nat->Prop):Prop:=
 match args,tys with
 |[s,x],[t,tx]=>
  match slE P t,slE P tx with
  |some (e,sz),some _=>
   match byE P e,fw P e,iN h sz (ev env x) with
   |some by_,some z,some (k2,news,c)=>
    match ev env s with
    |.msl id ver z' off k=>
     match cJ h id with
     |some cells=>(c/\off=0/\cells.length=ver/\z'=sz/\z.length=sz/\0<sz/\k*sz<=ver/\k+k2<=1000000000/\by_<=100000/\eo news=true) /\
       K (.msl id (iO cells (k*sz) news).length sz 0 (k+k2)) (dQ h id (iO cells (k*sz) news)) n
     |none=>False
    |.w own true (.sl k cells)=>
     bif own&&decide (k=0)&&cells.isEmpty then (c/\0<k2/\z.length=sz/\0<sz/\k2<=1000000000/\by_<=100000)/\K (.msl n news.length sz 0 k2) ((n,news)::h) (n+1)
     else match pvs news with
      |some q=>(c/\cells.length=k*sz/\z.length=sz/\0<sz/\k+k2<=1000000000/\by_<=100000)/\K (.w (jA q&&(own || cells.isEmpty)) false (.sl (k+k2) (cells++q))) h n
      |none=>False
    |_=>False
   |_,_,_=>False
  |_,_=>False
 |_,_=>False
def sr(P:Program)(env:Env)(h:bE)(n:Nat)(t:TypeId)(ad x:Operand)(K:AV->bE->Nat->Prop):Prop:=
 match tyL P t,ev env ad with
 |some (sz,_),.ptr id ver off=>
  match cJ h id with
  |some cells=>(cells.length=ver/\(ev env x).ok=true/\(ev env x).cells.length=sz/\off+sz<=cells.length/\eo (ev env x).cells=true)/\K (.tup []) (dQ h id (setAt cells off (ev env x).cells)) n
  |none=>False
 |_,_=>False
theorem FP(c new:List AV)(p:Nat)(hp:p<=c.length)(j:Nat):(iO c p new)[j]?=if p<=j/\j<p+new.length then new[j-p]? else c[j]?:=by
 unfold iO;split
 .rename_i e;rw[List.getElem?_append];split
  .rename_i hj;rw[bP ab]
  .rename_i hj;rw[e];split
   .rfl
   .rename_i h2;rw[List.getElem?_eq_none ab,List.getElem?_eq_none ab]
 grind
theorem MZ(c new:List AV)(p:Nat)(hp:p<=c.length):(iO c p new).length=max c.length (p+new.length):=by
 unfold iO
 grind
theorem rO:∀(us:List Value)(off:Nat)(cs:Array Value),off+us.length<=cs.size->∀j,(fA cs off us)[j]?=if off<=j/\j<off+us.length then us[j-off]? else cs[j]?
 |[],off,cs,_,j=>by
  simp only[fA,lB];rw[bP ab]
 |v::r,off,cs,h,j=>by
  simp only[fA];rw[rO r (off+1) _ (by simp at h ⊢;omega) j]
  grind
section
variable{P:Program}{B:Base}{m:Mm}{w w':World}{H h:bE}{n:Nat}{env:Env}{a:Act}{L:Nat->Prop}
def EPost(B:Base)(h:bE)(m:Mm)(w:World)(n:Nat)(h':bE)(n':Nat)(v:AV)(v':Value)(w':World)(m':Mm):Prop:=
 m.le m'/\(∀i,m'.dom i↔m.dom i\/(n<=i/\i<n'))/\Bel B.n w w'/\cX B h' m' w'/\(∀b,b<w.heap.size->¬LB m h b->¬LB m' h' b)/\(∀b,b<w.heap.size->¬LB m h b->w'.heap[b]?=w.heap[b]?)/\bJ B (LB m' h') m' w' v v'
theorem lC{p:Nat->Prop}{n:Nat}:∀i,p i↔p i\/(n<=i/\i<n):=λi=>⟨.inl,λh=>h.elim id λh=>ab⟩
theorem FQ(hs:cX B h m w){id:Nat}{cells:List AV}(hin:(id,cells)∈h):jB h id cells=h:=by
 unfold jB
 conv=>rhs;rw[<-List.map_id h]
 refine List.map_congr_left λp hp=>?_
 split
 .rename_i e;have:p.2=cells:=hs.key (id:=id) (by rw[<-e];exact hp) hin;rw[<-this];rfl
 .rfl
theorem Ad{b:Nat}(hb:B.n<=b)(w:World)(cs:Array Value)(e:TypeId):Bel B.n w (fK w b cs e):=
 ⟨rfl,rfl,by rw[MV];simp,λk hk=>wC w b cs e ab⟩
theorem FR(hB:B.n<=w.heap.size)(o:Obj):Bel B.n w (w.drew.alloc o):=
 ⟨rfl,rfl,by rw[zS];simp,λk hk=>jL w.drew o (show k<w.heap.size by omega)⟩
theorem Ae{ps:List AV}{us:List Value}(gh:eo ps=true)(hl:us.length=ps.length)(hr:∀(j:Nat)(p:AV)(u:Value),ps[j]?=some p->us[j]?=some u->bJ B L m w p u):∀v∈us,v.oneCell'=true:=by
 intro v hv;obtain⟨j,hj,rfl⟩:=lZ hv
 have dg:j<ps.length:=ab
 exact MY (FM gh j ps[j] (dP dg)) (hr j ps[j] us[j] (dP dg) (dP hj))
theorem M3(hs:cX B h m w)(hB:B.n<=w.heap.size){t tx e sz:Nat}{ex:TypeId×Nat}{by_:Nat}{z:List AV}(ht:slE P t=some (e,sz))(bj:slE P tx=some ex)(bl:byE P e=some by_)(hz:fw P e=some z){x s:Value}{xa:AV}{k2:Nat}{news:List AV}{c:Prop}(aq:iN h sz xa=some (k2,news,c))(hc:c)(hx:bJ B (LB m h) m w xa x){id ver k:Nat}{cells:List AV}(dr:bJ B (LB m h) m w (.msl id ver sz 0 k) s)(hg:cJ h id=some cells)(c1:cells.length=ver)(c3:z.length=sz)(c4:0<sz)(c5:k*sz<=ver)(c6:k+k2<=1000000000)(c7:by_<=100000)(c8:eo news=true)(ty:TypeId):∃v' w' m',(Builtin.append_ #[t,tx] ty #[s,x]).run P w=.ok v' w'/\EPost B h m w n (dQ h id (iO cells (k*sz) news)) n (.msl id (iO cells (k*sz) news).length sz 0 (k+k2)) v' w' m':=by
 have ig:dQ h id (iO cells (k*sz) news)=jB h id (iO cells (k*sz) news):=mf h id _ (mg hs);rw[ig];obtain⟨bf,i,hi,br⟩:=ky ht;obtain⟨bk,_⟩:=ky (e:=ex.1) (z:=ex.2) bj;obtain⟨iz,vz,df,hzero,rfl⟩:=qx hz;rw[hi] at df;cases df
 have cf:i.bytes<=100000:=by
  have:i.bytes=by_:=by simpa[byE,hi] using bl
  omega
 obtain⟨ax,cx,us,rfl,bz,co,ag,d3⟩:=wB aq hc hs (λid cs e=>fR e) hx;obtain⟨a0,cap,rfl,hk,hd,d4,h3,h4⟩:=dr.mJ;have hin:=fR hg;subst c1;have gx:=MZ cells news (k*sz) c5
 have i3:vz.cells.size=sz:=by rw[<-c3];simp
 by_cases bh:k+k2<=cap
 .cases ha:m.addr id cells.length with
  |none=>
   obtain⟨rfl,h5⟩:=h3 ha
   have g3:k2=0:=ab
   have di:k=0:=ab
   subst g3;subst di;have g6:news=[]:=ja (by simpa using co);have ec:us=[]:=ja (by simpa using bz);subst g6;subst ec;have fm:cells=[]:=ja h5
   have g2:iO cells (0*sz) []=cells:=by subst fm;simp[iO]
   rw[g2,FQ hs hin];refine⟨_,w,m,zY bf bk hi br ty a0 0 0 0 _ ax cx rfl [] (ag w rfl) ab w (λad _=>rfl) (λ_=>rfl),Mm.le.refl m,lC,Bel.refl _ _,hs,λb _ h=>h,λb _ _=>rfl,?_⟩;trivial
  |some bc=>
   obtain⟨b,C⟩:=bc;obtain⟨h5,h6,h7⟩:=h4 b C ha;simp only[eI] at h6 h7;obtain⟨cs,e',hh,hC,hle,hbB,a6⟩:=hs.read hin hd ha ab;have cj:(k+k2)*sz<=cap*sz:=tF _ bh;have aw:(k+k2)*sz=k*sz+k2*sz:=iY _ _ _
   have d7:∀ad,a0=some ad->(storeCells (ad.add (k*sz)) us).run P w=.ok () (fK w b (fA cs (k*sz) us) e'):=by
    intro ad e
    rcases ll cap with h0|h0
    .have f9:us=[]:=ja (by rw[bz];have:k2=0:=by omega
                           simp[this])
     subst f9;simp only[fA,storeCells];rw[tY w b cs e' hh];rfl
    .rw[h5 h0] at e;cases e;rw[Addr.jT];have:=wF (P:=P) b (0+k*sz) e' us 0 w cs hh ab (Ae c8 ab d3);simp_all
   have g9:a0=none->fK w b (fA cs (k*sz) us) e'=w:=by
    intro e
    rcases ll cap with h0|h0
    .have f9:us=[]:=ja (by rw[bz];have:k2=0:=by omega
                           simp[this])
     subst f9;exact tY w b cs e' hh
    simp_all
   have a4:=zY bf bk hi br ty a0 k cap k2 _ ax cx rfl us (ag w rfl) bh _ d7 g9;obtain⟨u1,u2,u3,u4⟩:=rM (w':=fK w b (fA cs (k*sz) us) e') hs hin hd (cells':=iO cells (k*sz) news) ab (b':=b) (C':=C) (λ_=>ha) (.inr ⟨C,ha⟩)
    (λq hq b7=>wC w b _ _ (λe=>b7 C (e▸ha)))
    ⟨fA cs (k*sz) us,e',wD w b _ _ (fj hs ⟨id,cells,C,hin,hd,ha⟩),by rw[rK,hC],ab,hbB,λj p v hp hv=>by
      rw[FP cells news (k*sz) c5] at hp;rw[rO us (k*sz) cs ab] at hv;rw[bz,<-co] at hv
      grind⟩
   refine⟨_,_,_,a4,u2,lC,Ad hbB w _ _,u1,u3,u4,?_⟩;refine .msl hd (by simp[Mm.up]) bh (λe=>?_) (λb' C' e=>?_)
   .simp[Mm.up] at e
   .simp only[Mm.up,and_self,cz,db,dC] at e
    grind
 .have hold:∃os:List Value,os.length=k*sz/\(Builtin.firstCells sz k (.slice a0 k cap)).run P w.drew=.ok os.toArray w.drew/\∀(j:Nat)(p:AV)(v:Value),j<k*sz->cells[j]?=some p->os[j]?=some v->bJ B (LB m h) m w p v:=by
   cases ha:m.addr id cells.length with
   |none=>
    obtain⟨rfl,h5⟩:=h3 ha
    have di:k=0:=ab
    subst di;exact⟨[],ae,og sz 0 a0 0 [] ae (λ_=>ae) (λ_ _ j u hj=>by simp at hj),λj p v hj=>by simp at hj⟩
   |some bc=>
    obtain⟨b,C⟩:=bc;obtain⟨h5,h6,h7⟩:=h4 b C ha;obtain⟨cs,e',hh,hC,hle,hbB,a6⟩:=hs.read hin hd ha ab;refine⟨(List.range (k*sz)).map (λj=>cs.getD j undef),ae,og sz k a0 cap _ ae (λe=>?_) (λad e j u hj=>?_),λj p v hj hp hv=>?_⟩
    .simp_all
    .obtain⟨y,hy,rfl⟩:=fX hj;obtain⟨b6,rfl⟩:=eX.1 hy;simp only[rz] at b6;simp only[tG]
     have fp:0<cap:=by
      grind
     rw[h5 fp] at e;cases e
     have dg:j<cs.size:=ab
     rw[Addr.jT,eI];show w.cell? _=_;rw[oe hh];simp[dg]
    .have dg:j<cs.size:=ab
     simp only[im,yD hj,eh,db] at hv;exact a6 j p v hp (by rw[<-hv];simp[dg])
  obtain⟨os,j2,bd,i0⟩:=hold;obtain⟨nc,rest,d',cq,a4⟩:=zZ bf bk hi br hzero ty a0 k cap k2 _ ax cx rfl us os (ag w.drew rfl) bd bh c6 cf;have cj:cap*sz<(k+k2)*sz:=Nat.mul_lt_mul_of_pos_right ab c4;have aw:(k+k2)*sz=k*sz+k2*sz:=iY _ _ _
  have b6:cells.length<k*sz+news.length:=by
   cases ha:m.addr id cells.length with
   |none=>simp_all
   |some bc=>grind
  have bq:(os.toArray++us.toArray++rest).size=nc*sz:=by
   have:(nc-(k+k2))*sz=nc*sz-(k+k2)*sz:=Nat.sub_mul _ _ _;have h9:(k+k2)*sz<=nc*sz:=tF _ d';simp_all
  have g7:(k+k2)*sz<=nc*sz:=tF _ d';obtain⟨u1,u2,u3,u4⟩:=rM (w':=w.drew.alloc (.cells (os.toArray++us.toArray++rest) e)) hs hin hd (cells':=iO cells (k*sz) news) ab (b':=w.heap.size) (C':=nc*sz) (λe=>ab) (.inl (bS _))
   (λq hq b7=>jL w.drew _ hq)
   ⟨_,e,wq w.drew _,bq,ab,hB,λj p v hp hv=>by
     rw[FP cells news (k*sz) c5] at hp;rw[vl,yG] at hv
     grind⟩
  refine⟨_,_,_,a4,u2,lC,FR hB _,u1,u3,u4,?_⟩;refine .msl hd (by simp[Mm.up]) d' (λe=>?_) (λb' C' e=>?_)
  .simp[Mm.up] at e
  .simp only[Mm.up,and_self,cz,db,dC] at e
   grind
end
end Go.Fi
namespace Go.Fi
open Go Go.RowKit
variable[bI]
section
variable{P:Program}{B:Base}{m:Mm}{w w':World}{H h:bE}{n:Nat}{env:Env}{a:Act}{L:Nat->Prop}
section
omit [bI]
theorem wG{c:List AV}(ao:¬m.dom n)(b:Nat):LB m ((n,c)::h) b↔LB m h b:=by
 constructor
 .rintro⟨id,cs,C,hin,hd,ha⟩
  rcases dM.1 hin with e|e
  .simp_all
  .exact⟨id,cs,C,e,hd,ha⟩
 .rintro⟨id,cs,C,hin,hd,ha⟩
  exact⟨id,cs,C,eH _ hin,hd,ha⟩
theorem Af(hs:cX B h m w){c:List AV}(ao:¬m.dom n)(b7:∀id cs,(id,cs)∈h->id≠n):cX B ((n,c)::h) m w:=by
 have hL:LB m ((n,c)::h)=LB m h:=funext λb=>propext (wG ao b)
 refine⟨λid cells hin hd=>?_,?_⟩
 .rw[hL]
  rcases dM.1 hin with e|e
  .simp_all
  .exact hs.entry id cells e hd
 .refine DN.2 ⟨λy hy=>⟨λe=>b7 y.1 y.2 hy e.symm,λb C C' hd=>absurd hd ao⟩,hs.inj⟩
theorem M4(hs:cX B h m w)(ao:¬m.dom n)(b7:∀id cs,(id,cs)∈h->id<n)(hB:B.n<=w.heap.size){t tx e sz:Nat}{ex:TypeId×Nat}{by_:Nat}{z:List AV}(ht:slE P t=some (e,sz))(bj:slE P tx=some ex)(bl:byE P e=some by_)(hz:fw P e=some z){x s:Value}{xa:AV}{k2:Nat}{news:List AV}{c:Prop}(aq:iN h sz xa=some (k2,news,c))(hc:c)(hx:bJ B (LB m h) m w xa x){own:Bool}(dr:bJ B (LB m h) m w (.w own true (.sl 0 [])) s)(c1:0<k2)(c3:z.length=sz)(c6:k2<=1000000000)(c7:by_<=100000)(ty:TypeId):∃v' w' m',(Builtin.append_ #[t,tx] ty #[s,x]).run P w=.ok v' w'/\EPost B h m w n ((n,news)::h) (n+1) (.msl n news.length sz 0 k2) v' w' m':=by
 have ej:=Af (c:=news) hs ao (λid cs hin=>by have:=b7 id cs hin;omega)
 have hL:LB m ((n,news)::h)=LB m h:=funext λb=>propext (wG ao b)
 obtain⟨bf,i,hi,br⟩:=ky ht;obtain⟨bk,_⟩:=ky (e:=ex.1) (z:=ex.2) bj;obtain⟨iz,vz,df,hzero,rfl⟩:=qx hz;rw[hi] at df;cases df
 have cf:i.bytes<=100000:=by
  have:i.bytes=by_:=by simpa[byE,hi] using bl
  omega
 obtain⟨ax,cx,us,rfl,bz,co,ag,d3⟩:=wB aq hc hs (λid cs e=>fR e) hx;obtain⟨a0,cap,rfl,_,cg,_,_⟩:=dr.oF;have b9:=cg rfl;subst b9
 have i3:vz.cells.size=sz:=by rw[<-c3];simp
 obtain⟨nc,rest,d',cq,a4⟩:=zZ bf bk hi br hzero ty a0 0 0 k2 _ ax cx rfl us [] (ag w.drew rfl)
  (og sz 0 a0 0 [] ae (λ_=>ae) (λ_ _ j u hj=>by simp at hj)) ab ab cf
 simp only[eI] at d' cq a4;have g7:k2*sz<=nc*sz:=tF _ d'
 have bq:(#[]++us.toArray++rest).size=nc*sz:=by
  have:(nc-k2)*sz=nc*sz-k2*sz:=Nat.sub_mul _ _ _;simp_all
 have g8:cX B ((n,news)::h) (m.new n news.length (some (w.heap.size,nc*sz))) (w.drew.alloc (.cells (#[]++us.toArray++rest) e)):=by
  rw[<-bq]
  exact Fw (w:=w.drew) (ej.below (w':=w.drew) (Bel.refl _ _).drew) hB (id:=n) (cells:=news) (gF) ao (#[]++us.toArray++rest) e (by rw[bq];omega) (λj p v hp hv=>by
  have hj:=(eX.1 hp).1;rw[Array.empty_append,yG,na,b8 ab,yC] at hv;rw[hL]
  exact (d3 j p v hp hv).mono (Mm.le.refl m) (λ_ _ h=>h) (λ_ _ _=>rfl))
 refine⟨_,_,m.new n news.length (some (w.heap.size,nc*sz)),a4,Mm.uO ao,λi=>?_,FR hB _,g8,λb hb hn hl=>?_,λb hb _=>jL w.drew _ hb,?_⟩
 .simp only[Mm.new]
  grind
 .rcases tW (w:=w) ej (gF) hl with h1|⟨C,h1⟩
  .rw[hL] at h1;exact hn h1
  simp_all
 .refine .msl (Or.inr rfl) a8 d' (λe=>?_) (λb' C' e=>?_)
  .simp[Mm.new] at e
  .simp only[Mm.new,and_self,cz,db,dC] at e;simp_all
theorem M5(hs:cX B h m w)(hB:B.n<=w.heap.size){t tx e sz:Nat}{ex:TypeId×Nat}{by_:Nat}{z:List AV}(ht:slE P t=some (e,sz))(bj:slE P tx=some ex)(bl:byE P e=some by_)(hz:fw P e=some z){x s:Value}{xa:AV}{k2:Nat}{news:List AV}{c:Prop}(aq:iN h sz xa=some (k2,news,c))(hc:c)(hx:bJ B (LB m h) m w xa x){q:List PV}(hq:pvs news=some q){own:Bool}{k:Nat}{cells:List PV}(dr:bJ B (LB m h) m w (.w own true (.sl k cells)) s)(c1:cells.length=k*sz)(c3:z.length=sz)(c6:k+k2<=1000000000)(c7:by_<=100000)(ty:TypeId):∃v' w' m',(Builtin.append_ #[t,tx] ty #[s,x]).run P w=.ok v' w'/\EPost B h m w n h n (.w (jA q&&(own || cells.isEmpty)) false (.sl (k+k2) (cells++q))) v' w' m':=by
 obtain⟨v',w',a4,hb,ej,hv⟩:=FI hs (λid cs e=>fR e) hB ht bj bl hz aq hc hx hq dr c1 c3 c6 c7 ty;exact⟨v',w',m,a4,Mm.le.refl m,lC,hb.mono hB,ej,λb _ h=>h,λb bu _=>hb.block b bu,hv⟩
end
end
end Go.Fi
namespace Go.Fi
open Go Go.RowKit
def shr(sz k:Nat):AV->AV
 |.msl id ver z off k2=>.msl id ver z off (min k2 k)
 |.w own _ (.sl k2 c)=>.w own false (.sl (min k2 k) (c.take (min k2 k*sz)))
 |x=>x
def pH(P:Program)(h:bE)(t:TypeId)(d x:AV):Option (Prop×AV×bE):=
 match slE P t,d with
 |some (_,sz),.msl id ver z' off k=>
  match cJ h id,iN h sz (shr sz k x) with
  |some cells,some (kk,news,c)=>some ((c/\cells.length=ver/\z'=sz/\off+k*sz<=ver/\eo news=true),.w false false (.int .i64 kk),dQ h id (setAt cells off news))
  |_,_=>none
 |_,_=>none
def su(P:Program)(h:bE)(args:List AV)(tys:List TypeId):Option (Prop×AV×bE):=
 match args,tys with
 |[d,x],t::_=>pH P h t d x
 |_,_=>none
def sw(P:Program)(env:Env)(h:bE)(n:Nat)(args:List Operand)(tys:List TypeId)(K:AV->bE->Nat->Prop):Prop:=
 match su P h (args.map (ev env)) tys with
 |some (c,v,h')=>c/\K v h' n
 |none=>False
section
variable{P:Program}{B:Base}{m:Mm}{w w':World}{H h:bE}{n:Nat}{env:Env}{a:Act}{L:Nat->Prop}
theorem M6{sz k:Nat}{x:AV}{v:Value}{y:Nat×List AV×Prop}(h0:iN h sz (shr sz k x)=some y)(hx:bJ B L m w x v):∃a0 k2 cap,v=.slice a0 k2 cap/\y.1=min k2 k/\bJ B L m w (shr sz k x) (.slice a0 (min k2 k) cap):=by
 cases x with
 |msl id ver z off k2=>
  obtain⟨a0,cap,rfl,h1,h2,h3,h4,h5⟩:=hx.mJ;refine⟨a0,k2,cap,rfl,?_,.msl h2 h3 ab h4 h5⟩;simp only[shr,iN] at h0
  grind
 |w own f p=>
  cases p with
  |sl k2 c=>
   obtain⟨a0,cap,rfl,h1,h2,h3,h4⟩:=hx.oF;refine⟨a0,k2,cap,rfl,?_,?_⟩
   .simp only[shr,iN] at h0
    grind
   .simp only[shr];refine .w ?_ nofun
    cases hc:c with
    |nil=>
     cases ha:a0 with
     |none=>
      obtain⟨rfl,rfl⟩:=h3 ha;simp only[List.take_nil,Nat.zero_min];exact .slnil
     |some a=>
      simp only[List.take_nil];exact .slz ab
    |cons y ys=>
     obtain⟨b,off,vals,rfl,h5,h6,h7⟩:=h4 (by rw[hc];simp);rw[<-hc];refine .sl vals ab (λj hj=>h5 j (by simp at hj;omega)) (λ_=>h6) (λj q hq=>?_);rw[j5] at hq;simp_all
  |_=>simp[shr,iN] at h0
 |_=>simp[shr,iN] at h0
theorem M7(hs:cX B h m w){t:TypeId}{d x:AV}{dv xv:Value}{c:Prop}{v:AV}{h':bE}(hr:pH P h t d x=some (c,v,h'))(hc:c)(hd:bJ B (LB m h) m w d dv)(hx:bJ B (LB m h) m w x xv)(tys:List TypeId)(ty:TypeId):∃v' w' m',(Builtin.copy_ (t::tys).toArray ty #[dv,xv]).run P w=.ok v' w'/\EPost B h m w n h' n v v' w' m':=by
 unfold pH at hr;split at hr
 .rename_i e sz id ver z' off k ht;split at hr
  .rename_i cells kk news c' hg aq;cases hr;obtain⟨c0,c1,c2,c3,c4⟩:=hc;subst c2;subst c1;obtain⟨bf,i,hi,br⟩:=ky ht;obtain⟨ax,k2,cx,rfl,aw,jf⟩:=M6 aq hx;simp only at aw;obtain⟨jm,jo,us,hv,bz,co,ag,d3⟩:=wB aq c0 hs (λid cs e=>fR e) jf
   injection hv with j9 jv j'
   subst j9 j'
   have b4:(Builtin.firstCells z' kk (.slice ax k2 cx)).run P w=.ok us.toArray w:=by
    have:=ag w rfl;rw[<-aw] at this;rw[<-this]
    cases ax<;>rfl
   obtain⟨a0,cap,rfl,hk,bi,d4,h3,h4⟩:=hd.mJ;rw[mf h id _ (mg hs)];have hin:=fR hg;have cj:kk*z'<=k*z':=tF _ ab
   cases ha:m.addr id cells.length with
   |none=>
    obtain⟨rfl,h5⟩:=h3 ha
    have di:kk=0:=ab
    have fm:cells=[]:=ja h5;subst fm;have ec:us=[]:=ja (by rw[bz,di];simp);have g6:news=[]:=ja (by rw[co,di];simp);subst ec g6;have ck:Nat.min k2 k=kk:=aw.symm;have dl:jB h id (setAt [] off [])=h:=FQ hs hin;refine⟨.int .i64 kk,w,m,?_,Mm.le.refl m,lC,Bel.refl _ _,?_,λb _ h=>?_,λb _ _=>rfl,.w (.int _ _) nofun⟩
    .cases a0 with
     |none=>simp[Builtin.copy_,run_underlying bf,sizeOf,typeInfo,hi,br,Builtin.lenOf,ck,b4,goInt]
     |some ad=>simp[Builtin.copy_,run_underlying bf,sizeOf,typeInfo,hi,br,Builtin.lenOf,ck,b4,goInt,storeCells]
    .have:=hs;rw[<-dl] at this;exact this
    .have h2:=h;rw[<-dl] at h2;exact h2
   |some bc=>
    obtain⟨b,C⟩:=bc;obtain⟨h5,h6,h7⟩:=h4 b C ha;obtain⟨cs,e',hh,hC,hle,hbB,a6⟩:=hs.read hin bi ha ab;have hlen:(setAt cells off news).length=cells.length:=wy _ _ _;have d7:=wF (P:=P) b off e' us 0 w cs hh ab (Ae c4 ab d3);simp only[m8] at d7;have ck:Nat.min k2 k=kk:=aw.symm
    have a4:(Builtin.copy_ (t::tys).toArray ty #[.slice a0 k cap,.slice ax k2 cx]).run P w=.ok (.int .i64 kk) (fK w b (fA cs off us) e'):=by
     cases a0 with
     |none=>
      have b9:cap=0:=by
       grind
      have ec:us=[]:=ja (by rw[bz,show kk=0 by omega];simp);subst ec;simp only[fA];rw[tY w b cs e' hh];simp[Builtin.copy_,run_underlying bf,sizeOf,typeInfo,hi,br,Builtin.lenOf,ck,b4,goInt]
     |some ad=>
      have gf:(storeCells ad us).run P w=.ok () (fK w b (fA cs off us) e'):=by
       rcases ll cap with h0|h0
       .have ec:us=[]:=ja (by rw[bz,show kk=0 by omega];simp);subst ec;simp only[fA,storeCells];rw[tY w b cs e' hh];rfl
       grind
      simp[Builtin.copy_,run_underlying bf,sizeOf,typeInfo,hi,br,Builtin.lenOf,ck,b4,goInt,gf]
    obtain⟨u1,u2,u3,u4⟩:=rM (w':=fK w b (fA cs off us) e') hs hin bi (cells':=setAt cells off news) ab (b':=b) (C':=C) (λ_=>ha) (.inr ⟨C,ha⟩)
     (λq hq b7=>wC w b _ _ (λe=>b7 C (e▸ha)))
     ⟨fA cs off us,e',wD w b _ _ (fj hs ⟨id,cells,C,hin,bi,ha⟩),by rw[rK,hC],ab,hbB,
       (Ac news us off cells cs ⟨ab,a6⟩ ab d3).2⟩
    exact⟨_,_,_,a4,u2,lC,Ad hbB w _ _,u1,u3,u4,.w (.int _ _) nofun⟩
  .cases hr
 .cases hr
end
end Go.Fi
namespace Go.Fi
open Go Go.RowKit
variable[bI]
structure St where
 env:Env
 heap:bE
 nxt:Nat
 nt:Nat
def AV.lt(n:Nat):AV->Bool
 |.w _ _ _=>true
 |.ptr id _ _=>decide (id<n)
 |.msl id _ _ _ _=>decide (id<n)
 |.mp id=>decide (id<n)
 |.agg cs=>ltL n cs
 |.tup cs=>ltL n cs
 |.fn _ cs=>ltL n cs
where ltL (n:Nat):List AV->Bool
 |[]=>true
 |x::r=>x.lt n&&ltL n r
section
omit [bI]
theorem o6{n:Nat}:∀{l:List AV},AV.lt.ltL n l=true->∀(j:Nat)(x:AV),l[j]?=some x->x.lt n=true
 |[],_,j,x,h=>by simp at h
 |y::l,hp,j,x,h=>by
  simp only[AV.lt.ltL,eY] at hp
  cases j with
  |zero=>simp_all
  |succ j=>exact o6 hp.2 j x av
theorem bJ.Cr{B:Base}{L L':Nat->Prop}{m:Mm}{w:World}{x:AV}{v:Value}(h:bJ B L m w x v){n:Nat}(hl:x.lt n=true)(hL:∀b,L' b->L b):bJ B L' { m with dom:=λi=>i<n } w x v:=by
 induction h with
 |w hr hf=>exact .w (hr.imp λb hg=>⟨λhb=>hg.1 (hL b hb),hg.2⟩) hf
 |ptr hd ht ha hC=>exact .ptr (by simpa[AV.lt] using hl) ht ha hC
 |mp hd ht ha=>exact .mp (by simpa[AV.lt] using hl) ht ha
 |msl hd ht hn h0 h1=>exact .msl (by simpa[AV.lt] using hl) ht hn h0 h1
 |agg hlen _ ih=>exact .agg hlen (λj p v hp hv=>ih j p v hp hv (o6 aE j p hp))
 |tup hlen _ ih=>exact .tup hlen (λj p v hp hv=>ih j p v hp hv (o6 aE j p hp))
 |fn hlen _ ih=>exact .fn hlen (λj p v hp hv=>ih j p v hp hv (o6 aE j p hp))
theorem AV.sA{n n':Nat}(hn:n<=n'):∀{x:AV},x.lt n=true->x.lt n'=true
 |.w _ _ _,_=>rfl
 |.ptr _ _ _,h=>by simp only[AV.lt,decide_eq_true_eq] at h ⊢;omega
 |.msl _ _ _ _ _,h=>by simp only[AV.lt,decide_eq_true_eq] at h ⊢;omega
 |.mp _,h=>by simp only[AV.lt,decide_eq_true_eq] at h ⊢;omega
 |.agg cs,h=>xQ hn (cs:=cs) h
 |.tup cs,h=>xQ hn (cs:=cs) h
 |.fn _ cs,h=>xQ hn (cs:=cs) h
where xQ {n n':Nat} (hn:n<=n'):∀{cs:List AV},AV.lt.ltL n cs=true->AV.lt.ltL n' cs=true
 |[],_=>rfl
 |x::r,h=>by
  simp only[AV.lt.ltL,eY] at h ⊢;exact⟨AV.sA hn h.1,xQ hn h.2⟩
end
structure RI where
 l:Nat
 env:Env
 nt:Nat
 ps:Array Tmp
 assign:Code
 body:Code
structure Fk where
 k:Nat
 ri:Option RI
abbrev fk0:Fk:=⟨0,none⟩
def marks(ds:List Nat):List Deferred:=ds.map λD=>{ target:=.collected D,args:=#[] }
def dm(ri:RI)(fn:FuncId)(T:Array Value)(D:Nat)(s:LoopState)(p:Option Code):Obj:=.loop { state:=s,pending:=p,fn:=fn,tmps:=T,params:=ri.ps,assign:=ri.assign,body:=ri.body,defers:=D }
def Rj(ri:RI)(F:List (AV×Value))(obs:List (Nat×Obj)):Prop:=
 ∃fn T D,(ri.l,dm ri fn T D .ready none)∈obs/\T.size=ri.nt/\∀t v,(t,v)∈ri.env->(get ri.env t,T.getD t undef)∈F
def Ir(fk:Fk)(F:List (AV×Value))(obs:List (Nat×Obj)):Prop:=∀ri,fk.ri=some ri->Rj ri F obs
structure Ctx(fk:Fk) where
 w:World
 F:List (AV×Value)
 r:Option Nat
 obs:List (Nat×Obj)
 ds:List Nat
 dm:Ir fk F obs
 ok:bI.ok w
def pJ(B:Base){fk:Fk}(w0:Ctx fk)(L:Nat->Prop)(m:Mm)(w:World)(n:Nat):Prop:=
 fk.k<=n/\(∀p∈w0.F,p.1.lt fk.k=true/\bJ B L m w p.1 p.2)/\∀q∈w0.obs,B.n<=q.1/\q.1<w.heap.size/\¬L q.1/\w.heap[q.1]?=some q.2
theorem pJ.mono{B:Base}{fk:Fk}{w0:Ctx fk}{L L':Nat->Prop}{m m':Mm}{w w':World}{n n':Nat}(h:pJ B w0 L m w n)(hm:m.le m')(hL:∀b,b<w.heap.size->¬L b->¬L' b)(hw:∀b,b<w.heap.size->¬L b->w'.heap[b]?=w.heap[b]?)(hn:n<=n'):pJ B w0 L' m' w' n':=
 ⟨dJ h.1 hn,λp hp=>⟨(h.2.1 p hp).1,(h.2.1 p hp).2.mono hm hL hw⟩,λq hq=>by
   obtain⟨h1,h2,h3,h4⟩:=h.2.2 q hq;have h5:=(hw q.1 h2 h3).trans h4
   grind⟩
structure Sim{fk:Fk}(B:Base)(w0:Ctx fk)(st:St)(a:Act)(w:World)(m:Mm):Prop where
 base:B.n=w0.w.heap.size
 below:Bel B.n w0.w w
 defers:a.defers=marks w0.ds
 size:a.tmps.size=st.nt
 env:∀t,bJ B (LB m st.heap) m w (get st.env t) (a.tmps.getD t undef)
 heap:cX B st.heap m w
 dom:∀i,m.dom i↔i<st.nxt
 ids:∀id c,(id,c)∈st.heap->id<st.nxt
 fr:pJ B w0 (LB m st.heap) m w st.nxt
theorem Sim.ok{fk:Fk}{B:Base}{w0:Ctx fk}{st:St}{a:Act}{w:World}{m:Mm}(h:Sim B w0 st a w m):bI.ok w:=
 bI.keep w0.ok (by have:=h.below;rw[h.base] at this;exact this)
theorem Sim.room{fk:Fk}{B:Base}{w0:Ctx fk}{st:St}{a:Act}{w:World}{m:Mm}(h:Sim B w0 st a w m):B.n<=w.heap.size:=by
 have:=h.below.size;have:=h.base;omega
theorem Sim.bel{fk:Fk}{B:Base}{w0:Ctx fk}{st:St}{a:Act}{w w':World}{m:Mm}(h:Sim B w0 st a w m)(hb:Bel w.heap.size w w'):Sim B w0 st a w' m:=
 ⟨h.base,h.below.trans (hb.mono h.room),h.defers,h.size,λt=>(h.env t).mono (Mm.le.refl m) (λ_ _ x=>x) (λb hl _=>hb.block b hl),h.heap.below hb,h.dom,h.ids,
   h.fr.mono (Mm.le.refl m) (λ_ _ x=>x) (λb hl _=>hb.block b hl) (bS _)⟩
theorem Sim.move{fk:Fk}{B:Base}{w0:Ctx fk}{st:St}{a:Act}{w w':World}{m:Mm}(h:Sim B w0 st a w m)(e:EnvD.E w w'):Sim B w0 st a w' m:=h.bel (EnvD.ext e)
def dOk(nt:Nat):Option Nat->Prop
 |some d=>d<nt
 |none=>True
section
variable{P:Program}{B:Base}{m:Mm}{w w':World}{H h:bE}{n:Nat}{env:Env}{a:Act}{L:Nat->Prop}
section
omit [bI]
theorem M8(hs:cX B h m w){t sz:Nat}{g:Bool}(ht:tyL P t=some (sz,g)){id ver off:Nat}{ad xv:Value}{x:AV}{cells:List AV}(fi:bJ B (LB m h) m w (.ptr id ver off) ad)(hx:bJ B (LB m h) m w x xv)(hg:cJ h id=some cells)(c1:cells.length=ver)(c2:x.ok=true)(c3:x.cells.length=sz)(c4:off+sz<=cells.length)(c5:eo x.cells=true):∃w' m',(Instr.storeAt t ad xv).run P w=.ok () w'/\EPost B h m w n (dQ h id (setAt cells off x.cells)) n (.tup []) undef w' m':=by
 rw[mf h id _ (mg hs)];obtain⟨b,C,rfl,hd,hvC,ha⟩:=fi.pF;rw[<-c1] at ha hvC;have hin:=fR hg;obtain⟨cs,e',hh,hC,hle,hbB,a6⟩:=hs.read hin hd ha hvC.2;obtain⟨h1,h2⟩:=vZ hx c2;obtain⟨i,d,hi,br,_,_⟩:=Ft (w:=w) ht;have hlen:(setAt cells off x.cells).length=cells.length:=wy _ _ _
 have d3:∀(j:Nat)(p:AV)(u:Value),x.cells[j]?=some p->xv.cells.toList[j]?=some u->bJ B (LB m h) m w p u:=λj p u hp hu=>h2 j p u hp (by rw[<-iW];exact hu)
 have d7:=wF (P:=P) b off e' xv.cells.toList 0 w cs hh ar (Ae c5 ar d3);simp only[m8] at d7
 have a4:(Instr.storeAt t (.pointer (some ⟨b,off,none⟩)) xv).run P w=.ok () (fK w b (fA cs off xv.cells.toList) e'):=by
  have gi:xv.cells.size=i.size:=ab
  simp[Instr.storeAt,Instr.sureAddr,storeVar,sizeOf,typeInfo,hi,gi,d7]
 obtain⟨u1,u2,u3,u4⟩:=rM (w':=fK w b (fA cs off xv.cells.toList) e') hs hin hd (cells':=setAt cells off x.cells) ab (b':=b) (C':=C) (λ_=>ha) (.inr ⟨C,ha⟩)
  (λq hq b7=>wC w b _ _ (λe=>b7 C (e▸ha)))
  ⟨fA cs off xv.cells.toList,e',wD w b _ _ (fj hs ⟨id,cells,C,hin,hd,ha⟩),by rw[rK,hC],ab,hbB,
    (Ac x.cells xv.cells.toList off cells cs ⟨ab,a6⟩ ab d3).2⟩
 exact⟨_,_,a4,u2,lC,Ad hbB w _ _,u1,u3,u4,.tup rfl (λj p v hp=>by simp at hp)⟩
theorem ni(env:Env)(a:Act)(d:Option Nat)(v:AV)(v':Value)(hd:dOk a.tmps.size d)(hv:bJ B L m w v v')(he:∀t,bJ B L m w (get env t) (a.tmps.getD t undef)):∀t,bJ B L m w (get (put env d v) t) ((a.put d v').tmps.getD t undef):=by
 intro t
 cases d with
 |none=>exact he t
 |some d=>
  simp only[put,get,Act.put];by_cases ic:d=t
  .subst ic;simp only[cz];rw[dF,iU];simp only[cz];rw[b8 (show d<a.tmps.size from hd)];exact hv
  simp_all
theorem kE(a:Act)(d:Option Nat)(v:Value):(a.put d v).tmps.size=a.tmps.size:=by cases d<;>simp[Act.put]
theorem kI(a:Act)(d:Option Nat)(v:Value):(a.put d v).defers=a.defers:=by cases d<;>rfl
theorem lD:∀(E:List (List AV))(h:bE)(n:Nat)(id:Nat)(c:List AV),(id,c)∈cV h n E↔(id,c)∈h\/∃k,E[k]?=some c/\id=n+k
 |[],h,n,id,c=>by simp[cV]
 |x::E,h,n,id,c=>by
  simp only[cV,dM,dC,lD E h (n+1) id c];constructor
  .rintro (⟨rfl,rfl⟩|h1|⟨k,h1,rfl⟩)
   .exact .inr ⟨0,rfl,rfl⟩
   .exact .inl h1
   .exact .inr ⟨k+1,by simpa using h1,ab⟩
  grind
theorem wH:∀(E:List (List AV))(h:bE)(n:Nat),cX B h m w->(∀i,n<=i->¬m.dom i)->(∀id c,(id,c)∈h->id<n)->cX B (cV h n E) m w/\LB m (cV h n E)=LB m h
 |[],h,n,hs,_,_=>⟨hs,rfl⟩
 |x::E,h,n,hs,hd,hi=>by
  have ao:=hd n (bS _);obtain⟨h1,h2⟩:=wH E h (n+1) hs (λi hi=>hd i ab) (λid c hin=>by have:=hi id c hin;omega)
  have:=Af (c:=x) h1 ao (λid c hin=>by
   rcases (lD E h (n+1) id c).1 hin with h3|⟨k,_,rfl⟩
   .have:=hi id c h3;omega
   .omega)
  refine⟨this,?_⟩;show LB m ((n,x)::cV h (n+1) E)=_;rw[show LB m ((n,x)::cV h (n+1) E)=LB m (cV h (n+1) E) from funext λb=>propext (wG ao b),h2]
end
def mN(s:ByteArray):List PV:=s.data.toList.map λb=>PV.int .u8 b.toNat
def sB(P:Program)(src dst:TypeId):Bool:=
 match P.underlying src,P.underlying dst with
 |some _,some (.slice e)=>match P.underlying e with
  |some (.int .u8)=>true
  |_=>false
 |_,_=>false
omit [bI] in
theorem M9(hs:cX B h m w)(hB:B.n<=w.heap.size){src dst:TypeId}(hb:sB P src dst=true)(s:ByteArray):∃v' w',(convert src dst (.string s)).run P w=.ok v' w'/\EPost B h m w n h n (.w true false (.sl s.size (mN s))) v' w' m:=by
 unfold sB at hb;split at hb
 .rename_i u e hu hd;split at hb
  .rename_i he
   refine⟨_,_,Lib.run_convert_string_bytes w src dst e s hu hd he,Mm.le.refl m,lC,⟨rfl,rfl,by rw[Lib.bytesWorld_size];simp,λk hk=>Lib.bytesWorld_at_old w e s k ab⟩,
    hs.below ⟨rfl,rfl,by rw[Lib.bytesWorld_size];simp,λb hb=>Lib.bytesWorld_at_old w e s b hb⟩,λb _ h=>h,λb hb _=>Lib.bytesWorld_at_old w e s b hb,.w ?_ nofun⟩
   have hlen:(mN s).length=s.size:=by simp[mN]
   have b9:s.size<=grownCap w s.size 0 e:=grownCap_ge w _ _ e;refine .sl (b:=w.heap.size) (off:=0) (λj=>.int .u8 (s.data.toList.getD j 0).toNat) b9 (λj hj=>?_) (λ_=>⟨λhl=>?_,λ_=>hB,λhl=>?_⟩) (λj p hp=>?_)
   .rw[eI];exact Lib.bytesWorld_cell w e s j ab
   .have:=fj hs hl;omega
   .omega
   .unfold mN at hp;rw[im] at hp;obtain⟨b,ek,rfl⟩:=tD.1 hp
    have:s.data.toList.getD j 0=b:=by rw[dZ,ek];rfl
    rw[this];exact .int _ _
  .cases hb
 .cases hb
def xR(P:Program)(env:Env)(h:bE)(n:Nat)(src dst:TypeId)(x:Operand)(K:AV->bE->Nat->Prop):Prop:=
 match ev env x with
 |.w _ _ (.str s)=>sB P src dst=true/\K (.w true false (.sl s.size (mN s))) h n
 |_=>dk P env h n (.convert src dst x) λv E=>K v (cV h n E) (n+E.length)
def Rk(P:Program)(h:bE)(n:Nat)(t:TypeId)(K:AV->bE->Nat->Prop):Prop:=(nI P t).isSome=true/\K (.mp n) ((n,[gZ []])::h) (n+1)
def sD(P:Program)(env:Env)(h:bE)(n:Nat)(t:TypeId)(m k v:Operand)(K:AV->bE->Nat->Prop):Prop:=
 match ev env m with
 |.mp id=>match (cJ h id).bind fN,ev env k,ev env v,nI P t with
  |some l,.w _ _ kp,.w _ _ vp,some (d,_)=>(okM d kp l=true/\isLit vp=true)/\K (.tup []) (dQ h id [gZ (jR l kp vp)]) n
  |_,_,_,_=>False
 |_=>False
def dp(P:Program)(env:Env)(h:bE)(n:Nat)(op:Op)(K:AV->bE->Nat->Prop):Prop:=
 match op with
 |.store t ad x=>sr P env h n t ad x K
 |.call { callee:=.builtin .append,args:=args,argTypes:=tys }=>sj P env h n args.toList tys.toList K
 |.call { callee:=.builtin .copy,args:=args,argTypes:=tys }=>sw P env h n args.toList tys.toList K
 |.convert src dst x=>xR P env h n src dst x K
 |.makeMap t none=>Rk P h n t K
 |.mapUpdate t m k v=>sD P env h n t m k v K
 |op=>dk P env h n op λv E=>K v (cV h n E) (n+E.length)
section
omit [bI]
theorem Na{d:TypeDesc}{k v:PV}(hk:okK d k=true){es:Array MapEntry}{l:List (PV×PV)}(bw:oE es l)(hl:∀p∈l,okK d p.1=true):(∀i q,gz l k 0=some (i,q)->oE (es.modify i λe=>{ e with key:=dN k,val:=dN v }) (jR l k v))/\(gz l k 0=none->∀clk,oE (es.push { key:=dN k,val:=dN v,born:=clk }) (jR l k v)):=by
 have gen:∀(l:List (PV×PV))(s:Nat)(q:PV)(i:Nat),gz l k s=some (i,q)->s<=i/\i-s<l.length/\jR l k v=l.set (i-s) (k,v):=by
  intro l
  induction l with
  |nil=>intro s q i h;cases h
  |cons p r ih=>
   intro s q i h;unfold gz at h;unfold jR;split at h
   .simp_all
   .rename_i hp;rw[bP hp];obtain⟨h1,h2,h3⟩:=ih (s+1) q i h;refine⟨ab,ak,?_⟩;rw[h3,show i-s=(i-(s+1))+1 by omega];rfl
 have gen2:∀(l:List (PV×PV))(s:Nat),gz l k s=none->jR l k v=l++[(k,v)]:=by
  intro l
  induction l with
  |nil=>intro s _;rfl
  |cons p r ih=>
   intro s h;unfold gz at h;unfold jR
   grind
 refine⟨λi q h=>?_,λh clk=>?_⟩
 .obtain⟨_,h2,h3⟩:=gen l 0 q i h;rw[DO] at h2 h3;rw[h3];refine⟨by simp[bw.1],λj p e hp he=>?_⟩;rw[JN] at hp;rw[fu] at he;by_cases g1:i=j
  .grind
  .simp only[g1,cT] at hp he;exact bw.2 j p e hp he
 .rw[gen2 l 0 h];refine⟨by simp[bw.1],λj p e hp he=>?_⟩
  rcases fo j l.length with hj|hj
  .rw[rA hj] at hp;rw[qg,bP (by have:=bw.1;omega)] at he;exact bw.2 j p e hp he
  .have ij:j=l.length:=by
    have:=(eX.1 hp).1;simp at this;omega
   subst ij;simp at hp;subst hp;rw[qg,b8 bw.1] at he
   grind
theorem FT:∀(l:List (PV×PV))(k:PV)(s i:Nat)(q:PV),gz l k s=some (i,q)->∃p,l[i-s]?=some p/\eqK k p.1=true
 |[],k,s,i,q,h=>by cases h
 |p::r,k,s,i,q,h=>by
  unfold gz at h;split at h
  .simp_all
  .obtain⟨p',h1,h2⟩:=FT r k (s+1) i q h
   have hi:s+1<=i:=by
    have:∀(r:List (PV×PV))(s:Nat),gz r k s=some (i,q)->s<=i:=by
     intro r
     induction r with
     |nil=>intro s h;cases h
     |cons y r ih=>
      intro s h;unfold gz at h;split at h
      .injection h with h;injection h with h1 _;omega
      .have:=ih (s+1) h;omega
    exact this r (s+1) h
   grind
theorem Nb{a b:PV}(h:eqK a b=true):dN a=dN b:=by
 cases a<;>cases b<;>simp[eqK] at h
 .obtain⟨rfl,rfl⟩:=h;rfl
 grind
theorem Nc(hs:cX B h m w){t:TypeId}{id:Nat}{cells:List AV}{l:List (PV×PV)}{mv kv vv:Value}{ok fk ov fv:Bool}{kp vp:PV}{d:TypeDesc}{z:PV}(hm:bJ B (LB m h) m w (.mp id) mv)(hk:bJ B (LB m h) m w (.w ok fk kp) kv)(hv:bJ B (LB m h) m w (.w ov fv vp) vv)(hg:cJ h id=some cells)(hd:fN cells=some l)(ht:nI P t=some (d,z))(hc:okM d kp l=true)(jc:isLit vp=true):∃w' m',(Instr.mapUpdate t mv kv vv).run P w=.ok () w'/\EPost B h m w n (dQ h id [gZ (jR l kp vp)]) n (.tup []) undef w' m':=by
 rw[mf h id _ (mg hs)];have hin:=fR hg;obtain⟨b,es,clk,rfl,bi,d8,ha,hb,hB,bw⟩:=hs.Iq hin hm hd;obtain⟨kt,et,hu,gu,_⟩:=FE ht;unfold okM at hc;rw[eY,gp] at hc;obtain⟨em,i8⟩:=hc
 have hl:∀p∈l,okK d p.1=true:=λp hp=>by have:=i8 p hp;rw[eY] at this;exact this.1
 have iu:kv=dN kp:=by cases hk with|w hr _=>exact zX (FD em) hr
 have jd:vv=dN vp:=by cases hv with|w hr _=>exact zX jc hr
 subst iu;subst jd;have hf:=zV em l es.toList 0 (by rw[DC];exact bw.1) (λj p e hp he=>bw.2 j p e hp (by rw[<-iW];exact he)) hl;obtain⟨q1,q2⟩:=Na (v:=vp) em bw hl
 have a4:∀o,(match gz l kp 0 with
  |some x=>o=Obj.map (es.modify x.1 λe=>{ e with key:=dN kp,val:=dN vp }) clk
  |none=>o=Obj.map (es.push { key:=dN kp,val:=dN vp,born:=clk }) (clk+1))->(Instr.mapUpdate t (.map (some b)) (dN kp) (dN vp)).run P w=.ok () { w with heap:=w.heap.setIfInBounds b o }:=by
  intro o ho;unfold Instr.mapUpdate;simp only[Sem.run_bind,run_underlying hu,Result.andThen_ok,MapKept.run_getObj_map hb];rw[show (10000:Nat)=9999+1 from rfl,MapKept.run_checkKey gu (zU em)];simp only[Result.andThen_ok];rw[MapKept.run_findKey gu hf];simp only[Result.andThen_ok]
  cases hq:gz l kp 0 with
  |none=>
   rw[hq] at ho;simp only[JM];rw[MapKept.run_setObj_map _ hb,ho]
  |some x=>
   rw[hq] at ho;obtain⟨i,q⟩:=x;simp only[eh]
   have hold:((es[i]?).map (·.key)).getD (dN kp)=dN kp:=by
    obtain⟨p,hp,j3⟩:=FT l kp 0 i q hq;rw[DO] at hp
    have gw:i<es.size:=by rw[<-bw.1];grind
    have:=(bw.2 i p _ hp (du gw)).1;rw[du gw];simp only[eh,oR];rw[this];exact (Nb j3).symm
   simp only[Sem.run_bind,hold,MapKept.run_keyThatStays (zU em),Result.andThen_ok];rw[MapKept.run_setObj_map _ hb,ho]
 have i7:b<w.heap.size:=fj hs ⟨id,cells,0,hin,bi,ha⟩
 have fin:∀dt bt,oE dt (jR l kp vp)->(Instr.mapUpdate t (.map (some b)) (dN kp) (dN vp)).run P w=.ok () { w with heap:=w.heap.setIfInBounds b (.map dt bt)} ->
  ∃w' m',(Instr.mapUpdate t (.map (some b)) (dN kp) (dN vp)).run P w=.ok () w'/\EPost B h m w n (jB h id [gZ (jR l kp vp)]) n (.tup []) undef w' m':=by
  intro dt bt j0 hr;have hlen:cells.length=1:=zL d8;obtain⟨u1,u2,u3,u4⟩:=FO (w':={ w with heap:=w.heap.setIfInBounds b (.map dt bt)}) hs hin bi (cells':=[gZ (jR l kp vp)]) (by simp[hlen]) (b':=b) (C':=0) (λ_=>ha) (.inr ⟨0,ha⟩)
   (λq hq b7=>by
     have:q≠b:=λe=>b7 0 (by rw[e];exact ha)
     show (w.heap.setIfInBounds b (.map dt bt))[q]?=w.heap[q]?
     rw[iU,bP (λe=>this e.symm)])
   (.inr ⟨rfl,dt,bt,_,by show (w.heap.setIfInBounds b (.map dt bt))[b]?=_;rw[iU,b8 rfl,b8 i7],rfl,hB,j0⟩)
  refine⟨_,_,hr,u2,lC,⟨rfl,rfl,ae,λk hk=>?_⟩,u1,u3,u4,.tup rfl (λj p v hp=>by simp at hp)⟩
  grind
 cases hq:gz l kp 0 with
 |none=>exact fin _ _ (q2 hq clk) (a4 _ (by rw[hq]))
 |some x=>exact fin _ _ (q1 x.1 x.2 hq) (a4 _ (by rw[hq]))
theorem Nd(hs:cX B h m w)(hB:B.n<=w.heap.size)(ao:¬m.dom n)(b7:∀id cs,(id,cs)∈h->id<n)(t:TypeId):∃v' w' m',(Instr.makeMap t none).run P w=.ok v' w'/\EPost B h m w n ((n,[gZ []])::h) (n+1) (.mp n) v' w' m':=by
 have i1:cX B ((n,[gZ []])::h) m w:=Af hs ao (λid cs hin=>Nat.ne_of_lt (b7 id cs hin))
 have hL:LB m ((n,[gZ []])::h)=LB m h:=funext λb=>propext (wG ao b)
 have hin:(n,[gZ []])∈(n,[gZ []])::h:=ae
 have hn:=Mx i1 hB hin rfl ao;refine⟨.map (some w.heap.size),w.alloc (.map #[] 0),m.new n 1 (some (w.heap.size,0)),?_,Mm.uO ao,λi=>?_,(Bel.refl _ _).alloc hB _,hn,λb hb co hl=>?_,λb hb _=>jL w _ hb,?_⟩
 .rfl
 .show m.dom i\/i=n↔m.dom i\/n<=i/\i<n+1
  grind
 .rcases tW i1 hin hl with h1|⟨C,h1⟩
  .rw[hL] at h1;exact co h1
  simp_all
 .exact .mp (.inr rfl) a8 a8
end
theorem FU(o:Oper){K:AV->bE->Nat->Prop}(hk:dp P env h n o.op K)(hO:bI.ok w)(hs:cX B h m w)(hB:B.n<=w.heap.size)(ao:∀i,n<=i->¬m.dom i)(ba:∀id c,(id,c)∈h->id<n)(bm:∀x,x∈o.op.operands->bJ B (LB m h) m w (ev env x) (a.eval x))(Q:Exit->Act->World->Prop)(K':Act->World->Prop)(hK:∀v v' h' n' w' m',K v h' n'->EPost B h m w n h' n' v v' w' m'->n<=n'->(∀id c,(id,c)∈h'->id<n')->K' (a.put o.dst v') w'):o.wpt P a w K' Q:=by
 have fin:∀(v:AV)(v':Value)(h':bE)(n':Nat)(w':World)(m':Mm),K v h' n'->EPost B h m w n h' n' v v' w' m'->n<=n'->(∀id c,(id,c)∈h'->id<n')->K' (a.put o.dst v') w':=
  λv v' h' n' w' m' aw he hn g0=>hK v v' h' n' w' m' aw he hn g0
 have hset_id:∀id x,∀i c,(i,c)∈dQ h id x->i<n:=by
  intro id x i c hin;rw[mf h id x (mg hs)] at hin;obtain⟨p,hp,e⟩:=jH.1 hin;have:=ba p.1 p.2 hp;split at e
  .injection e with e1 _;rw[<-e1];exact this
  .have e1:p.1=i:=by rw[e]
   rw[<-e1];exact this
 have quietly:dk P env h n o.op (λv E=>K v (cV h n E) (n+E.length))->o.wpt P a w K' Q:=by
  intro hk;obtain⟨v,E,hq,aw⟩:=hk.qf;obtain⟨s1,s2⟩:=wH E h n hs ao ba;refine hq.sound o hO s1 hB (λid cs e=>(lD E h n id cs).2 (.inl (fR e))) (λk cs e=>(lD E h n _ cs).2 (.inr ⟨k,e,rfl⟩)) (λk hk=>ao _ ab) (λx hx=>by rw[s2];exact bm x hx) K' Q ?_
  rintro v' w' m' ⟨p1,p2,p3,p4,p5,p6⟩
  refine fin v v' _ _ w' m' aw ⟨p1,λi=>?_,p3.mono hB,p4,λb hb hn hl=>?_,λb hb _=>p3.block b hb,p6⟩ ab (λi c hin=>?_)
  .rw[p2]
  .rcases p5 b hl with h1|h1
   .rw[s2] at h1;exact hn h1
   .omega
  .rcases (lD E h n i c).1 hin with h1|⟨k,h1,rfl⟩
   .have:=ba i c h1;omega
   .have:=(eX.1 h1).1;omega
 unfold dp at hk;split at hk
 .rename_i t ad x ho;unfold sr at hk;split at hk
  .rename_i sz g id ver off ht fi;split at hk
   .rename_i cells hg;obtain⟨⟨c1,c2,c3,c4,c5⟩,aw⟩:=hk;obtain⟨w',m',a4,aa⟩:=M8 hs ht (by rw[<-fi];exact bm ad aG) (bm x aG) hg c1 c2 c3 c4 c5;unfold Oper.wpt
    have:(execOp a.eval o).run P w=.ok .skip w':=by simp[execOp,ho,a4]
    rw[this,Oper.Im];exact fin _ _ _ _ _ _ aw aa (bS _) (hset_id _ _)
   .exact hk.elim
  .exact hk.elim
 .rename_i args tys ho;unfold sj at hk;split at hk
  .rename_i s x t tx a9 cw
   have ha:args=#[s,x]:=by rw[<-oT (xs:=args),a9]
   have f8:tys=#[t,tx]:=by rw[<-oT (xs:=tys),cw]
   subst ha;subst f8
   have eu:∀v' w',(Builtin.append_ #[t,tx] o.type #[a.eval s,a.eval x]).run P w=.ok v' w'->(execOp a.eval o).run P w=.ok (.value v') w':=by
    intro v' w' hr;simp[execOp,ho,resolve,invoke,builtin,hr]
   split at hk
   .rename_i e sz ex ht bj;split at hk
    .rename_i by_ z k2 news c bl hz aq;split at hk
     .rename_i id ver z' off k es;split at hk
      .rename_i cells hg;obtain⟨⟨c0,coff,c1,c2,c3,c4,c5,c6,c7,c8⟩,aw⟩:=hk;subst coff;subst c2;obtain⟨v',w',m',a4,aa⟩:=M3 hs hB ht bj bl hz aq c0 (bm x aD) (by rw[<-es];exact bm s aD) hg c1 c3 c4 c5 c6 c7 c8 o.type;unfold Oper.wpt;rw[eu _ _ a4,Oper.pz];exact fin _ _ _ _ _ _ aw aa (bS _) (hset_id _ _)
      .exact hk.elim
     .rename_i own k cells es
      cases bo:(own&&decide (k=0)&&cells.isEmpty) with
      |true=>
       rw[bo] at hk;simp only[cond_true] at hk;obtain⟨⟨c0,c1,c3,_,c6,c7⟩,aw⟩:=hk;simp only[eY,decide_eq_true_eq] at bo;obtain⟨⟨h1,h2⟩,h3⟩:=bo
       have i5:cells=[]:=by simpa using h3
       subst h2;subst i5;obtain⟨v',w',m',a4,aa⟩:=M4 hs (ao n (bS _)) ba hB ht bj bl hz aq c0 (bm x aD) (by rw[<-es];exact bm s aD) c1 c3 c6 c7 o.type;unfold Oper.wpt;rw[eu _ _ a4,Oper.pz];refine fin _ _ _ _ _ _ aw aa ab (λi c hin=>?_)
       rcases dM.1 hin with e|e
       .injection e with e1 _;omega
       .have:=ba i c e;omega
      |false=>
       rw[bo] at hk;simp only[cond_false] at hk;split at hk
       .rename_i q hq;obtain⟨⟨c0,c1,c3,_,c6,c7⟩,aw⟩:=hk;obtain⟨v',w',m',a4,aa⟩:=M5 hs hB ht bj bl hz aq c0 (bm x aD) hq (by rw[<-es];exact bm s aD) c1 c3 c6 c7 o.type;unfold Oper.wpt;rw[eu _ _ a4,Oper.pz];exact fin _ _ _ _ _ _ aw aa (bS _) ba
       .exact hk.elim
     .exact hk.elim
    .exact hk.elim
   .exact hk.elim
  .exact hk.elim
 .rename_i args tys ho;unfold sw su at hk
  match a9:args.toList,cw:tys.toList with
  |[d,x],t::ts=>
   rw[a9,cw] at hk;simp only[oU,yH] at hk
   have ha:args=#[d,x]:=by rw[<-oT (xs:=args),a9]
   have f8:tys=(t::ts).toArray:=by rw[<-oT (xs:=tys),cw]
   cases hr:pH P h t (ev env d) (ev env x) with
   |none=>rw[hr] at hk;exact hk.elim
   |some y=>
    obtain⟨c,v,h'⟩:=y;rw[hr] at hk;obtain⟨hc,aw⟩:=hk;obtain⟨v',w',m',a4,aa⟩:=M7 (n:=n) hs hr hc (bm d (by rw[ho,ha];simp[Op.operands,Call.operands])) (bm x (by rw[ho,ha];simp[Op.operands,Call.operands])) ts o.type;unfold Oper.wpt
    have eu:(execOp a.eval o).run P w=.ok (.value v') w':=by
     rw[<-f8] at a4;subst ha;simp[execOp,ho,resolve,invoke,builtin,a4]
    rw[eu,Oper.pz];refine fin _ _ _ _ _ _ aw aa (bS _) (λi c' hin=>?_);unfold pH at hr;split at hr
    .split at hr
     .cases hr;exact hset_id _ _ _ _ hin
     .cases hr
    .cases hr
  |[],_=>rw[a9] at hk;exact hk.elim
  |[_],_=>rw[a9] at hk;exact hk.elim
  |_::_::_::_,_=>rw[a9] at hk;exact hk.elim
  |[_,_],[]=>rw[a9,cw] at hk;exact hk.elim
 .rename_i src dst x ho
  have quiet:dk P env h n (.convert src dst x) (λv E=>K v (cV h n E) (n+E.length))->o.wpt P a w K' Q:=by
   intro hk;rw[<-ho] at hk;exact quietly hk
  unfold xR at hk;split at hk
  .rename_i o' f' s es;obtain⟨hb,aw⟩:=hk;have hx:=bm x aG;rw[es] at hx;obtain⟨v',w',a4,aa⟩:=M9 hs hB hb s;unfold Oper.wpt
   have:(execOp a.eval o).run P w=.ok (.value v') w':=by simp[execOp,ho,hx.pE,a4]
   rw[this,Oper.pz];exact fin _ _ _ _ _ _ aw aa (bS _) ba
  .exact quiet hk
 .rename_i t ho;obtain⟨_,aw⟩:=hk;obtain⟨v',w',m',a4,aa⟩:=Nd (P:=P) hs hB (ao n (bS _)) ba t;unfold Oper.wpt
  have:(execOp a.eval o).run P w=.ok (.value v') w':=by simp[execOp,ho,a4]
  rw[this,Oper.pz];refine fin _ _ _ _ _ _ aw aa ab (λi c hin=>?_)
  rcases dM.1 hin with e|e
  .injection e with e1 _;omega
  .have:=ba i c e;omega
 .rename_i t mo ko vo ho;unfold sD at hk;split at hk
  .rename_i id hm;split at hk
   .rename_i l ok fk kp ov fv vp d z hl iq jh j1;obtain⟨⟨c1,c2⟩,aw⟩:=hk
    obtain⟨cells,hg,hd⟩:∃cells,cJ h id=some cells/\fN cells=some l:=by
     cases hg:cJ h id with
     |none=>rw[hg] at hl;cases hl
     |some cells=>rw[hg] at hl;exact⟨cells,rfl,hl⟩
    obtain⟨w',m',a4,aa⟩:=Nc (n:=n) hs (by rw[<-hm];exact bm mo aG) (by rw[<-iq];exact bm ko aG) (by rw[<-jh];exact bm vo aG) hg hd j1 c1 c2;unfold Oper.wpt
    have:(execOp a.eval o).run P w=.ok .skip w':=by simp[execOp,ho,a4]
    rw[this,Oper.Im];exact fin _ _ _ _ _ _ aw aa (bS _) (hset_id _ _)
   .exact hk.elim
  .exact hk.elim
 simp_all
theorem wI{o:Op}{K:AV->bE->Nat->Prop}(hk:dp P env h n o K):∀c,o≠.defer c:=by
 intro c e;subst e;trivial
theorem Is{o:Op}{v:AV}{E:List (List AV)}(hk:QF P env h n o v E):∀c,o≠.defer c:=by
 intro c e;subst e
 rcases hk with ⟨c,h1,_⟩|⟨f,args,tys,g,bY,pvs,res,fr,h1,_⟩
 .trivial
 .cases h1
theorem wJ{fk:Fk}(w0:Ctx fk)(o:Oper){nt:Nat}{K:AV->bE->Nat->Prop}(hk:dp P env h n o.op K)(hs:Sim B w0 ⟨env,h,n,nt⟩ a w m)(i':dOk nt o.dst)(Q:Exit->Act->World->Prop)(K':Act->World->Prop)(hK:∀v h' n' a' w' m',K v h' n'->Sim B w0 ⟨put env o.dst v,h',n',nt⟩ a' w' m'->K' a' w'):o.wpt P a w K' Q:=by
 refine FU o hk hs.ok hs.heap hs.room (λi hi hd=>by have:=(hs.dom i).1 hd;grind) hs.ids (λx _=>ma x (λt _=>hs.env t)) Q K' ?_
 rintro v v' h' n' w' m' aw ⟨e1,e2,e3,e4,e5,e6,e7⟩ hn g0
 refine hK v h' n' _ w' m' aw ⟨hs.base,hs.below.trans e3,by rw[kI];exact hs.defers,by rw[kE];exact hs.size,?_,e4,λi=>?_,g0,hs.fr.mono e1 e5 e6 hn⟩
 .exact ni env a o.dst v v' (by rw[hs.size];exact i') e7 (λt=>(hs.env t).mono e1 e5 e6)
 .rw[e2,hs.dom]
  grind
end
end Go.Fi
