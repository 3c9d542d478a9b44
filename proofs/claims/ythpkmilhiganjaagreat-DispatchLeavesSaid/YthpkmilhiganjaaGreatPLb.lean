/- Lemmas. -/
import Derived.Test.YthpkmilhiganjaaGreatPLa
import Derived.Lib.ConvBytes
import Derived.TacticsIn
import Derived.OrdersIn
import Derived.RangeFuncRecord
import Derived.RangeFuncCalls
set_option linter.all false
set_option maxHeartbeats 32000000
set_option maxRecDepth 100000
namespace Go.Fi
open Go Go.RowKit
variable[av]
section
omit [av]
variable{P:Program}{B:Base}{m:Mm}{w w':World}{H h:ak}{n:Nat}{env:Env}{a:Act}{L:Nat->Prop}
theorem vn{w w':World}{p:PV}(hf:flat p=true){G G':Nat->Prop}{v:Value}(h:Rep G w p v):Rep G' w' p v:=by
 cases h<;>first
  |exact .undef _
  |exact .ja _
  |exact .bool _
  |exact .int _ _
  |exact .str _
  |exact .fQ
  |exact .jX
  |(cases hf;done)
theorem DX:∀{l:List PV},fA l=true->∀(j:Nat)(x:PV),l[j]?=some x->flat x=true
 |[],_,j,x,h=>by simp at h
 |y::l,hp,j,x,h=>by
  simp only[fA,bU] at hp
  cases j with
  |zero=>simp_all
  |succ j=>exact DX hp.2 j x (by simpa using h)
theorem DY:∀{l:List AV}{q:List PV},pvs l=some q->l.length=q.length/\∀(j:Nat)(p:PV),q[j]?=some p->∃o f,l[j]?=some (.w o f p)
 |[],q,h=>by injection h with h;simp_all
 |x::l,q,h=>by
  cases x with
  |w o f p=>
   simp only[pvs] at h;split at h
   .rename_i q' hq;cases h;obtain⟨h1,h2⟩:=DY hq
    grind
   .cases h
  |_=>simp[pvs] at h
theorem m8(sz k:Nat)(a0:Option Addr)(cap:Nat)(us:List Value)(hl:us.length=k*sz)(h0:a0=none->k*sz=0)(hc:∀ad,a0=some ad->∀j u,us[j]?=some u->w.cell? (ad.add j)=some u):(Builtin.firstCells sz k (.slice a0 k cap)).run P w=.ok us.toArray w:=by
 cases a0 with
 |none=>
  have:us=[]:=gF (by rw[hl,h0 rfl]);subst this;rfl
 |some ad=>
  have:=run_loadCells_list (P:=P) w ad us (hc ad rfl);rw[hl] at this;trivial
theorem vq{sz k:Nat}{x:AV}{v:Value}{news:List AV}{c:Prop}(h0:gP h sz x=some (k,news,c))(hc:c)(hs:bt B H m w)(a5:∀id cs,bf h id=some cs->(id,cs)∈H)(hx:aA B (LB m H) m w x v):∃(ax:Option Addr)(cx:Nat)(us:List Value),v=.slice ax k cx/\us.length=k*sz/\news.length=k*sz/\(∀ec,ec.heap=w.heap->(Builtin.firstCells sz k v).run P ec=.ok us.toArray ec)/\∀(j:Nat)(p:AV)(u:Value),news[j]?=some p->us[j]?=some u->aA B (LB m H) m w p u:=by
 unfold gP at h0;split at h0
 .rename_i id ver z off k';split at h0
  .rename_i cells hg;simp only[bz,bX] at h0;obtain⟨rfl,rfl,rfl⟩:=h0;obtain⟨c1,c2,c3⟩:=hc;subst c2;obtain⟨ax,cx,rfl,hk,hd,_,h3,h4⟩:=hx.nH;rw[yP]
   have hlen:((cells.drop off).take (k'*z)).length=k'*z:=by simp;omega
   rw[<-c1] at h3 h4
   cases ha:m.addr id cells.length with
   |none=>
    obtain⟨rfl,h5⟩:=h3 ha
    have dg:k'=0:=by omega
    subst dg;exact⟨ax,0,[],rfl,by simp,hlen,λec _=>m8 z 0 ax 0 [] (by simp) (λ_=>by simp) (λ_ _ j u hj=>by simp at hj),λj p u hp hu=>by simp at hu⟩
   |some bc=>
    obtain⟨b,C⟩:=bc;obtain⟨h5,h6,h7⟩:=h4 b C ha;obtain⟨cs,e,hh,hC,hle,_,a6⟩:=hs.read (a5 id cells hg) hd ha (by omega)
    have hin:∀j,j<k'*z->off+j<cs.size:=by intro j hj;omega
    refine⟨ax,cx,(List.range (k'*z)).map (λj=>cs.getD (off+j) undef),rfl,by simp,hlen,λec hw=>?_,λj p u hp hu=>?_⟩
    .refine m8 z k' ax cx _ (by simp) (λe=>?_) (λad e j u hj=>?_)
     .rcases jL cx with h|h
      .have:k'=0:=by omega
       simp[this]
      .rw[h5 h] at e;cases e
     .obtain⟨y,hy,rfl⟩:=fP hj;obtain⟨al,rfl⟩:=dM.1 hy;simp only[pO] at al;simp only[sH]
      have ft:0<cx:=by
       rcases jL cx with h|h
       .have:k'=0:=by omega
        rw[this] at al;simp at al
       .exact h
      rw[h5 ft] at e;injection e with e;subst e
      rw[Addr.jc,m7 (by rw[hw];exact hh)];simp[hin j al]
    .obtain⟨y,hy,rfl⟩:=fP hu;obtain⟨al,rfl⟩:=dM.1 hy;simp only[pO] at al;simp only[sH];rw[jk] at hp;rw[aB al,xW] at hp;exact a6 _ p _ hp (by simp[hin j al])
  .cases h0
 .rename_i own f k' cells;simp only[bz,bX] at h0;obtain⟨rfl,rfl,rfl⟩:=h0;obtain⟨ax,cx,rfl,hk,_,h1,h2⟩:=hx.nG
  cases d7:cells with
  |nil=>
   have cg:k'*sz=0:=by rw[<-hc,d7];rfl
   exact⟨ax,cx,[],rfl,cg.symm,by simp[cg],λec _=>m8 sz k' ax cx [] cg.symm (λ_=>cg) (λ_ _ j u hj=>by simp at hj),λj p u hp hu=>by simp at hu⟩
  |cons y ys=>
   obtain⟨b,off,vals,rfl,h3,h4,h5⟩:=h2 (by rw[d7];simp);rw[<-d7];refine⟨_,cx,(List.range cells.length).map vals,rfl,by simp[hc],by simp[hc],λec hw=>?_,λj p u hp hu=>?_⟩
   .refine m8 sz k' _ cx _ (by simp[hc]) (λe=>by cases e) (λad e j u hj=>?_)
    injection e with e;subst e
    obtain⟨y',hy,rfl⟩:=fP hj;obtain⟨al,rfl⟩:=dM.1 hy;simp only[pO] at al;simp only[sH];rw[Addr.jc];have:=h3 j al;simpa[World.cell?,hw] using this
   .obtain⟨q,hq,rfl⟩:=fP hp;obtain⟨y',hy,rfl⟩:=fP hu;obtain⟨al,rfl⟩:=dM.1 hy;simp only[sH];exact .w (h5 j q hq) (λh=>by cases h)
 .cases h0
theorem ze{t tx e ex sz:Nat}{i:TypeInfo}(ht:P.underlying t=some (.slice e))(b9:P.underlying tx=some (.slice ex))(hi:P.info? e=some i)(hz:i.size=sz)(ty:TypeId)(a0:Option Addr)(k cap k2:Nat)(x:Value)(ax:Option Addr)(cx:Nat)(hx:x=.slice ax k2 cx)(us:List Value)(hn:(Builtin.firstCells sz k2 x).run P w=.ok us.toArray w)(au:k+k2<=cap)(w2:World)(d6:∀ad,a0=some ad->(storeCells (ad.add (k*sz)) us).run P w=.ok () w2)(gh:a0=none->w2=w):(Builtin.append_ #[t,tx] ty #[.slice a0 k cap,x]).run P w=.ok (.slice a0 (k+k2) cap) w2:=by
 subst hx
 cases a0 with
 |none=>
  have:=gh rfl;subst this;simp[Builtin.append_,run_underlying ht,run_underlying b9,sizeOf,typeInfo,hi,hz,Builtin.lenOf,au,hn]
 |some ad=>
  have:=d6 ad rfl;simp[Builtin.append_,run_underlying ht,run_underlying b9,sizeOf,typeInfo,hi,hz,Builtin.lenOf,au,hn,this]
theorem zg{t tx e ex sz:Nat}{i:TypeInfo}{z:Value}(ht:P.underlying t=some (.slice e))(b9:P.underlying tx=some (.slice ex))(hi:P.info? e=some i)(hz:i.size=sz)(hzero:i.zero=some z)(ty:TypeId)(a0:Option Addr)(k cap k2:Nat)(x:Value)(ax:Option Addr)(cx:Nat)(hx:x=.slice ax k2 cx)(us os:List Value)(hn:(Builtin.firstCells sz k2 x).run P w.drew=.ok us.toArray w.drew)(ho:(Builtin.firstCells sz k (.slice a0 k cap)).run P w.drew=.ok os.toArray w.drew)(au:¬k+k2<=cap)(h1:k+k2<=1000000000)(ba:i.bytes<=100000):∃nc rest,k+k2<=nc/\rest.size=(nc-(k+k2))*z.cells.size/\(Builtin.append_ #[t,tx] ty #[.slice a0 k cap,x]).run P w=.ok (.slice (some ⟨w.heap.size,0,none⟩) (k+k2) nc) (w.drew.alloc (.cells (os.toArray++us.toArray++rest) e)):=by
 subst hx
 have hb:=growslice_fits (need:=k+k2) (old:=cap) (bytes:=i.bytes) (by omega) (by
  have:(k+k2)*i.bytes<=1000000000*100000:=Nat.mul_le_mul h1 ba
  omega)
 have fi:¬(9223372036854775807<((k:Int)+(k2:Int))):=by omega
 have fd:¬(281474976710656<Builtin.nextslicecap (k+k2) cap*i.bytes):=by omega
 refine⟨grownCap w (k+k2) cap e,Builtin.zeroCells z.cells (grownCap w (k+k2) cap e-(k+k2)),grownCap_ge w _ _ e,size_zeroCells _ _,?_⟩;simp[Builtin.append_,run_underlying ht,run_underlying b9,sizeOf,typeInfo,zeroValue,hi,hz,hzero,Builtin.lenOf,au,fi,fd,Question.forced,hn,ho,newRow,grownCap]
 grind
theorem bt.below(hs:bt B H m w){w':World}(hb:Bel w.heap.size w w'):bt B H m w':=by
 refine⟨λid cells hin hd=>?_,hs.inj⟩;obtain⟨ht,fw⟩:=hs.entry id cells hin hd;refine⟨ht,?_⟩
 rcases fw with h|⟨b,C,cs,e,h1,h2,h3,h4,h5,h6⟩|⟨b,es,clk,h1,h2,h3,h4,h5⟩
 .exact .inl h
 .exact .inr (.inl ⟨b,C,cs,e,h1,(hb.block b (dN hs ⟨id,cells,C,hin,hd,h1⟩)).trans h2,h3,h4,h5,λj p v hp hv=>(h6 j p v hp hv).mono (Mm.le.refl m) (λ_ _ h=>h) (λb bm _=>hb.block b bm)⟩)
 .exact .inr (.inr ⟨b,es,clk,h1,h2,(hb.block b (dN hs ⟨id,cells,0,hin,hd,h1⟩)).trans h3,h4,h5⟩)
theorem DZ(hs:bt B H m w)(a5:∀id cs,bf h id=some cs->(id,cs)∈H)(hB:B.n<=w.heap.size){t tx e sz:Nat}{ex:TypeId×Nat}{by_:Nat}{z:List AV}(ht:slE P t=some (e,sz))(b9:slE P tx=some ex)(ba:byE P e=some by_)(hz:dK P e=some z){x s:Value}{xa:AV}{k2:Nat}{news:List AV}{c:Prop}(af:gP h sz xa=some (k2,news,c))(hc:c)(hx:aA B (LB m H) m w xa x){q:List PV}(hq:pvs news=some q){own:Bool}{k:Nat}{cells:List PV}(dl:aA B (LB m H) m w (.w own true (.sl k cells)) s)(c1:cells.length=k*sz)(c3:z.length=sz)(c6:k+k2<=1000000000)(c7:by_<=100000)(ty:TypeId):∃v' w',(Builtin.append_ #[t,tx] ty #[s,x]).run P w=.ok v' w'/\Bel w.heap.size w w'/\bt B H m w'/\aA B (LB m H) m w' (.w (fA q&&(own || cells.isEmpty)) false (.sl (k+k2) (cells++q))) v':=by
 obtain⟨b5,i,hi,bk⟩:=jq ht;obtain⟨bh,_⟩:=jq (e:=ex.1) (z:=ex.2) b9;obtain⟨iz,vz,dc,hzero,rfl⟩:=pY hz;rw[hi] at dc;cases dc
 have c9:i.bytes<=100000:=by
  have:i.bytes=by_:=by simpa[byE,hi] using ba
  omega
 obtain⟨ax,cx,us,rfl,bq,co,aa,cz⟩:=vq af hc hs a5 hx;obtain⟨a0,cap,rfl,hk,cf,i2,dw⟩:=dl.nG;have aq:=cf rfl;subst aq;obtain⟨ge,jg⟩:=DY hq
 have i6:vz.cells.size=sz:=by rw[<-c3];simp
 have em:∀(w2:World)(j:Nat)(p:PV)(u:Value),q[j]?=some p->us[j]?=some u->(∀b,b<w.heap.size->¬LB m H b->w2.heap[b]?=w.heap[b]?)->Rep (Good B (LB m H) (fA q&&(own || cells.isEmpty))) w2 p u:=by
  intro w2 j p u hp hu jw;obtain⟨o,f,hn⟩:=jg j p hp;have:=cz j _ u hn hu
  cases this with
  |w hr _=>
   cases io:fA q with
   |true=>exact vn (DX io j p hp) hr
   |false=>exact hr.mono (λb _ hg=>⟨hg.1,(λh=>by simp at h),hg.2.2⟩) (λb hb hg=>jw b hb hg.1)
 by_cases g4:k2=0
 .subst g4;have f9:us=[]:=gF (by omega);have ji:q=[]:=gF (by rw[<-ge,co];simp);subst f9;subst ji;refine⟨_,w,ze b5 bh hi bk ty a0 k k 0 _ ax cx rfl [] (aa w rfl) (by omega) w (λad _=>rfl) (λ_=>rfl),Bel.refl _ _,hs,?_⟩;simp only[oo,mU,fA,eo];refine .w ?_ nofun
  cases dl with
  |w hr _=>
   cases ee:cells with
   |nil=>
    rw[ee] at hr
    cases hr with
    |slnil=>exact .slnil
    |sl vals h1 h2 h3 h4=>exact .slz h1
    |slz h1=>exact .slz h1
   |cons y ys=>
    rw[ee] at hr
    grind
 .obtain⟨os,jh,b4,i3⟩:∃os:List Value,os.length=k*sz/\(Builtin.firstCells sz k (.slice a0 k k)).run P w.drew=.ok os.toArray w.drew/\∀(j:Nat)(p:PV)(v:Value),cells[j]?=some p->os[j]?=some v->Rep (Good B (LB m H) own) w p v:=by
   cases ee:cells with
   |nil=>
    have cg:k*sz=0:=by rw[<-c1,ee];rfl
    exact⟨[],cg.symm,m8 sz k a0 k [] cg.symm (λ_=>cg) (λ_ _ j u hj=>by simp at hj),λj p v hp=>by simp at hp⟩
   |cons y ys=>
    obtain⟨b,off,vals,rfl,h3,h4,h5⟩:=dw (by rw[ee];simp);rw[<-ee];refine⟨(List.range cells.length).map vals,by simp[c1],m8 sz k _ k _ (by simp[c1]) nofun (λad e j u hj=>?_),λj p v hp hv=>?_⟩
    .cases e;obtain⟨y',hy,rfl⟩:=fP hj;obtain⟨al,rfl⟩:=dM.1 hy;simp only[pO] at al;simp only[sH];rw[Addr.jc];exact h3 j al
    grind
  obtain⟨nc,rest,d9,cq,a4⟩:=zg b5 bh hi bk hzero ty a0 k k k2 _ ax cx rfl us os (aa w.drew rfl) b4 (by omega) c6 c9;have ag:(k+k2)*sz=k*sz+k2*sz:=fe _ _ _;refine⟨_,_,a4,⟨rfl,rfl,by rw[yY];simp,λb hb=>iT w.drew _ hb⟩,hs.below ⟨rfl,rfl,by rw[yY];simp,λb hb=>iT w.drew _ hb⟩,.w ?_ nofun⟩;have az:=vj w.drew (.cells (os.toArray++us.toArray++rest) e)
  have a6:∀j,j<os.length+us.length->(w.drew.alloc (.cells (os.toArray++us.toArray++rest) e)).cell? ⟨w.heap.size,0+j,none⟩=some ((os++us).getD j undef):=by
   intro j hj;rw[cY,m7 (b:=w.heap.size) az];rw[xZ,aB (by simpa using hj)];simp_all
  refine .sl (b:=w.heap.size) (off:=0) (λj=>(os++us).getD j undef) d9 (λj hj=>a6 j ?_) (λ_=>⟨λhl=>?_,λ_=>hB,λhl=>?_⟩) (λj p hp=>?_)
  .have jj:q.length=us.length:=by rw[<-ge,co,bq]
   have:j<cells.length+q.length:=by grind
   omega
  .have:=dN hs hl;omega
  .omega
  .rw[IU] at hp;split at hp
   .rename_i hj
    have df:j<os.length:=by omega
    have hv:(os++us).getD j undef=os[j]:=by grind
    rw[hv];have hr:=i3 j p _ hp (da df);refine hr.mono (λb _ hg=>⟨hg.1,λhf=>?_,hg.2.2⟩) (λb hb hg=>iT w.drew _ hb)
    cases own with
    |true=>exact hg.2.1 rfl
    |false=>
     have ao:cells≠[]:=by rintro rfl;simp at hj
     have:cells.isEmpty=false:=by cases cells<;>simp_all
     simp_all
   .rename_i hj;have k3:j-cells.length<q.length:=(dM.1 hp).1
    have j2:j-os.length<us.length:=by
     have jj:q.length=us.length:=by rw[<-ge,co,bq]
     omega
    have hv:(os++us).getD j undef=us[j-os.length]:=by grind
    rw[hv]
    have e1:j-cells.length=j-os.length:=by omega
    rw[e1] at hp;exact em _ (j-os.length) p _ hp (da j2) (λb hb _=>iT w.drew _ hb)
theorem J1(args:Array Operand)(tys:Array TypeId)(o:Oper)(ho:o.op=.call { callee:=.builtin .append,args:=args,argTypes:=tys }){c:Prop}{v:AV}{E:List (List AV)}(h0:aOp P h n (ev env) (.call { callee:=.builtin .append,args:=args,argTypes:=tys })=some (c,v,E))(hc:c)(hs:bt B H m w)(hB:B.n<=w.heap.size)(a5:∀id cs,bf h id=some cs->(id,cs)∈H)(a7:∀x∈args.toList,aA B (LB m H) m w (ev env x) (a.eval x)):QOk P B H m w n E.length (execOp a.eval o) v:=by
 simp only[aOp] at h0
 match hA:args.toList,hT:tys.toList with
 |[s,x],[t,tx]=>
  rw[hA,hT] at h0;simp only[mV,uM,BL,BK] at h0;split at h0
  .rename_i e sz _ ht b9;split at h0
   .rename_i by_ z k2 news c0 ba hz af;split at h0
    .rename_i own k cells es;split at h0
     .rename_i q hq;cases h0;obtain⟨i7,c1,c3,_,c6,c7⟩:=hc;have h1:=a7 s (by rw[hA];simp);have h2:=a7 x (by rw[hA];simp);rw[es] at h1;obtain⟨v',w',a4,hb,ei,hv⟩:=DZ hs a5 hB ht b9 ba hz af i7 h2 hq h1 c1 c3 c6 c7 o.type;refine⟨v',w',m,?_,Mm.le.refl m,λi=>⟨.inl,λh=>h.elim id λh=>by grind⟩,hb,ei,λb hb=>.inl hb,hv⟩
      have ha:args=#[s,x]:=by rw[<-oh (xs:=args),hA]
      have f8:tys=#[t,tx]:=by rw[<-oh (xs:=tys),hT]
      subst ha f8;simp[execOp,ho,resolve,invoke,builtin,a4]
     .cases h0
    .cases h0
   .cases h0
  .cases h0
 |[],_=>rw[hA] at h0;trivial
 |[_],_=>rw[hA] at h0;trivial
 |_::_::_::_,_=>rw[hA] at h0;trivial
 |[_,_],[]=>rw[hA,hT] at h0;trivial
 |[_,_],[_]=>rw[hA,hT] at h0;trivial
 |[_,_],_::_::_::_=>rw[hA,hT] at h0;trivial
end
section
variable{P:Program}{B:Base}{m:Mm}{w:World}{H h:ak}{n:Nat}{env:Env}{a:Act}{L:Nat->Prop}
omit [av] in
theorem fj{r:Sem Next}{v:AV}{E:List (List AV)}(hs:bt B H m w)(hv:E=[]/\eT P B H m w r v):QOk P B H m w n E.length r v:=by
 obtain⟨rfl,hv⟩:=hv;exact hv.q hs
omit [av] in
theorem J2(o:Oper){c:Prop}{v:AV}{E:List (List AV)}(h0:aOp P h n (ev env) o.op=some (c,v,E))(hc:c)(hs:bt B H m w)(hB:B.n<=w.heap.size)(a5:∀id cs,bf h id=some cs->(id,cs)∈H)(hE:∀k cs,E[k]?=some cs->(n+k,cs)∈H)(ae:∀k,k<E.length->¬m.dom (n+k))(hx:∀x,x∈o.op.operands->aA B (LB m H) m w (ev env x) (a.eval x)):QOk P B H m w n E.length (execOp a.eval o) v:=by
 cases ho:o.op with
 |move x=>
  rw[ho] at h0 hx;simp only[aOp,bz,bX] at h0;obtain⟨rfl,rfl,rfl⟩:=h0;exact fj hs ⟨rfl,_,by simp[execOp,ho],hx x (by simp[Op.operands])⟩
 |assign x=>
  rw[ho] at h0 hx;simp only[aOp,bz,bX] at h0;obtain⟨rfl,rfl,rfl⟩:=h0;exact fj hs ⟨rfl,_,by simp[execOp,ho],hx x (by simp[Op.operands])⟩
 |pick x y z=>rw[ho] at h0 hx;exact fj hs (Jx x y z o ho h0 (hx x (by simp[Op.operands])) (hx y (by simp[Op.operands])) (hx z (by simp[Op.operands])))
 |alloc t=>rw[ho] at h0;exact JU t o ho h0 hs hB hE ae
 |box t x=>rw[ho] at h0 hx;exact JV t x o ho h0 hc hs hB hE ae (hx x (by simp[Op.operands]))
 |build t ps=>rw[ho] at h0 hx;exact fj hs (JS t ps o ho h0 (λx hm=>hx x (by simpa[Op.operands] using hm)))
 |buildSlice t l ps=>rw[ho] at h0 hx;exact JW t l ps o ho h0 hc hs hB hE ae (λx hm=>hx x (by simpa[Op.operands] using hm))
 |load t x=>rw[ho] at h0 hx;exact fj hs (DI t x o ho h0 hc hs a5 (hx x (by simp[Op.operands])))
 |nilCheck x=>rw[ho] at h0 hx;exact fj hs (JK x o ho h0 (hx x (by simp[Op.operands])))
 |binOp op t x y yt=>
  rw[ho] at h0 hx;have h1:=hx x (by simp[Op.operands]);have h2:=hx y (by simp[Op.operands]);simp only[aOp] at h0;split at h0
  .rename_i k hk;split at h0
   .rename_i r hr;split at h0
    .cases h0;exact fj hs ⟨rfl,DG .eql (.inl rfl) t x y yt hk hr h1 h2 hc.1 hc.2 o ho⟩
    .cases h0;exact fj hs ⟨rfl,DG .neq (.inr rfl) t x y yt hk hr h1 h2 hc.1 hc.2 o ho⟩
    .cases h0
   .cases h0
  .split at h0
   .rename_i ox fx p oy fy q ex ey;split at h0
    .rename_i c' v' hb;cases h0;exact fj hs ⟨rfl,Ju op t x y yt ex ey hb hc h1 h2 o ho⟩
    .cases h0
   .cases h0
 |unOp op t x=>rw[ho] at h0 hx;exact fj hs (P7 op t x o ho h0 hc (hx x (by simp[Op.operands])))
 |convert s d x=>rw[ho] at h0 hx;exact fj hs (Jw s d x o ho h0 hc (hx x (by simp[Op.operands])))
 |makeInterface t x=>rw[ho] at h0 hx;exact fj hs (Jv t x o ho h0 (hx x (by simp[Op.operands])))
 |makeFunc f fs cs=>rw[ho] at h0 hx;exact fj hs (JL f fs cs o ho h0 (λx hm=>hx x (by simp[Op.operands,qV.1 hm])))
 |makeSlice t x y=>rw[ho] at h0 hx;exact JX t x y o ho h0 hc hs hB hE ae (hx x (by simp[Op.operands])) (hx y (by simp[Op.operands]))
 |slice t x lo hi mx=>
  rw[ho] at h0 hx;exact fj hs (JO t x lo hi mx o ho h0 hc (hx x (by simp[Op.operands])) (λy e=>hx y (by simp[Op.operands,e])) (λy e=>hx y (by simp[Op.operands,e])) (λy e=>hx y (by simp[Op.operands,e])))
 |fieldAddr s x f=>rw[ho] at h0 hx;exact fj hs (Jy s x f o ho h0 (hx x (by simp[Op.operands])))
 |field s x f=>rw[ho] at h0 hx;exact fj hs (JC s x f o ho h0 hc (hx x (by simp[Op.operands])))
 |indexAddr t x i=>rw[ho] at h0 hx;exact fj hs (JE t x i o ho h0 hc (hx x (by simp[Op.operands])) (hx i (by simp[Op.operands])))
 |index t x i=>rw[ho] at h0 hx;exact fj hs (JF t x i o ho h0 hc (hx x (by simp[Op.operands])) (hx i (by simp[Op.operands])))
 |lookup t x k c0=>rw[ho] at h0 hx;exact fj hs (J0 t x k c0 o ho h0 hc hs a5 (hx x (by simp[Op.operands])) (hx k (by simp[Op.operands])))
 |extract x i=>rw[ho] at h0 hx;exact fj hs (JG x i o ho h0 (hx x (by simp[Op.operands])))
 |call cl=>
  rw[ho] at h0 hx;obtain⟨callee,args,tys⟩:=cl
  cases callee with
  |builtin b=>
   have a7:∀x∈args.toList,aA B (LB m H) m w (ev env x) (a.eval x):=λx hm=>hx x (by simp[Op.operands,Call.operands,qV.1 hm])
   cases b with
   |len=>exact fj hs (JH args tys o ho h0 a7)
   |max=>exact fj hs (JI args tys o ho h0 a7)
   |min=>exact fj hs (JJ args tys o ho h0 a7)
   |append=>exact J1 args tys o ho h0 hc hs hB a5 a7
   |_=>simp[aOp] at h0
  |_=>simp[aOp] at h0
 |_=>rw[ho] at h0;simp[aOp] at h0
end
def BN(P:Program)(f:FuncId):Prop:=∃fn,P.funcs[f]?=some fn/\(fn.name == "runtime.NumGoroutine")=false/\fn.body.isNone=false
def aC(P:Program)(f:FuncId)(args:List PV)(res:PV)(fr:Bool):Prop:=
 BN P f/\∀(G:Nat->Prop)(w:World)(vs:Array Value),av.ok w->args.length=vs.size->(∀(j:Nat)(p:PV)(v:Value),args[j]?=some p->vs[j]?=some v->Rep G w p v) ->
  jA P f vs w λe w'=>∃v,e=.returned v/\Bel w.heap.size w w'/\Rep (λb=>(b<w.heap.size->G b)/\(fr=true->w.heap.size<=b)) w' res v
def isW:AV->Bool
 |.w _ _ _=>true
 |_=>false
def rJ:List AV->Bool
 |[]=>true
 |x::r=>isW x&&rJ r
def xq:AV->Bool
 |.w _ _ _=>true
 |.agg cs=>rJ cs
 |.fn _ cs=>rJ cs
 |_=>false
def mj:List AV->Bool
 |[]=>true
 |x::r=>xq x&&mj r
section
variable{P:Program}{B:Base}{m:Mm}{w:World}{H h:ak}{n:Nat}{env:Env}{a:Act}{L:Nat->Prop}
omit [av] in
theorem jr{α β:Type}{f:α->Option β}:∀{l:List α}{r:List β},l.mapM f=some r->l.length=r.length/\∀(j:Nat)(y:β),r[j]?=some y->∃x,l[j]?=some x/\f x=some y
 |[],r,h=>by simp_all
 |x::l,r,h=>by
  simp only[xY] at h
  cases hx:f x with
  |none=>grind
  |some y=>
   simp only[hx,Option.bind_eq_bind,iP] at h
   cases hr:l.mapM f with
   |none=>grind
   |some r'=>
    simp only[hr,iP] at h;cases h;obtain⟨h1,h2⟩:=jr hr
    grind
def dQ(h:ak):Nat->AV->Bool
 |_,.w own _ p=>own || flat p
 |0,_=>false
 |d+1,.ptr id _ _=>match bf h id with
  |some cells=>cells.all (dQ h d)
  |none=>false
 |d+1,.msl id _ _ _ _=>match bf h id with
  |some cells=>cells.all (dQ h d)
  |none=>false
 |d+1,.agg cs=>cs.all (dQ h d)
 |d+1,.tup cs=>cs.all (dQ h d)
 |d+1,.fn _ c=>c.all (dQ h d)
 |_+1,.mp _=>false
omit [av] in
theorem m9(hs:bt B H m w)(a5:∀id cs,bf h id=some cs->(id,cs)∈H){G':Nat->Prop}(fr:Bool)(hG1:∀b,B.n<=b->G' b)(hG2:fr=false->∀b,Good B (LB m H) false b->G' b):∀(d:Nat)(x:AV)(p:PV)(v:Value),frz h d x=some p->(fr=true->dQ h d x=true)->aA B (LB m H) m w x v->Rep G' w p v
 |d,.w o f q,p,v,hf,aj,hr=>by
  have:q=p:=by cases d<;>(simp[frz] at hf;exact hf)
  subst this
  cases hr with
  |w hr _=>
   cases eg:fr with
   |false=>exact hr.imp λb hg=>hG2 eg b ⟨hg.1,nofun,hg.2.2⟩
   |true=>
    have h1:=aj eg
    have h2:(o || flat q)=true:=by cases d<;>exact h1
    cases o with
    |true=>exact hr.imp λb hg=>hG1 b (hg.2.1 rfl)
    |false=>exact vn (by grind) hr
 |0,.ptr ..,_,_,hf,_,_=>by trivial
 |0,.msl ..,_,_,hf,_,_=>by trivial
 |0,.agg _,_,_,hf,_,_=>by trivial
 |0,.tup _,_,_,hf,_,_=>by trivial
 |0,.fn _ _,_,_,hf,_,_=>by trivial
 |0,.mp _,_,_,hf,_,_=>by trivial
 |_+1,.mp _,_,_,hf,_,_=>by trivial
 |d+1,.ptr id ver off,p,v,hf,aj,hr=>by
  simp only[frz] at hf;split at hf
  .rename_i cells hg;split at hf
   .rename_i d3
    cases hm:cells.mapM (frz h d) with
    |none=>grind
    |some r=>
     simp only[hm,du,bz] at hf;subst hf;obtain⟨h1,h2⟩:=jr hm;obtain⟨b,C,rfl,hd,hvC,ha⟩:=hr.o7;rw[<-d3] at ha hvC;obtain⟨cs,e,hh,hC,hle,hbB,a6⟩:=hs.read (a5 id cells hg) hd ha hvC.2
     have:=Rep.ip (G:=G') (w:=w) (o:=off) (b:=b) (off:=0) (cells:=r) (λj=>cs.getD j undef) (λj hj=>by
      have:j<cs.size:=by omega
      rw[cY,m7 hh];simp[this]) (λ_=>hG1 b hbB) (λj q hq=>by
      obtain⟨x,hx,d'⟩:=h2 j q hq
      have hj:j<cs.size:=by have:=(dM.1 hx).1;omega
      exact m9 hs a5 fr hG1 hG2 d x q _ d' (λe=>by have:=aj e;simp only[dQ,hg] at this;grind) (a6 j x _ hx (by simp[hj])))
     rw[cY] at this;exact this
   .cases hf
  .cases hf
 |d+1,.msl id ver sz off k,p,v,hf,aj,hr=>by
  simp only[frz] at hf;split at hf
  .rename_i cells hg;split at hf
   .rename_i d3
    cases hm:cells.mapM (frz h d) with
    |none=>grind
    |some r=>
     simp only[hm,du,bz,yP] at hf;subst hf;obtain⟨h1,h2⟩:=jr hm;obtain⟨a0,cap,rfl,hk,hd,_,h3,h4⟩:=hr.nH;rw[<-d3] at h3 h4
     cases ha:m.addr id cells.length with
     |none=>
      obtain⟨rfl,h5⟩:=h3 ha;have jo:r=[]:=gF (by omega);subst jo
      have:k=0:=by omega
      subst this
      cases a0 with
      |none=>simpa using Rep.slnil
      |some a1=>simpa using Rep.slz (aE _)
     |some bc=>
      obtain⟨b,C⟩:=bc;obtain⟨h5,h6,h7⟩:=h4 b C ha;obtain⟨cs,e,hh,hC,hle,hbB,a6⟩:=hs.read (a5 id cells hg) hd ha (by omega)
      cases hL:(r.drop off).take (k*sz) with
      |nil=>
       cases a0 with
       |none=>
        have aq:cap=0:=by
         simp_all
        subst aq
        have:k=0:=by omega
        subst this;exact .slnil
       |some a1=>exact .slz hk
      |cons x xs=>
       have aq:0<cap:=by
        rcases jL cap with h|h
        .have:k=0:=by omega
         rw[this] at hL;simp at hL
        .exact h
       rw[h5 aq,<-hL];refine .sl (λj=>cs.getD (off+j) undef) hk (λj hj=>?_) (λ_=>hG1 b hbB) (λj q hq=>?_)
       .rw[ia,uL] at hj
        have:off+j<cs.size:=by omega
        rw[m7 hh];simp[this]
       .rw[jk] at hq;split at hq
        .rw[xW] at hq;obtain⟨x,hx,d'⟩:=h2 _ q hq
         have hj:off+j<cs.size:=by have:=(dM.1 hx).1;omega
         exact m9 hs a5 fr hG1 hG2 d x q _ d' (λe=>by have:=aj e;simp only[dQ,hg] at this;grind) (a6 _ x _ hx (by simp[hj]))
        .cases hq
   .cases hf
  .cases hf
 |d+1,.agg cs,p,v,hf,aj,hr=>by
  simp only[frz] at hf
  cases hm:cs.mapM (frz h d) with
  |none=>grind
  |some r=>
   simp only[hm,du,bz] at hf;subst hf;obtain⟨h1,h2⟩:=jr hm;obtain⟨vs,rfl,hl,hc⟩:=hr.Hv
   exact .agg (by omega) (λj q u hq hu=>by
    obtain⟨x,hx,d'⟩:=h2 j q hq
    exact m9 hs a5 fr hG1 hG2 d x q u d' (λe=>by have:=aj e;simp only[dQ] at this;grind) (hc j x u hx hu))
 |d+1,.tup cs,p,v,hf,aj,hr=>by
  simp only[frz] at hf
  cases hm:cs.mapM (frz h d) with
  |none=>grind
  |some r=>
   simp only[hm,du,bz] at hf;subst hf;obtain⟨h1,h2⟩:=jr hm;obtain⟨vs,rfl,hl,hc⟩:=hr.xo
   exact .tup (by omega) (λj q u hq hu=>by
    obtain⟨x,hx,d'⟩:=h2 j q hq
    exact m9 hs a5 fr hG1 hG2 d x q u d' (λe=>by have:=aj e;simp only[dQ] at this;grind) (hc j x u hx hu))
 |d+1,.fn g cs,p,v,hf,aj,hr=>by
  simp only[frz] at hf
  cases hm:cs.mapM (frz h d) with
  |none=>grind
  |some r=>
   simp only[hm,du,bz] at hf;subst hf;obtain⟨h1,h2⟩:=jr hm
   cases hr with
   |fn hl hc=>
    exact .fn (by omega) (λj q u hq hu=>by
     obtain⟨x,hx,d'⟩:=h2 j q hq
     exact m9 hs a5 fr hG1 hG2 d x q u d' (λe=>by have:=aj e;simp only[dQ] at this;grind) (hc j x u hx hu))
end
def j0(h:ak):List AV->Option (List PV)
 |[]=>some []
 |x::r=>match frz h 6 x with
  |some p=>match j0 h r with
   |some q=>some (p::q)
   |none=>none
  |none=>none
inductive Mark{α:Type}(a:α):Type where
 |it
def o8(fr:Bool)(p:PV):Bool:=fr && !flat p
def AV.sh(n:Nat):AV->AV
 |.w o f p=>.w o f p
 |.ptr id v off=>.ptr (id+n) v off
 |.msl id v sz off k=>.msl (id+n) v sz off k
 |.mp id=>.mp (id+n)
 |.agg cs=>.agg (shL n cs)
 |.tup cs=>.tup (shL n cs)
 |.fn f cs=>.fn f (shL n cs)
where shL (n:Nat):List AV->List AV
 |[]=>[]
 |x::r=>x.sh n::shL n r
def AV.frs:AV->Bool
 |.w o _ p=>o || flat p
 |.ptr _ _ _=>true
 |.msl _ _ _ _ _=>true
 |.mp _=>true
 |.agg cs=>j1 cs
 |.tup cs=>j1 cs
 |.fn _ cs=>j1 cs
where j1:List AV->Bool
 |[]=>true
 |x::r=>x.frs&&j1 r
section
omit [av]
theorem Ea{n:Nat}{c:List AV}:jb (AV.sh.shL n c)=jb c:=by
 match c with
 |[]=>rfl
 |[x]=>cases x<;>simp[AV.sh.shL,AV.sh,jb]
 |x::y::r=>simp[AV.sh.shL,jb]
theorem J3{n:Nat}{c:List AV}{l:List (PV×PV)}(h:dZ (AV.sh.shL n c)=some l):dZ c=some l:=by
 match c with
 |[]=>trivial
 |[x]=>
  cases x with
  |w o f p=>trivial
  |_=>simp[AV.sh.shL,AV.sh,dZ] at h
 |x::y::r=>simp[AV.sh.shL,dZ] at h
theorem J4{n:Nat}{c:List AV}{l:List (PV×PV)}(h:dZ c=some l):dZ (AV.sh.shL n c)=some l:=by
 match c with
 |[]=>trivial
 |[x]=>
  cases x with
  |w o f p=>trivial
  |_=>simp[dZ] at h
 |x::y::r=>simp[dZ] at h
end
def bu(h:ak)(n:Nat):List (List AV)->ak
 |[]=>h
 |c::E=>(n,c)::bu h (n+1) E
def nI(P:Program)(f:FuncId)(args:List PV)(E:List (List AV))(v:AV):Prop:=
 BN P f/\v.frs=true/\(∀c∈E,AV.frs.j1 c=true)/\∀(G:Nat->Prop)(w:World)(vs:Array Value),av.ok w->args.length=vs.size->(∀(j:Nat)(p:PV)(v:Value),args[j]?=some p->vs[j]?=some v->Rep G w p v) ->
  jA P f vs w λe w'=>∃u mm,e=.returned u/\Bel w.heap.size w w'/\(∀i,mm.dom i↔i<E.length)/\bt ⟨w.heap.size,G⟩ (bu [] 0 E) mm w'/\aA ⟨w.heap.size,G⟩ (LB mm (bu [] 0 E)) mm w' v u
def CW(P:Program)(g:FuncId)(args:List PV)(K:PV->Bool->Prop)(K2:List (List AV)->AV->Prop)(_:Mark (K,K2)):Prop:=(∃res fr,aC P g args res fr/\K res fr)\/∃E v,nI P g args E v/\K2 E v
def rK(P:Program)(h:ak)(n:Nat)(g:FuncId)(args:List AV)(K:AV->List (List AV)->Prop):Prop:=
 match j0 h args with
 |some pvs=>CW P g pvs (λres fr=>(fr=true\/mj args=true)/\K (.w (o8 fr res) false res) []) (λE v=>K (v.sh n) (E.map (AV.sh.shL n))) .it
 |none=>False
def fo:AV->Option (FuncId×List AV)
 |.fn g aH=>some (g,aH)
 |.w own _ (.fn g aH)=>some (g,aH.map (AV.w own false))
 |_=>none
def bG(P:Program)(env:Env)(h:ak)(n:Nat)(op:Op)(K:AV->List (List AV)->Prop):Prop:=
 match op with
 |.call { callee:=.value f,args:=args,argTypes:=_ } =>
  match fo (ev env f) with
  |some (g,aH)=>rK P h n g (args.toList.map (ev env)++aH) K
  |none=>False
 |op=>match aOp P h n (ev env) op with
  |some (c,v,E)=>c/\K v E
  |none=>False
def iw(B:Base)(H:ak)(m:Mm)(w:World)(n k:Nat)(v:AV)(v':Value)(w':World)(m':Mm):Prop:=
 m.le m'/\(∀i,m'.dom i↔m.dom i\/(n<=i/\i<n+k))/\Bel w.heap.size w w'/\bt B H m' w'/\(∀b,LB m' H b->LB m H b\/w.heap.size<=b)/\aA B (LB m' H) m' w' v v'
omit [av] in
theorem J5{fr:Bool}{p:PV}(h:o8 fr p=true):fr=true:=by
 unfold o8 at h;simp_all
section
variable{P:Program}{B:Base}{m:Mm}{w:World}{H h:ak}{n:Nat}{env:Env}{a:Act}{L:Nat->Prop}
section
omit [av]
theorem zh:∀{l:List AV}{r:List PV},j0 h l=some r->l.length=r.length/\∀(j:Nat)(p:PV),r[j]?=some p->∃x,l[j]?=some x/\frz h 6 x=some p
 |[],r,e=>by simp[j0] at e;simp_all
 |x::l,r,e=>by
  simp only[j0] at e;split at e
  .rename_i p hp;split at e
   .rename_i q hq;cases e;obtain⟨h1,h2⟩:=zh hq
    grind
   .cases e
  .cases e
theorem Eb:∀{l:List AV},mj l=true->∀(j:Nat)(x:AV),l[j]?=some x->xq x=true
 |[],_,j,x,h=>by simp at h
 |y::l,hp,j,x,h=>by
  simp only[mj,bU] at hp
  cases j with
  |zero=>simp_all
  |succ j=>exact Eb hp.2 j x (by simpa using h)
theorem zi:∀{l:List AV},rJ l=true->∀(j:Nat)(x:AV),l[j]?=some x->isW x=true
 |[],_,j,x,h=>by simp at h
 |y::l,hp,j,x,h=>by
  simp only[rJ,bU] at hp
  cases j with
  |zero=>simp_all
  |succ j=>exact zi hp.2 j x (by simpa using h)
end
theorem J6(hO:av.ok w)(hs:bt B H m w)(hB:B.n<=w.heap.size)(a5:∀id cs,bf h id=some cs->(id,cs)∈H)(o:Oper)(f:Operand)(args:Array Operand)(tys:Array TypeId)(ho:o.op=.call { callee:=.value f,args:=args,argTypes:=tys })(hx:∀x,x∈o.op.operands->aA B (LB m H) m w (ev env x) (a.eval x)){g:FuncId}{aH:List AV}(hf:fo (ev env f)=some (g,aH)){pvs:List PV}(hp:j0 h (args.toList.map (ev env)++aH)=some pvs){res:PV}{fr:Bool}(hc:aC P g pvs res fr)(aj:fr=true\/mj (args.toList.map (ev env)++aH)=true)(K:Act->World->Prop)(Q:Exit->Act->World->Prop)(hK:∀v' w' m',iw B H m w n 0 (.w (o8 fr res) false res) v' w' m'->K (a.put o.dst v') w'):o.wpt P a w K Q:=by
 obtain⟨⟨fn,g0,en,ek⟩,bd⟩:=hc;have bo:aA B (LB m H) m w (ev env f) (a.eval f):=hx f (by rw[ho];simp[Op.operands,Call.operands])
 have jy:∀x∈args.toList,aA B (LB m H) m w (ev env x) (a.eval x):=λx hm=>hx x (by rw[ho];simp[Op.operands,Call.operands,qV.1 hm])
 have eg:∃cv:Array Value,a.eval f=.func (.func g) #[] cv/\aH.length=cv.size/\∀(j:Nat)(p:AV)(v:Value),aH[j]?=some p->cv[j]?=some v->aA B (LB m H) m w p v:=by
  unfold fo at hf;split at hf
  .rename_i g' bv e
   injection hf with hf;injection hf with h1 h2;subst h1;subst h2
   rw[e] at bo;generalize hv:a.eval f=vf at bo
   cases bo with|fn h1 h2=>grind
  .rename_i own f' g' bv e
   injection hf with hf;injection hf with h1 h2;subst h1;subst h2
   rw[e] at bo;generalize hv:a.eval f=vf at bo
   cases bo with
   |w h1 _=>
    cases h1 with
    |fn h1 h2=>
     refine⟨_,rfl,by grind,λj p v hp hv=>?_⟩;obtain⟨q,hq,rfl⟩:=fP hp;exact .w (h2 j q v hq hv) nofun
  .cases hf
 obtain⟨cv,fz,d7,ie⟩:=eg
 have fb:∀(j:Nat)(x:AV)(v:Value),(args.toList.map (ev env)++aH)[j]?=some x->(args.map a.eval++cv)[j]?=some v->aA B (LB m H) m w x v:=by
  grind
 obtain⟨g5,fh⟩:=zh hp
 have hlen:pvs.length=(args.map a.eval++cv).size:=by rw[<-g5];simp[d7]
 have a4:(execOp a.eval o).run P w=.ok (.enter g (args.map a.eval++cv)) w:=by
  have g6:¬fn.name = "runtime.NumGoroutine" := by simp_all
  have bm:¬fn.body=none:=by grind
  simp[execOp,ho,resolve,fz,Deferred.ofValue,invoke,callFunc,g0,g6,bm]
 unfold Oper.wpt;rw[a4,Oper.BE]
 rcases aj with aj|ez
 .subst aj
  refine (bd (λ_=>True) w _ hO hlen (λj p v hp hv=>by
   obtain⟨x,hx,d4⟩:=fh j p hp
   exact m9 hs a5 false (λ_ _=>trivial) (λ_ _ _=>trivial) 6 x p v d4 nofun (fb j x v hx hv))).mono ?_
  rintro e w' ⟨v,rfl,hb,hr⟩
  refine hK v w' m ⟨Mm.le.refl m,λi=>⟨.inl,λh=>h.elim id λh=>by omega⟩,hb,hs.below hb,λb h=>.inl h,.w (hr.imp λb hg=>?_) nofun⟩;have bm:=hg.2 rfl;exact⟨λhl=>by have:=dN hs hl;omega,λ_=>by omega,λh=>by omega⟩
 .refine (bd (Good B (LB m H) false) w _ hO hlen (λj p v hp hv=>by
   obtain⟨x,hx,d4⟩:=fh j p hp;have gb:=Eb ez j x hx;have hr:=fb j x v hx hv
   cases x with
   |w o f q=>
    have:q=p:=by simpa[frz] using d4
    subst this
    cases hr with|w hr _=>exact hr.imp λb hg=>⟨hg.1,nofun,hg.2.2⟩
   |agg cs=>
    cases hm:cs.mapM (frz h 5) with
    |none=>simp[frz,hm] at d4
    |some r=>
     simp only[frz,hm,du,bz] at d4;subst d4;obtain⟨h1,h2⟩:=jr hm
     cases hr with
     |agg hl a6=>
      refine .agg (by omega) (λi q u hq hu=>?_);obtain⟨y,hy,gr⟩:=h2 i q hq;have gu:isW y=true:=zi gb i y hy;have gt:=a6 i y u hy hu
      cases y with
      |w o f q'=>
       have:q'=q:=by simpa[frz] using gr
       subst this
       cases gt with|w hr _=>exact hr.imp λb hg=>⟨hg.1,nofun,hg.2.2⟩
      |_=>cases gu
   |fn gg cs=>
    cases hm:cs.mapM (frz h 5) with
    |none=>simp[frz,hm] at d4
    |some r=>
     simp only[frz,hm,du,bz] at d4;subst d4;obtain⟨h1,h2⟩:=jr hm
     cases hr with
     |fn hl a6=>
      refine .fn (by omega) (λi q u hq hu=>?_);obtain⟨y,hy,gr⟩:=h2 i q hq;have gu:isW y=true:=zi gb i y hy;have gt:=a6 i y u hy hu
      cases y with
      |w o f q'=>
       have:q'=q:=by simpa[frz] using gr
       subst this
       cases gt with|w hr _=>exact hr.imp λb hg=>⟨hg.1,nofun,hg.2.2⟩
      |_=>cases gu
   |_=>cases gb)).mono ?_
  rintro e w' ⟨v,rfl,hb,hr⟩
  refine hK v w' m ⟨Mm.le.refl m,λi=>⟨.inl,λh=>h.elim id λh=>by omega⟩,hb,hs.below hb,λb h=>.inl h,.w (hr.imp λb hg=>?_) nofun⟩
  rcases dF b w.heap.size with al|k1
  .have gz:=hg.1 al;exact⟨gz.1,λh=>by have:=hg.2 (J5 h);omega,gz.2.2⟩
  .exact⟨λhl=>by have:=dN hs hl;omega,λ_=>by omega,λh=>by omega⟩
section
omit [av]
theorem gp(n:Nat):∀cs:List AV,AV.sh.shL n cs=cs.map (AV.sh n)
 |[]=>rfl
 |x::r=>by simp[AV.sh.shL,gp n r]
theorem tc:∀{cs:List AV},AV.frs.j1 cs=true->∀(j:Nat)(x:AV),cs[j]?=some x->x.frs=true
 |[],_,j,x,h=>by simp at h
 |y::l,hp,j,x,h=>by
  simp only[AV.frs.j1,bU] at hp
  cases j with
  |zero=>simp_all
  |succ j=>exact tc hp.2 j x (by simpa using h)
theorem aA.up{B1:Base}{L1 L2:Nat->Prop}{mm m':Mm}{w':World}{n:Nat}{x:AV}{v:Value}(h:aA B1 L1 mm w' x v)(hd:∀i,mm.dom i->m'.dom (i+n))(ht:∀i,mm.dom i->m'.top (i+n)=mm.top i)(ha:∀i ver,mm.dom i->m'.addr (i+n) ver=mm.addr i ver)(hG:∀b,B1.n<=b->¬L1 b->Good B L2 true b)(aj:x.frs=true):aA B L2 m' w' (x.sh n) v:=by
 induction h with
 |@w own full p v hr hf=>
  refine .w ?_ hf
  cases own with
  |true=>exact hr.imp λb hg=>hG b (hg.2.1 rfl) hg.1
  |false=>exact vn (by trivial) hr
 |ptr b6 b5 fl hC=>exact .ptr (hd _ b6) (by rw[ht _ b6];exact b5) ((ha _ _ b6).trans fl) hC
 |mp b6 b5 fl=>exact .mp (hd _ b6) (by rw[ht _ b6];exact b5) ((ha _ _ b6).trans fl)
 |msl b6 b5 hn h0 h1=>exact .msl (hd _ b6) (by rw[ht _ b6];exact b5) hn (λe=>h0 ((ha _ _ b6).symm.trans e)) (λb C e=>h1 b C ((ha _ _ b6).symm.trans e))
 |@agg cs vs hl _ ih=>
  rw[AV.sh,gp];refine .agg (by grind) (λj p v hp hv=>?_);obtain⟨q,hq,rfl⟩:=fP hp;exact ih j q v hq hv (tc aj j q hq)
 |@tup cs vs hl _ ih=>
  rw[AV.sh,gp];refine .tup (by grind) (λj p v hp hv=>?_);obtain⟨q,hq,rfl⟩:=fP hp;exact ih j q v hq hv (tc aj j q hq)
 |@fn f cs vs hl _ ih=>
  rw[AV.sh,gp];refine .fn (by grind) (λj p v hp hv=>?_);obtain⟨q,hq,rfl⟩:=fP hp;exact ih j q v hq hv (tc aj j q hq)
end
def Mm.glue(m mm:Mm)(n len:Nat):Mm:=
 ⟨λi ver=>if n<=i/\i<n+len then mm.addr (i-n) ver else m.addr i ver,λi=>if n<=i/\i<n+len then mm.top (i-n) else m.top i,λi=>m.dom i\/(n<=i/\i<n+len)⟩
section
omit [av]
theorem zj:∀(E:List (List AV))(h:ak)(n:Nat)(id:Nat)(c:List AV),(id,c)∈bu h n E↔(id,c)∈h\/∃k,E[k]?=some c/\id=n+k
 |[],h,n,id,c=>by simp[bu]
 |x::E,h,n,id,c=>by
  simp only[bu,cD,bX,zj E h (n+1) id c];constructor
  .rintro (⟨rfl,rfl⟩|h1|⟨k,h1,rfl⟩)
   .exact .inr ⟨0,rfl,rfl⟩
   .exact .inl h1
   .exact .inr ⟨k+1,by simpa using h1,by omega⟩
  grind
theorem J7{α:Type}{R:α->α->Prop}{l:List α}(h:l.Pairwise R)(hs:∀a b,R a b->R b a){x y:α}(hx:x∈l)(hy:y∈l):x=y\/R x y:=by
 rw[sN] at h;obtain⟨p,hp,ep⟩:=lN hx;obtain⟨q,hq,eq⟩:=lN hy
 grind
theorem J8(hs:bt B H m w)(hB:B.n<=w.heap.size){E:List (List AV)}{v:AV}(hv:v.frs=true)(hEf:∀c∈E,AV.frs.j1 c=true)(hE:∀k cs,(E.map (AV.sh.shL n))[k]?=some cs->(n+k,cs)∈H)(ae:∀k,k<E.length->¬m.dom (n+k)){G:Nat->Prop}{w':World}{u:Value}{mm:Mm}(hb:Bel w.heap.size w w')(b7:∀i,mm.dom i↔i<E.length)(f7:bt ⟨w.heap.size,G⟩ (bu [] 0 E) mm w')(hr:aA ⟨w.heap.size,G⟩ (LB mm (bu [] 0 E)) mm w' v u):iw B H m w n E.length (v.sh n) u w' (m.glue mm n E.length):=by
 have hold:∀i,m.dom i->¬(n<=i/\i<n+E.length):=λi hd hi=>by
  have:=ae (i-n) (by omega);rw[show n+(i-n)=i by omega] at this;exact this hd
 have hle:m.le (m.glue mm n E.length):=⟨λi hd=>.inl hd,λi hd=>by simp only[Mm.glue,ar (hold i hd)];exact aE _,λi ver hd _=>by simp only[Mm.glue,ar (hold i hd)]⟩
 have cm:∀k c,E[k]?=some c->(k,c)∈bu [] 0 E:=λk c hk=>(zj E [] 0 k c).2 (.inr ⟨k,hk,by omega⟩)
 have az:∀k c,(n+k,c)∈H->k<E.length->∃c0,E[k]?=some c0/\c=AV.sh.shL n c0:=λk c hin hk=>by
  have h1:=da hk;refine⟨E[k],h1,?_⟩;have h2:=hE k (AV.sh.shL n E[k]) (by rw[gD,h1];rfl);exact hs.key hin h2
 have hLB:∀b,LB (m.glue mm n E.length) H b->LB m H b\/LB mm (bu [] 0 E) b:=by
  rintro b ⟨id,c,C,hin,hd,ha⟩
  by_cases hi:n<=id/\id<n+E.length
  .obtain⟨c0,h1,h2⟩:=az (id-n) c (by rw[show n+(id-n)=id by omega];exact hin) (by omega);simp only[Mm.glue,aB hi] at ha;rw[h2,gp,fI] at ha;exact .inr ⟨id-n,c0,C,cm _ _ h1,(b7 _).2 (by omega),ha⟩
  .have b6:m.dom id:=by
    rcases hd with hd|hd
    .exact hd
    .exact absurd hd hi
   simp only[Mm.glue,ar hi] at ha;exact .inl ⟨id,c,C,hin,b6,ha⟩
 have hmmB:∀b,LB mm (bu [] 0 E) b->w.heap.size<=b:=by
  rintro b ⟨id,c,C,hin,hd,ha⟩
  exact (f7.block hin hd ha).2
 have hG:∀b,w.heap.size<=b->¬LB mm (bu [] 0 E) b->Good B (LB (m.glue mm n E.length) H) true b:=λb ej fp=>⟨λhl=>by
  rcases hLB b hl with h1|h1
  .have:=dN hs h1;omega
  .exact fp h1,λ_=>by omega,λh=>by omega⟩
 have i5:∀x u,aA ⟨w.heap.size,G⟩ (LB mm (bu [] 0 E)) mm w' x u->x.frs=true->aA B (LB (m.glue mm n E.length) H) (m.glue mm n E.length) w' (x.sh n) u:=λx u h hf=>
  h.up (λi hd=>.inr ⟨by omega,by have:=(b7 i).1 hd;omega⟩) (λi hd=>by have:=(b7 i).1 hd;simp only[Mm.glue];rw[aB ⟨by omega,by omega⟩,Nat.add_sub_cancel])
   (λi ver hd=>by have:=(b7 i).1 hd;simp only[Mm.glue];rw[aB ⟨by omega,by omega⟩,Nat.add_sub_cancel]) hG hf
 have bi:∀x u,aA B (LB m H) m w x u->aA B (LB (m.glue mm n E.length) H) (m.glue mm n E.length) w' x u:=λx u h=>
  h.mono hle (λb ej fp hl=>by
   rcases hLB b hl with h1|h1
   .exact fp h1
   .have:=hmmB b h1;omega) (λb ej _=>hb.block b ej)
 refine⟨hle,λi=>Iff.rfl,hb,⟨λid c hin hd=>?_,?_⟩,λb hl=>?_,i5 v u hr hv⟩
 .by_cases hi:n<=id/\id<n+E.length
  .obtain⟨c0,h1,h2⟩:=az (id-n) c (by rw[show n+(id-n)=id by omega];exact hin) (by omega)
   have hlen:c.length=c0.length:=by rw[h2,gp,fI]
   obtain⟨e1,e2⟩:=f7.entry (id-n) c0 (cm _ _ h1) ((b7 _).2 (by omega));refine⟨by simp only[Mm.glue,aB hi];rw[e1,hlen],?_⟩
   rcases e2 with ⟨e3,e4⟩|⟨b,C,cs,e,f1,f2,f3,f4,f5,f6⟩|⟨b,es,clk,f1,f2,f3,f4,f5⟩
   .exact .inl ⟨by simp only[Mm.glue,aB hi];rw[hlen];exact e3,by rw[h2,e4];rfl⟩
   rotate_left
   .exact .inr (.inr ⟨b,es,clk,by simp only[Mm.glue,aB hi];rw[hlen];exact f1,by rw[h2,Ea];exact f2,f3,by simp only at f4;omega,λl hl=>f5 l (J3 (by rw[<-h2];exact hl))⟩)
   .refine .inr (.inl ⟨b,C,cs,e,by simp only[Mm.glue,aB hi];rw[hlen];exact f1,f2,f3,by omega,by simp only at f5;omega,λj p u hp hu=>?_⟩);rw[h2,gp] at hp;obtain⟨q,hq,rfl⟩:=fP hp;exact i5 q u (f6 j q u hq hu) (tc (hEf c0 (IL h1)) j q hq)
  .have b6:m.dom id:=by
    rcases hd with hd|hd
    .exact hd
    .exact absurd hd hi
   obtain⟨e1,e2⟩:=hs.entry id c hin b6;refine⟨by simp only[Mm.glue,ar hi];exact e1,?_⟩
   rcases e2 with ⟨e3,e4⟩|⟨b,C,cs,e,f1,f2,f3,f4,f5,f6⟩|⟨b,es,clk,f1,f2,f3,f4,f5⟩
   .exact .inl ⟨by simp only[Mm.glue,ar hi];exact e3,e4⟩
   rotate_left
   .have dt:b<w.heap.size:=dN hs ⟨id,c,0,hin,b6,f1⟩;exact .inr (.inr ⟨b,es,clk,by simp only[Mm.glue,ar hi];exact f1,f2,(hb.block b dt).trans f3,f4,f5⟩)
   .have dt:b<w.heap.size:=dN hs ⟨id,c,C,hin,b6,f1⟩;exact .inr (.inl ⟨b,C,cs,e,by simp only[Mm.glue,ar hi];exact f1,(hb.block b dt).trans f2,f3,f4,f5,λj p u hp hu=>bi p u (f6 j p u hp hu)⟩)
 .refine sJ ?_ hs.inj;intro x y hx hy ⟨ao,gq⟩;refine⟨ao,λb C C' ef e8 dh d5=>?_⟩
  have key:∀z:Nat×List AV,z∈H->(m.glue mm n E.length).dom z.1->∀C,(m.glue mm n E.length).addr z.1 z.2.length=some (b,C)->(¬(n<=z.1/\z.1<n+E.length)/\m.dom z.1/\m.addr z.1 z.2.length=some (b,C)) \/
   ((n<=z.1/\z.1<n+E.length)/\∃c0,(z.1-n,c0)∈bu [] 0 E/\mm.addr (z.1-n) c0.length=some (b,C)):=by
   intro z hz d8 C ha;by_cases hi:n<=z.1/\z.1<n+E.length
   .obtain⟨c0,h1,h2⟩:=az (z.1-n) z.2 (by rw[show n+(z.1-n)=z.1 by omega];exact hz) (by omega);simp only[Mm.glue,aB hi] at ha;rw[h2,gp,fI] at ha;exact .inr ⟨hi,c0,cm _ _ h1,ha⟩
   .simp only[Mm.glue,ar hi] at ha
    rcases d8 with d8|d8
    .exact .inl ⟨hi,d8,ha⟩
    .exact absurd d8 hi
  rcases key x hx ef C dh with ⟨_,dx,ax⟩|⟨ix,cx,mx,ax⟩
  .rcases key y hy e8 C' d5 with ⟨_,dy,ay⟩|⟨iy,cy,my,ay⟩
   .exact gq b C C' dx dy ax ay
   .have h1:b<w.heap.size:=dN hs ⟨x.1,x.2,C,hx,dx,ax⟩;have h2:=hmmB b ⟨y.1-n,cy,C',my,(b7 _).2 (by omega),ay⟩;omega
  .rcases key y hy e8 C' d5 with ⟨_,dy,ay⟩|⟨iy,cy,my,ay⟩
   .have h1:b<w.heap.size:=dN hs ⟨y.1,y.2,C',hy,dy,ay⟩;have h2:=hmmB b ⟨x.1-n,cx,C,mx,(b7 _).2 (by omega),ax⟩;omega
   .rcases J7 f7.inj (λa c gx=>⟨λe=>gx.1 e.symm,λb C C' d1 d2 a1 a2=>gx.2 b C' C d2 d1 a2 a1⟩) mx my with h1|h1
    .injection h1 with h1 _
     exact ao (by omega)
    .exact h1.2 b C C' ((b7 _).2 (by omega)) ((b7 _).2 (by omega)) ax ay
 grind
end
theorem J9(hO:av.ok w)(hs:bt B H m w)(hB:B.n<=w.heap.size)(a5:∀id cs,bf h id=some cs->(id,cs)∈H)(o:Oper)(f:Operand)(args:Array Operand)(tys:Array TypeId)(ho:o.op=.call { callee:=.value f,args:=args,argTypes:=tys })(hx:∀x,x∈o.op.operands->aA B (LB m H) m w (ev env x) (a.eval x)){g:FuncId}{aH:List AV}(hf:fo (ev env f)=some (g,aH)){pvs:List PV}(hp:j0 h (args.toList.map (ev env)++aH)=some pvs){E:List (List AV)}{v:AV}(hE:∀k cs,(E.map (AV.sh.shL n))[k]?=some cs->(n+k,cs)∈H)(ae:∀k,k<E.length->¬m.dom (n+k))(hc:nI P g pvs E v)(K:Act->World->Prop)(Q:Exit->Act->World->Prop)(hK:∀v' w' m',iw B H m w n E.length (v.sh n) v' w' m'->K (a.put o.dst v') w'):o.wpt P a w K Q:=by
 obtain⟨⟨fn,g0,en,ek⟩,hv,hEf,bd⟩:=hc;have bo:aA B (LB m H) m w (ev env f) (a.eval f):=hx f (by rw[ho];simp[Op.operands,Call.operands])
 have jy:∀x∈args.toList,aA B (LB m H) m w (ev env x) (a.eval x):=λx hm=>hx x (by rw[ho];simp[Op.operands,Call.operands,qV.1 hm])
 have eg:∃cv:Array Value,a.eval f=.func (.func g) #[] cv/\aH.length=cv.size/\∀(j:Nat)(p:AV)(v:Value),aH[j]?=some p->cv[j]?=some v->aA B (LB m H) m w p v:=by
  unfold fo at hf;split at hf
  .rename_i g' bv e
   injection hf with hf;injection hf with h1 h2;subst h1;subst h2
   rw[e] at bo;generalize hv:a.eval f=vf at bo
   cases bo with|fn h1 h2=>grind
  .rename_i own f' g' bv e
   injection hf with hf;injection hf with h1 h2;subst h1;subst h2
   rw[e] at bo;generalize hv:a.eval f=vf at bo
   cases bo with
   |w h1 _=>
    cases h1 with
    |fn h1 h2=>
     refine⟨_,rfl,by grind,λj p v hp hv=>?_⟩;obtain⟨q,hq,rfl⟩:=fP hp;exact .w (h2 j q v hq hv) nofun
  .cases hf
 obtain⟨cv,fz,d7,ie⟩:=eg
 have fb:∀(j:Nat)(x:AV)(v:Value),(args.toList.map (ev env)++aH)[j]?=some x->(args.map a.eval++cv)[j]?=some v->aA B (LB m H) m w x v:=by
  grind
 obtain⟨g5,fh⟩:=zh hp
 have hlen:pvs.length=(args.map a.eval++cv).size:=by rw[<-g5];simp[d7]
 have a4:(execOp a.eval o).run P w=.ok (.enter g (args.map a.eval++cv)) w:=by
  have g6:¬fn.name = "runtime.NumGoroutine" := by simp_all
  have bm:¬fn.body=none:=by grind
  simp[execOp,ho,resolve,fz,Deferred.ofValue,invoke,callFunc,g0,g6,bm]
 unfold Oper.wpt;rw[a4,Oper.BE]
 refine (bd (λ_=>True) w _ hO hlen (λj p v hp hv=>by
  obtain⟨x,hx,d4⟩:=fh j p hp
  exact m9 hs a5 false (λ_ _=>trivial) (λ_ _ _=>trivial) 6 x p v d4 nofun (fb j x v hx hv))).mono ?_
 rintro e w' ⟨u,mm,rfl,hb,b7,f7,hr⟩
 exact hK u w' _ (J8 hs hB hv hEf hE ae hb b7 f7 hr)
def QF(P:Program)(env:Env)(h:ak)(n:Nat)(op:Op)(v:AV)(E:List (List AV)):Prop:=
 (∃c,aOp P h n (ev env) op=some (c,v,E)/\c) \/
 ∃f args tys g aH pvs res fr,op=.call { callee:=.value f,args:=args,argTypes:=tys }/\fo (ev env f)=some (g,aH)/\j0 h (args.toList.map (ev env)++aH)=some pvs /\
  ((aC P g pvs res fr/\(fr=true\/mj (args.toList.map (ev env)++aH)=true)/\v=.w (o8 fr res) false res/\E=[]) \/
    ∃E0 v0,nI P g pvs E0 v0/\v=v0.sh n/\E=E0.map (AV.sh.shL n))
theorem bG.qf{op:Op}{K:AV->List (List AV)->Prop}(hq:bG P env h n op K):∃v E,QF P env h n op v E/\K v E:=by
 unfold bG at hq;split at hq
 .rename_i f args tys;split at hq
  .rename_i g aH hf;unfold rK at hq;split at hq
   .rename_i pvs hp
    rcases hq with ⟨res,fr,hc,aj,hk⟩|⟨E,v,hc,hk⟩
    .exact⟨_,_,.inr ⟨f,args,tys,g,aH,pvs,res,fr,rfl,hf,hp,.inl ⟨hc,aj,rfl,rfl⟩⟩,hk⟩
    .exact⟨_,_,.inr ⟨f,args,tys,g,aH,pvs,.undef,true,rfl,hf,hp,.inr ⟨E,v,hc,rfl,rfl⟩⟩,hk⟩
   .exact hq.elim
  trivial
 .split at hq
  .rename_i c v E he;exact⟨v,E,.inl ⟨c,he,hq.1⟩,hq.2⟩
  trivial
theorem QF.sound(o:Oper){v:AV}{E:List (List AV)}(hq:QF P env h n o.op v E)(hO:av.ok w)(hs:bt B H m w)(hB:B.n<=w.heap.size)(a5:∀id cs,bf h id=some cs->(id,cs)∈H)(hE:∀k cs,E[k]?=some cs->(n+k,cs)∈H)(ae:∀k,k<E.length->¬m.dom (n+k))(hx:∀x,x∈o.op.operands->aA B (LB m H) m w (ev env x) (a.eval x))(K:Act->World->Prop)(Q:Exit->Act->World->Prop)(hK:∀v' w' m',iw B H m w n E.length v v' w' m'->K (a.put o.dst v') w'):o.wpt P a w K Q:=by
 rcases hq with ⟨c,h0,hc⟩|⟨f,args,tys,g,aH,pvs,res,fr,ho,hf,hp,⟨hc,aj,rfl,rfl⟩|⟨E0,v0,hc,rfl,rfl⟩⟩
 .obtain⟨v',w',m',a4,h1,h2,h3,h4,h5,h6⟩:=J2 o h0 hc hs hB a5 hE ae hx;unfold Oper.wpt;rw[a4,Oper.oW];exact hK v' w' m' ⟨h1,h2,h3,h4,h5,h6⟩
 .exact J6 hO hs hB a5 o f args tys ho hx hf hp hc aj K Q hK
 .rw[fI] at ae hK;exact J9 hO hs hB a5 o f args tys ho hx hf hp hE ae hc K Q hK
end
end Go.Fi
namespace Go.Fi
open Go Go.RowKit
def ea(w:World)(b:Nat)(cs:Array Value)(e:TypeId):World:={ w with heap:=w.heap.setIfInBounds b (.cells cs e (0,0))}
theorem Ka(w:World)(b:Nat)(cs:Array Value)(e:TypeId):(ea w b cs e).heap.size=w.heap.size:=by simp[ea]
theorem vr(w:World)(b:Nat)(cs:Array Value)(e:TypeId){k:Nat}(h:k≠b):(ea w b cs e).heap[k]?=w.heap[k]?:=by
 simp only[ea];rw[iH]
 grind
theorem vt(w:World)(b:Nat)(cs:Array Value)(e:TypeId)(h:b<w.heap.size):(ea w b cs e).heap[b]?=some (.cells cs e (0,0)):=by
 simp only[ea];rw[iH];simp[h]
theorem Kb(w:World)(b:Nat)(cs cs':Array Value)(e:TypeId):ea (ea w b cs e) b cs' e=ea w b cs' e:=by
 simp[ea]
theorem te(w:World)(b:Nat)(cs:Array Value)(e:TypeId)(h:w.heap[b]?=some (.cells cs e (0,0))):ea w b cs e=w:=by
 have:w.heap.setIfInBounds b (.cells cs e (0,0))=w.heap:=by
  grind
 unfold ea;rw[this]
def ew(cs:Array Value)(off:Nat):List Value->Array Value
 |[]=>cs
 |v::r=>ew (cs.setIfInBounds off v) (off+1) r
theorem vu:∀(vs:List Value)(off:Nat)(cs:Array Value),(ew cs off vs).size=cs.size
 |[],_,_=>rfl
 |v::r,off,cs=>by rw[ew,vu r];simp
theorem Kc{w:World}{b:Nat}{cs:Array Value}{e:TypeId}(h:w.heap[b]?=some (.cells cs e (0,0)))(off:Nat)(v:Value):w.setCell ⟨b,off,none⟩ v=ea w b (cs.setIfInBounds off v) e:=by
 unfold World.setCell ea;congr 1
 have hb:b<w.heap.size:=by
  rcases dF b w.heap.size with h'|h'
  .exact h'
  .rw[CV h'] at h;cases h
 have hg:w.heap[b]=.cells cs e (0,0):=by rw[cJ hb] at h;injection h
 grind
section
variable{P:Program}
theorem vw(b off:Nat)(e:TypeId):∀(vs:List Value)(i:Nat)(w:World)(cs:Array Value),w.heap[b]?=some (.cells cs e (0,0))->off+i+vs.length<=cs.size->(∀v∈vs,v.oneCell'=true)->(storeCells ⟨b,off,none⟩ vs i).run P w=.ok () (ea w b (ew cs (off+i) vs) e)
 |[],i,w,cs,h,_,_=>by
  simp only[storeCells,ew];rw[te w b cs e h];rfl
 |v::r,i,w,cs,h,hle,h1=>by
  have al:off+i<cs.size:=by grind
  have hb:b<w.heap.size:=by
   grind
  have d6:(store ((⟨b,off,none⟩:Addr).add i) v).run P w=.ok () (ea w b (cs.setIfInBounds (off+i) v) e):=by
   rw[Addr.jc,run_store P w _ v _ (h1 v (by simp))]
   have hc:w.cell? ⟨b,off+i,none⟩=some cs[off+i]:=by rw[m7 h];simp[al]
   have hf:w.frozen? ⟨b,off+i,none⟩=false:=by simp[World.frozen?,h]
   simp[hc,hf,Kc h]
  have ih:=vw b off e r (i+1) (ea w b (cs.setIfInBounds (off+i) v) e) (cs.setIfInBounds (off+i) v) (vt w b _ e hb) (by grind) (λx hx=>h1 x (by simp[hx]));simp only[storeCells,Sem.run_bind,d6,Result.andThen_ok,ih,Kb,ew];rw[show off+(i+1)=off+i+1 by omega]
end
section
variable{P:Program}{B:Base}{m:Mm}{w:World}{H h:ak}{n:Nat}{env:Env}{a:Act}{L:Nat->Prop}
theorem Ec:∀{l:List AV},dj l=true->∀(j:Nat)(x:AV),l[j]?=some x->x.one=true
 |[],_,j,x,h=>by simp at h
 |y::l,hp,j,x,h=>by
  simp only[dj,bU] at hp
  cases j with
  |zero=>simp_all
  |succ j=>exact Ec hp.2 j x (by simpa using h)
theorem Ke{x:AV}{v:Value}(h1:x.one=true)(h:aA B L m w x v):v.oneCell'=true:=by
 cases h with
 |w hr _=>cases hr<;>first|rfl|(cases h1;done)
 |agg _ _=>cases h1
 |tup _ _=>cases h1
 |_=>rfl
def uk(B:Base)(L:Nat->Prop)(m:Mm)(w:World)(cs:List AV)(vs:Array Value):Prop:=
 cs.length<=vs.size/\∀(j:Nat)(p:AV)(v:Value),cs[j]?=some p->vs[j]?=some v->aA B L m w p v
theorem uk.set{cs:List AV}{vs:Array Value}(h:uk B L m w cs vs)(i:Nat){p:AV}{v:Value}(hp:aA B L m w p v):uk B L m w (cs.set i p) (vs.setIfInBounds i v):=by
 refine⟨by simpa using h.1,λj q u hq hu=>?_⟩;rw[CZ] at hq;rw[iH] at hu;by_cases g2:i=j
 .simp_all
 .simp only[g2,a9] at hq hu;exact h.2 j q u hq hu
theorem zk:∀(ps:List AV)(us:List Value)(off:Nat)(cs:List AV)(vs:Array Value),uk B L m w cs vs->ps.length=us.length->(∀(j:Nat)(p:AV)(v:Value),ps[j]?=some p->us[j]?=some v->aA B L m w p v)->uk B L m w (setAt cs off ps) (ew vs off us)
 |[],us,off,cs,vs,h,hl,_=>by
  cases us with
  |nil=>exact h
  |cons u us=>cases hl
 |p::ps,us,off,cs,vs,h,hl,hr=>by
  cases us with
  |nil=>cases hl
  |cons u us=>
   simp only[setAt,ew];exact zk ps us (off+1) _ _ (h.set off (hr 0 p u rfl rfl)) (by grind) (λj q v hq hv=>hr (j+1) q v (by grind) (by grind))
theorem tg(h:ak)(id:Nat)(x:List AV)(hn:h.Pairwise λp q=>p.1≠q.1):bP h id x=h.map λp=>if p.1=id then (p.1,x) else p:=by
 induction hn with
 |nil=>rfl
 |@cons y r hy _ ih=>
  obtain⟨k,v⟩:=y;simp only[bP,mV];split
  .rename_i hk;subst hk;congr 1;rw[IV (g:=λp=>p)]
   .simp
   grind
  .rw[ih]
end
def Mm.up(m:Mm)(id len:Nat)(bc:Option (Nat×Nat)):Mm:=
 { addr:=λi v=>if i=id/\v=len then bc else m.addr i v,top:=λi=>if i=id then len else m.top i,dom:=m.dom }
def iK(h:ak)(id:Nat)(x:List AV):ak:=h.map λp=>if p.1=id then (p.1,x) else p
section
variable{P:Program}{B:Base}{m:Mm}{w w':World}{H h:ak}{n:Nat}{env:Env}{a:Act}{L:Nat->Prop}
theorem Ed{id i:Nat}{x c:List AV}(hin:(i,c)∈iK h id x):(i≠id/\(i,c)∈h)\/(i=id/\c=x):=by
 unfold iK at hin
 grind
theorem P9{id len:Nat}{bc:Option (Nat×Nat)}(hle:m.top id<=len)(cu:len<=m.top id->bc=m.addr id len):m.le (m.up id len bc):=by
 refine⟨λi hi=>hi,λi hi=>?_,λi v hi hv=>?_⟩
 .simp only[Mm.up];grind
 .simp only[Mm.up];grind
theorem Ee(hs:bt B h m w){id:Nat}{cells cells':List AV}(hin:(id,cells)∈h)(hd:m.dom id)(hlen:cells.length<=cells'.length){b' C':Nat}(cu:cells'.length=cells.length->m.addr id cells.length=some (b',C'))(bm:w.heap.size<=b'\/∃C,m.addr id cells.length=some (b',C))(cp:∀k,k<w.heap.size->(∀C,m.addr id cells.length≠some (k,C))->w'.heap[k]?=w.heap[k]?)(az:(∃cs e,w'.heap[b']?=some (.cells cs e (0,0))/\cs.size=C'/\cells'.length<=C'/\B.n<=b'/\∀(j:Nat)(p:AV)(v:Value),cells'[j]?=some p->cs[j]?=some v->aA B (LB m h) m w p v)\/(C'=0/\∃es clk l,w'.heap[b']?=some (.map es clk)/\cells'=[fR l]/\B.n<=b'/\nE es l)):bt B (iK h id cells') (m.up id cells'.length (some (b',C'))) w'/\m.le (m.up id cells'.length (some (b',C')))/\(∀b,b<w.heap.size->¬LB m h b->¬LB (m.up id cells'.length (some (b',C'))) (iK h id cells') b)/\(∀b,b<w.heap.size->¬LB m h b->w'.heap[b]?=w.heap[b]?):=by
 have gn:m.top id=cells.length:=(hs.entry id cells hin hd).1
 have hle:m.le (m.up id cells'.length (some (b',C'))):=P9 (by rw[gn];exact hlen) (λhh=>by
  have:cells'.length=cells.length:=by omega
  rw[this];simp_all)
 have hL0:∀b,LB (m.up id cells'.length (some (b',C'))) (iK h id cells') b->(∃i c C,(i,c)∈h/\i≠id/\m.dom i/\m.addr i c.length=some (b,C))\/b=b':=by
  rintro b ⟨i,c,C,h1,h2,h3⟩
  rcases Ed h1 with ⟨hi,h4⟩|⟨rfl,rfl⟩
  .simp only[Mm.up,hi,false_and,a9] at h3;exact .inl ⟨i,c,C,h4,hi,h2,h3⟩
  .simp only[Mm.up,and_self,aX] at h3;simp_all
 have hL:∀b,b<w.heap.size->¬LB m h b->¬LB (m.up id cells'.length (some (b',C'))) (iK h id cells') b:=by
  intro b hb hn hl
  rcases hL0 b hl with ⟨i,c,C,h1,_,h2,h3⟩|rfl
  .exact hn ⟨i,c,C,h1,h2,h3⟩
  .rcases bm with h|⟨C,h⟩
   .omega
   .exact hn ⟨id,cells,C,hin,hd,h⟩
 have hW:∀b,b<w.heap.size->¬LB m h b->w'.heap[b]?=w.heap[b]?:=λb hb hn=>cp b hb (λC hC=>hn ⟨id,cells,C,hin,hd,hC⟩)
 have bi:∀p v,aA B (LB m h) m w p v->aA B (LB (m.up id cells'.length (some (b',C'))) (iK h id cells')) (m.up id cells'.length (some (b',C'))) w' p v:=λp v hp=>hp.mono hle hL hW
 refine⟨⟨λi c ir dz=>?_,?_⟩,hle,hL,hW⟩
 .rcases Ed ir with ⟨hi,h4⟩|⟨rfl,rfl⟩
  .obtain⟨ht,fw⟩:=hs.entry i c h4 dz;refine⟨by simp[Mm.up,hi,ht],?_⟩
   have gc:∀(x y:Nat×List AV),x∈h->y∈h->x.1≠y.1->∀b C C',m.dom x.1->m.dom y.1->m.addr x.1 x.2.length=some (b,C)->m.addr y.1 y.2.length≠some (b,C'):=by
    intro x y hx hy ao b C C' ef e8 dh d5;have:=hs.inj;rw[sN] at this;obtain⟨p,hp,rfl⟩:=lN hx;obtain⟨q,hq,rfl⟩:=lN hy
    grind
   rcases fw with ⟨h1,h2⟩|⟨b,C,cs,e,h1,h2,h3,h5,h6,h7⟩|⟨b,es,clk,h1,h2,h3,h5,h6⟩
   .exact .inl ⟨by simp[Mm.up,hi,h1],h2⟩
   .exact .inr (.inl ⟨b,C,cs,e,by simp[Mm.up,hi,h1],(cp b (dN hs ⟨i,c,C,h4,dz,h1⟩) (λC2 h8=>gc (i,c) (id,cells) h4 hin hi b C C2 dz hd h1 h8)).trans h2,h3,h5,h6,λj p v hp hv=>bi p v (h7 j p v hp hv)⟩)
   .exact .inr (.inr ⟨b,es,clk,by simp[Mm.up,hi,h1],h2,(cp b (dN hs ⟨i,c,0,h4,dz,h1⟩) (λC2 h8=>gc (i,c) (id,cells) h4 hin hi b 0 C2 dz hd h1 h8)).trans h3,h5,h6⟩)
  .refine⟨by simp[Mm.up],.inr ?_⟩
   rcases az with ⟨cs,e,h1,h2,h3,h5,h6⟩|⟨rfl,es,clk,l,h1,rfl,h3,h5⟩
   .exact .inl ⟨b',C',cs,e,by simp[Mm.up],h1,h2,h3,h5,λj p v hp hv=>bi p v (h6 j p v hp hv)⟩
   .exact .inr ⟨b',es,clk,by simp[Mm.up],rfl,h1,h3,Dx h5⟩
 .unfold iK;rw[List.pairwise_map];refine sJ ?_ hs.inj;intro x y hx hy ⟨ao,gq⟩
  have e9:∀p:Nat×List AV,(if p.1=id then (p.1,cells') else p).1=p.1:=by grind
  refine⟨by rw[e9,e9];exact ao,λb C D ef e8 dh d5=>?_⟩;rw[e9] at ef e8
  have clash:∀z:Nat×List AV,z∈h->z.1≠id->m.dom z.1->∀C,m.addr z.1 z.2.length=some (b',C)->(z.1≠id->∀b C C',m.dom z.1->m.dom id->m.addr z.1 z.2.length=some (b,C)->m.addr id cells.length≠some (b,C'))->False:=by
   intro z hz k7 d8 C hC gc
   rcases bm with h|⟨C2,h⟩
   .have:=dN hs ⟨z.1,z.2,C,hz,d8,hC⟩;omega
   simp_all
  by_cases h1:x.1=id
  .have h2:y.1≠id:=λe=>ao (h1.trans e.symm)
   have k5:x.2=cells:=hs.key (id:=id) (by rw[<-h1];exact hx) hin;simp only[h1,aX,Mm.up,and_self,bz,bX] at dh;obtain⟨rfl,rfl⟩:=dh;simp only[h2,a9,Mm.up,false_and] at d5;refine clash y hy h2 e8 D d5 (λ_ b C C' d8 dz hC i9=>?_);simp_all
  .simp only[h1,a9,Mm.up,false_and] at dh;by_cases h2:y.1=id
   .have k6:y.2=cells:=hs.key (id:=id) (by rw[<-h2];exact hy) hin;simp only[h2,aX,Mm.up,and_self,bz,bX] at d5;obtain⟨rfl,rfl⟩:=d5;refine clash x hx h1 ef C dh (λ_ b C C' d8 dz hC i9=>?_);simp_all
   .simp only[h2,a9,Mm.up,false_and] at d5;exact gq b C D ef e8 dh d5
theorem vA(hs:bt B h m w){id:Nat}{cells cells':List AV}(hin:(id,cells)∈h)(hd:m.dom id)(hlen:cells.length<=cells'.length){b' C':Nat}(cu:cells'.length=cells.length->m.addr id cells.length=some (b',C'))(bm:w.heap.size<=b'\/∃C,m.addr id cells.length=some (b',C))(cp:∀k,k<w.heap.size->(∀C,m.addr id cells.length≠some (k,C))->w'.heap[k]?=w.heap[k]?)(az:∃cs e,w'.heap[b']?=some (.cells cs e (0,0))/\cs.size=C'/\cells'.length<=C'/\B.n<=b'/\∀(j:Nat)(p:AV)(v:Value),cells'[j]?=some p->cs[j]?=some v->aA B (LB m h) m w p v):bt B (iK h id cells') (m.up id cells'.length (some (b',C'))) w'/\m.le (m.up id cells'.length (some (b',C')))/\(∀b,b<w.heap.size->¬LB m h b->¬LB (m.up id cells'.length (some (b',C'))) (iK h id cells') b)/\(∀b,b<w.heap.size->¬LB m h b->w'.heap[b]?=w.heap[b]?):=
 Ee hs hin hd hlen cu bm cp (.inl az)
theorem ti(hs:bt B h m w):h.Pairwise λp q=>p.1≠q.1:=hs.inj.imp λh=>h.1
end
section
variable{P:Program}{B:Base}{m:Mm}{w w':World}{H h:ak}{n:Nat}{env:Env}{a:Act}{L:Nat->Prop}
end
def nJ(P:Program)(env:Env)(h:ak)(n:Nat)(args:List Operand)(tys:List TypeId)(K:AV->ak->Nat->Prop):Prop:=
 match args,tys with
 |[s,x],[t,tx]=>
  match slE P t,slE P tx with
  |some (e,sz),some _=>
   match byE P e,dK P e,gP h sz (ev env x) with
   |some by_,some z,some (k2,news,c)=>
    match ev env s with
    |.msl id ver z' off k=>
     match bf h id with
     |some cells=>(c/\off=0/\cells.length=ver/\z'=sz/\z.length=sz/\0<sz/\k*sz<=ver/\k+k2<=1000000000/\by_<=100000/\dj news=true) /\
       K (.msl id (gR cells (k*sz) news).length sz 0 (k+k2)) (bP h id (gR cells (k*sz) news)) n
     |none=>False
    |.w own true (.sl k cells)=>
     bif own&&decide (k=0)&&cells.isEmpty then (c/\0<k2/\z.length=sz/\0<sz/\k2<=1000000000/\by_<=100000)/\K (.msl n news.length sz 0 k2) ((n,news)::h) (n+1)
     else match pvs news with
      |some q=>(c/\cells.length=k*sz/\z.length=sz/\0<sz/\k+k2<=1000000000/\by_<=100000)/\K (.w (fA q&&(own || cells.isEmpty)) false (.sl (k+k2) (cells++q))) h n
      |none=>False
    |_=>False
   |_,_,_=>False
  |_,_=>False
 |_,_=>False
def nK(P:Program)(env:Env)(h:ak)(n:Nat)(t:TypeId)(ad x:Operand)(K:AV->ak->Nat->Prop):Prop:=
 match tyL P t,ev env ad with
 |some (sz,_),.ptr id ver off=>
  match bf h id with
  |some cells=>(cells.length=ver/\(ev env x).ok=true/\(ev env x).cells.length=sz/\off+sz<=cells.length/\dj (ev env x).cells=true)/\K (.tup []) (bP h id (setAt cells off (ev env x).cells)) n
  |none=>False
 |_,_=>False
theorem Ef(c new:List AV)(p:Nat)(hp:p<=c.length)(j:Nat):(gR c p new)[j]?=if p<=j/\j<p+new.length then new[j-p]? else c[j]?:=by
 unfold gR;split
 .rename_i e;rw[IU];split
  .rename_i hj;rw[ar (by omega)]
  .rename_i hj;rw[e];split
   .rfl
   .rename_i h2;rw[IX (by omega),IX (by omega)]
 grind
theorem Kf(c new:List AV)(p:Nat)(hp:p<=c.length):(gR c p new).length=max c.length (p+new.length):=by
 unfold gR
 grind
theorem Eg:∀(us:List Value)(off:Nat)(cs:Array Value),off+us.length<=cs.size->∀j,(ew cs off us)[j]?=if off<=j/\j<off+us.length then us[j-off]? else cs[j]?
 |[],off,cs,_,j=>by
  simp only[ew,jM];rw[ar (by omega)]
 |v::r,off,cs,h,j=>by
  simp only[ew];rw[Eg r (off+1) _ (by simp at h ⊢;omega) j]
  grind
section
variable{P:Program}{B:Base}{m:Mm}{w w':World}{H h:ak}{n:Nat}{env:Env}{a:Act}{L:Nat->Prop}
def EPost(B:Base)(h:ak)(m:Mm)(w:World)(n:Nat)(h':ak)(n':Nat)(v:AV)(v':Value)(w':World)(m':Mm):Prop:=
 m.le m'/\(∀i,m'.dom i↔m.dom i\/(n<=i/\i<n'))/\Bel B.n w w'/\bt B h' m' w'/\(∀b,b<w.heap.size->¬LB m h b->¬LB m' h' b)/\(∀b,b<w.heap.size->¬LB m h b->w'.heap[b]?=w.heap[b]?)/\aA B (LB m' h') m' w' v v'
theorem lS{p:Nat->Prop}{n:Nat}:∀i,p i↔p i\/(n<=i/\i<n):=λi=>⟨.inl,λh=>h.elim id λh=>by omega⟩
theorem Eh(hs:bt B h m w){id:Nat}{cells:List AV}(hin:(id,cells)∈h):iK h id cells=h:=by
 unfold iK
 conv=>rhs;rw[<-List.map_id h]
 refine IV λp hp=>?_
 split
 .rename_i e;have:p.2=cells:=hs.key (id:=id) (by rw[<-e];exact hp) hin;rw[<-this];rfl
 .rfl
theorem zl{b:Nat}(hb:B.n<=b)(w:World)(cs:Array Value)(e:TypeId):Bel B.n w (ea w b cs e):=
 ⟨rfl,rfl,by rw[Ka];simp,λk hk=>vr w b cs e (by omega)⟩
theorem Ei(hB:B.n<=w.heap.size)(o:Obj):Bel B.n w (w.drew.alloc o):=
 ⟨rfl,rfl,by rw[yY];simp,λk hk=>iT w.drew o (show k<w.heap.size by omega)⟩
theorem zm{ps:List AV}{us:List Value}(ga:dj ps=true)(hl:us.length=ps.length)(hr:∀(j:Nat)(p:AV)(u:Value),ps[j]?=some p->us[j]?=some u->aA B L m w p u):∀v∈us,v.oneCell'=true:=by
 intro v hv;obtain⟨j,hj,rfl⟩:=lN hv
 have df:j<ps.length:=by omega
 exact Ke (Ec ga j ps[j] (da df)) (hr j ps[j] us[j] (da df) (da hj))
theorem Kg(hs:bt B h m w)(hB:B.n<=w.heap.size){t tx e sz:Nat}{ex:TypeId×Nat}{by_:Nat}{z:List AV}(ht:slE P t=some (e,sz))(b9:slE P tx=some ex)(ba:byE P e=some by_)(hz:dK P e=some z){x s:Value}{xa:AV}{k2:Nat}{news:List AV}{c:Prop}(af:gP h sz xa=some (k2,news,c))(hc:c)(hx:aA B (LB m h) m w xa x){id ver k:Nat}{cells:List AV}(dl:aA B (LB m h) m w (.msl id ver sz 0 k) s)(hg:bf h id=some cells)(c1:cells.length=ver)(c3:z.length=sz)(c4:0<sz)(c5:k*sz<=ver)(c6:k+k2<=1000000000)(c7:by_<=100000)(c8:dj news=true)(ty:TypeId):∃v' w' m',(Builtin.append_ #[t,tx] ty #[s,x]).run P w=.ok v' w'/\EPost B h m w n (bP h id (gR cells (k*sz) news)) n (.msl id (gR cells (k*sz) news).length sz 0 (k+k2)) v' w' m':=by
 have iq:bP h id (gR cells (k*sz) news)=iK h id (gR cells (k*sz) news):=tg h id _ (ti hs);rw[iq];obtain⟨b5,i,hi,bk⟩:=jq ht;obtain⟨bh,_⟩:=jq (e:=ex.1) (z:=ex.2) b9;obtain⟨iz,vz,dc,hzero,rfl⟩:=pY hz;rw[hi] at dc;cases dc
 have c9:i.bytes<=100000:=by
  have:i.bytes=by_:=by simpa[byE,hi] using ba
  omega
 obtain⟨ax,cx,us,rfl,bq,co,aa,cz⟩:=vq af hc hs (λid cs e=>fu e) hx;obtain⟨a0,cap,rfl,hk,hd,d3,h3,h4⟩:=dl.nH;have hin:=fu hg;subst c1;have i1:=Kf cells news (k*sz) c5
 have i6:vz.cells.size=sz:=by rw[<-c3];simp
 by_cases au:k+k2<=cap
 .cases ha:m.addr id cells.length with
  |none=>
   obtain⟨rfl,h5⟩:=h3 ha
   have g4:k2=0:=by omega
   have dg:k=0:=by omega
   subst g4;subst dg;have g7:news=[]:=gF (by simpa using co);have eb:us=[]:=gF (by simpa using bq);subst g7;subst eb;have fq:cells=[]:=gF h5
   have g3:gR cells (0*sz) []=cells:=by subst fq;simp[gR]
   rw[g3,Eh hs hin];refine⟨_,w,m,ze b5 bh hi bk ty a0 0 0 0 _ ax cx rfl [] (aa w rfl) (by omega) w (λad _=>rfl) (λ_=>rfl),Mm.le.refl m,lS,Bel.refl _ _,hs,λb _ h=>h,λb _ _=>rfl,?_⟩;trivial
  |some bc=>
   obtain⟨b,C⟩:=bc;obtain⟨h5,h6,h7⟩:=h4 b C ha;simp only[cY] at h6 h7;obtain⟨cs,e',hh,hC,hle,hbB,a6⟩:=hs.read hin hd ha (by omega);have cg:(k+k2)*sz<=cap*sz:=sG _ au;have ag:(k+k2)*sz=k*sz+k2*sz:=fe _ _ _
   have d6:∀ad,a0=some ad->(storeCells (ad.add (k*sz)) us).run P w=.ok () (ea w b (ew cs (k*sz) us) e'):=by
    intro ad e
    rcases jL cap with h0|h0
    .have f9:us=[]:=gF (by rw[bq];have:k2=0:=by omega
                           simp[this])
     subst f9;simp only[ew,storeCells];rw[te w b cs e' hh];rfl
    .rw[h5 h0] at e;cases e;rw[Addr.jc];have:=vw (P:=P) b (0+k*sz) e' us 0 w cs hh (by omega) (zm c8 (by omega) cz);simp_all
   have gh:a0=none->ea w b (ew cs (k*sz) us) e'=w:=by
    intro e
    rcases jL cap with h0|h0
    .have f9:us=[]:=gF (by rw[bq];have:k2=0:=by omega
                           simp[this])
     subst f9;exact te w b cs e' hh
    simp_all
   have a4:=ze b5 bh hi bk ty a0 k cap k2 _ ax cx rfl us (aa w rfl) au _ d6 gh;obtain⟨u1,u2,u3,u4⟩:=vA (w':=ea w b (ew cs (k*sz) us) e') hs hin hd (cells':=gR cells (k*sz) news) (by omega) (b':=b) (C':=C) (λ_=>ha) (.inr ⟨C,ha⟩)
    (λq hq ao=>vr w b _ _ (λe=>ao C (e▸ha)))
    ⟨ew cs (k*sz) us,e',vt w b _ _ (dN hs ⟨id,cells,C,hin,hd,ha⟩),by rw[vu,hC],by omega,hbB,λj p v hp hv=>by
      rw[Ef cells news (k*sz) c5] at hp;rw[Eg us (k*sz) cs (by omega)] at hv;rw[bq,<-co] at hv
      grind⟩
   refine⟨_,_,_,a4,u2,lS,zl hbB w _ _,u1,u3,u4,?_⟩;refine .msl hd (by simp[Mm.up]) au (λe=>?_) (λb' C' e=>?_)
   .simp[Mm.up] at e
   .simp only[Mm.up,and_self,aX,bz,bX] at e
    grind
 .have hold:∃os:List Value,os.length=k*sz/\(Builtin.firstCells sz k (.slice a0 k cap)).run P w.drew=.ok os.toArray w.drew/\∀(j:Nat)(p:AV)(v:Value),j<k*sz->cells[j]?=some p->os[j]?=some v->aA B (LB m h) m w p v:=by
   cases ha:m.addr id cells.length with
   |none=>
    obtain⟨rfl,h5⟩:=h3 ha
    have dg:k=0:=by omega
    subst dg;exact⟨[],by simp,m8 sz 0 a0 0 [] (by simp) (λ_=>by simp) (λ_ _ j u hj=>by simp at hj),λj p v hj=>by simp at hj⟩
   |some bc=>
    obtain⟨b,C⟩:=bc;obtain⟨h5,h6,h7⟩:=h4 b C ha;obtain⟨cs,e',hh,hC,hle,hbB,a6⟩:=hs.read hin hd ha (by omega);refine⟨(List.range (k*sz)).map (λj=>cs.getD j undef),by simp,m8 sz k a0 cap _ (by simp) (λe=>?_) (λad e j u hj=>?_),λj p v hj hp hv=>?_⟩
    .simp_all
    .obtain⟨y,hy,rfl⟩:=fP hj;obtain⟨al,rfl⟩:=dM.1 hy;simp only[pO] at al;simp only[sH]
     have ft:0<cap:=by
      grind
     rw[h5 ft] at e;cases e
     have df:j<cs.size:=by omega
     rw[Addr.jc,cY];show w.cell? _=_;rw[m7 hh];simp[df]
    .have df:j<cs.size:=by omega
     simp only[gD,sI hj,du,bz] at hv;exact a6 j p v hp (by rw[<-hv];simp[df])
  obtain⟨os,jh,b4,i3⟩:=hold;obtain⟨nc,rest,d9,cq,a4⟩:=zg b5 bh hi bk hzero ty a0 k cap k2 _ ax cx rfl us os (aa w.drew rfl) b4 au c6 c9;have cg:cap*sz<(k+k2)*sz:=Nat.mul_lt_mul_of_pos_right (by omega) c4;have ag:(k+k2)*sz=k*sz+k2*sz:=fe _ _ _
  have al:cells.length<k*sz+news.length:=by
   cases ha:m.addr id cells.length with
   |none=>simp_all
   |some bc=>grind
  have bj:(os.toArray++us.toArray++rest).size=nc*sz:=by
   have:(nc-(k+k2))*sz=nc*sz-(k+k2)*sz:=Nat.sub_mul _ _ _;have h9:(k+k2)*sz<=nc*sz:=sG _ d9;simp_all
  have g8:(k+k2)*sz<=nc*sz:=sG _ d9;obtain⟨u1,u2,u3,u4⟩:=vA (w':=w.drew.alloc (.cells (os.toArray++us.toArray++rest) e)) hs hin hd (cells':=gR cells (k*sz) news) (by omega) (b':=w.heap.size) (C':=nc*sz) (λe=>by omega) (.inl (aE _))
   (λq hq ao=>iT w.drew _ hq)
   ⟨_,e,vj w.drew _,bj,by omega,hB,λj p v hp hv=>by
     rw[Ef cells news (k*sz) c5] at hp;rw[uN,xZ] at hv
     grind⟩
  refine⟨_,_,_,a4,u2,lS,Ei hB _,u1,u3,u4,?_⟩;refine .msl hd (by simp[Mm.up]) d9 (λe=>?_) (λb' C' e=>?_)
  .simp[Mm.up] at e
  .simp only[Mm.up,and_self,aX,bz,bX] at e
   grind
end
end Go.Fi
namespace Go.Fi
open Go Go.RowKit
variable[av]
section
variable{P:Program}{B:Base}{m:Mm}{w w':World}{H h:ak}{n:Nat}{env:Env}{a:Act}{L:Nat->Prop}
section
omit [av]
theorem vB{c:List AV}(ae:¬m.dom n)(b:Nat):LB m ((n,c)::h) b↔LB m h b:=by
 constructor
 .rintro⟨id,cs,C,hin,hd,ha⟩
  rcases cD.1 hin with e|e
  .simp_all
  .exact⟨id,cs,C,e,hd,ha⟩
 .rintro⟨id,cs,C,hin,hd,ha⟩
  exact⟨id,cs,C,dm _ hin,hd,ha⟩
theorem zn(hs:bt B h m w){c:List AV}(ae:¬m.dom n)(ao:∀id cs,(id,cs)∈h->id≠n):bt B ((n,c)::h) m w:=by
 have hL:LB m ((n,c)::h)=LB m h:=funext λb=>propext (vB ae b)
 refine⟨λid cells hin hd=>?_,?_⟩
 .rw[hL]
  rcases cD.1 hin with e|e
  .simp_all
  .exact hs.entry id cells e hd
 .refine IY.2 ⟨λy hy=>⟨λe=>ao y.1 y.2 hy e.symm,λb C C' hd=>absurd hd ae⟩,hs.inj⟩
theorem Kh(hs:bt B h m w)(ae:¬m.dom n)(ao:∀id cs,(id,cs)∈h->id<n)(hB:B.n<=w.heap.size){t tx e sz:Nat}{ex:TypeId×Nat}{by_:Nat}{z:List AV}(ht:slE P t=some (e,sz))(b9:slE P tx=some ex)(ba:byE P e=some by_)(hz:dK P e=some z){x s:Value}{xa:AV}{k2:Nat}{news:List AV}{c:Prop}(af:gP h sz xa=some (k2,news,c))(hc:c)(hx:aA B (LB m h) m w xa x){own:Bool}(dl:aA B (LB m h) m w (.w own true (.sl 0 [])) s)(c1:0<k2)(c3:z.length=sz)(c6:k2<=1000000000)(c7:by_<=100000)(ty:TypeId):∃v' w' m',(Builtin.append_ #[t,tx] ty #[s,x]).run P w=.ok v' w'/\EPost B h m w n ((n,news)::h) (n+1) (.msl n news.length sz 0 k2) v' w' m':=by
 have ei:=zn (c:=news) hs ae (λid cs hin=>by have:=ao id cs hin;omega)
 have hL:LB m ((n,news)::h)=LB m h:=funext λb=>propext (vB ae b)
 obtain⟨b5,i,hi,bk⟩:=jq ht;obtain⟨bh,_⟩:=jq (e:=ex.1) (z:=ex.2) b9;obtain⟨iz,vz,dc,hzero,rfl⟩:=pY hz;rw[hi] at dc;cases dc
 have c9:i.bytes<=100000:=by
  have:i.bytes=by_:=by simpa[byE,hi] using ba
  omega
 obtain⟨ax,cx,us,rfl,bq,co,aa,cz⟩:=vq af hc hs (λid cs e=>fu e) hx;obtain⟨a0,cap,rfl,_,cf,_,_⟩:=dl.nG;have aq:=cf rfl;subst aq
 have i6:vz.cells.size=sz:=by rw[<-c3];simp
 obtain⟨nc,rest,d9,cq,a4⟩:=zg b5 bh hi bk hzero ty a0 0 0 k2 _ ax cx rfl us [] (aa w.drew rfl)
  (m8 sz 0 a0 0 [] (by simp) (λ_=>by simp) (λ_ _ j u hj=>by simp at hj)) (by omega) (by omega) c9
 simp only[cY] at d9 cq a4;have g8:k2*sz<=nc*sz:=sG _ d9
 have bj:(#[]++us.toArray++rest).size=nc*sz:=by
  have:(nc-k2)*sz=nc*sz-k2*sz:=Nat.sub_mul _ _ _;simp_all
 have g9:bt B ((n,news)::h) (m.new n news.length (some (w.heap.size,nc*sz))) (w.drew.alloc (.cells (#[]++us.toArray++rest) e)):=by
  rw[<-bj]
  exact DK (w:=w.drew) (ei.below (w':=w.drew) (Bel.refl _ _).drew) hB (id:=n) (cells:=news) (fO) ae (#[]++us.toArray++rest) e (by rw[bj];omega) (λj p v hp hv=>by
  have hj:=(dM.1 hp).1;rw[Array.empty_append,xZ,lO,aB (by omega),xX] at hv;rw[hL]
  exact (cz j p v hp hv).mono (Mm.le.refl m) (λ_ _ h=>h) (λ_ _ _=>rfl))
 refine⟨_,_,m.new n news.length (some (w.heap.size,nc*sz)),a4,Mm.uj ae,λi=>?_,Ei hB _,g9,λb hb hn hl=>?_,λb hb _=>iT w.drew _ hb,?_⟩
 .simp only[Mm.new]
  grind
 .rcases sY (w:=w) ei (fO) hl with h1|⟨C,h1⟩
  .rw[hL] at h1;exact hn h1
  simp_all
 .refine .msl (Or.inr rfl) (by simp[Mm.new]) d9 (λe=>?_) (λb' C' e=>?_)
  .simp[Mm.new] at e
  .simp only[Mm.new,and_self,aX,bz,bX] at e;simp_all
theorem Ki(hs:bt B h m w)(hB:B.n<=w.heap.size){t tx e sz:Nat}{ex:TypeId×Nat}{by_:Nat}{z:List AV}(ht:slE P t=some (e,sz))(b9:slE P tx=some ex)(ba:byE P e=some by_)(hz:dK P e=some z){x s:Value}{xa:AV}{k2:Nat}{news:List AV}{c:Prop}(af:gP h sz xa=some (k2,news,c))(hc:c)(hx:aA B (LB m h) m w xa x){q:List PV}(hq:pvs news=some q){own:Bool}{k:Nat}{cells:List PV}(dl:aA B (LB m h) m w (.w own true (.sl k cells)) s)(c1:cells.length=k*sz)(c3:z.length=sz)(c6:k+k2<=1000000000)(c7:by_<=100000)(ty:TypeId):∃v' w' m',(Builtin.append_ #[t,tx] ty #[s,x]).run P w=.ok v' w'/\EPost B h m w n h n (.w (fA q&&(own || cells.isEmpty)) false (.sl (k+k2) (cells++q))) v' w' m':=by
 obtain⟨v',w',a4,hb,ei,hv⟩:=DZ hs (λid cs e=>fu e) hB ht b9 ba hz af hc hx hq dl c1 c3 c6 c7 ty;exact⟨v',w',m,a4,Mm.le.refl m,lS,hb.mono hB,ei,λb _ h=>h,λb bm _=>hb.block b bm,hv⟩
end
end
end Go.Fi
namespace Go.Fi
open Go Go.RowKit
def shr(sz k:Nat):AV->AV
 |.msl id ver z off k2=>.msl id ver z off (min k2 k)
 |.w own _ (.sl k2 c)=>.w own false (.sl (min k2 k) (c.take (min k2 k*sz)))
 |x=>x
def o9(P:Program)(h:ak)(t:TypeId)(d x:AV):Option (Prop×AV×ak):=
 match slE P t,d with
 |some (_,sz),.msl id ver z' off k=>
  match bf h id,gP h sz (shr sz k x) with
  |some cells,some (kk,news,c)=>some ((c/\cells.length=ver/\z'=sz/\off+k*sz<=ver/\dj news=true),.w false false (.int .i64 kk),bP h id (setAt cells off news))
  |_,_=>none
 |_,_=>none
def rM(P:Program)(h:ak)(args:List AV)(tys:List TypeId):Option (Prop×AV×ak):=
 match args,tys with
 |[d,x],t::_=>o9 P h t d x
 |_,_=>none
def nL(P:Program)(env:Env)(h:ak)(n:Nat)(args:List Operand)(tys:List TypeId)(K:AV->ak->Nat->Prop):Prop:=
 match rM P h (args.map (ev env)) tys with
 |some (c,v,h')=>c/\K v h' n
 |none=>False
section
variable{P:Program}{B:Base}{m:Mm}{w w':World}{H h:ak}{n:Nat}{env:Env}{a:Act}{L:Nat->Prop}
theorem Kj{sz k:Nat}{x:AV}{v:Value}{y:Nat×List AV×Prop}(h0:gP h sz (shr sz k x)=some y)(hx:aA B L m w x v):∃a0 k2 cap,v=.slice a0 k2 cap/\y.1=min k2 k/\aA B L m w (shr sz k x) (.slice a0 (min k2 k) cap):=by
 cases x with
 |msl id ver z off k2=>
  obtain⟨a0,cap,rfl,h1,h2,h3,h4,h5⟩:=hx.nH;refine⟨a0,k2,cap,rfl,?_,.msl h2 h3 (by omega) h4 h5⟩;simp only[shr,gP] at h0
  grind
 |w own f p=>
  cases p with
  |sl k2 c=>
   obtain⟨a0,cap,rfl,h1,h2,h3,h4⟩:=hx.nG;refine⟨a0,k2,cap,rfl,?_,?_⟩
   .simp only[shr,gP] at h0
    grind
   .simp only[shr];refine .w ?_ nofun
    cases hc:c with
    |nil=>
     cases ha:a0 with
     |none=>
      obtain⟨rfl,rfl⟩:=h3 ha;simp only[List.take_nil,Nat.zero_min];exact .slnil
     |some a=>
      simp only[List.take_nil];exact .slz (by omega)
    |cons y ys=>
     obtain⟨b,off,vals,rfl,h5,h6,h7⟩:=h4 (by rw[hc];simp);rw[<-hc];refine .sl vals (by omega) (λj hj=>h5 j (by simp at hj;omega)) (λ_=>h6) (λj q hq=>?_);rw[jk] at hq;simp_all
  |_=>simp[shr,gP] at h0
 |_=>simp[shr,gP] at h0
theorem Kk(hs:bt B h m w){t:TypeId}{d x:AV}{dv xv:Value}{c:Prop}{v:AV}{h':ak}(hr:o9 P h t d x=some (c,v,h'))(hc:c)(hd:aA B (LB m h) m w d dv)(hx:aA B (LB m h) m w x xv)(tys:List TypeId)(ty:TypeId):∃v' w' m',(Builtin.copy_ (t::tys).toArray ty #[dv,xv]).run P w=.ok v' w'/\EPost B h m w n h' n v v' w' m':=by
 unfold o9 at hr;split at hr
 .rename_i e sz id ver z' off k ht;split at hr
  .rename_i cells kk news c' hg af;cases hr;obtain⟨c0,c1,c2,c3,c4⟩:=hc;subst c2;subst c1;obtain⟨b5,i,hi,bk⟩:=jq ht;obtain⟨ax,k2,cx,rfl,ag,jx⟩:=Kj af hx;simp only at ag;obtain⟨jz,k0,us,hv,bq,co,aa,cz⟩:=vq af c0 hs (λid cs e=>fu e) jx
   injection hv with jp k4 js
   subst jp js
   have ai:(Builtin.firstCells z' kk (.slice ax k2 cx)).run P w=.ok us.toArray w:=by
    have:=aa w rfl;rw[<-ag] at this;rw[<-this]
    cases ax<;>rfl
   obtain⟨a0,cap,rfl,hk,b7,d3,h3,h4⟩:=hd.nH;rw[tg h id _ (ti hs)];have hin:=fu hg;have cg:kk*z'<=k*z':=sG _ (by omega)
   cases ha:m.addr id cells.length with
   |none=>
    obtain⟨rfl,h5⟩:=h3 ha
    have dg:kk=0:=by omega
    have fq:cells=[]:=gF h5;subst fq;have eb:us=[]:=gF (by rw[bq,dg];simp);have g7:news=[]:=gF (by rw[co,dg];simp);subst eb g7;have cj:Nat.min k2 k=kk:=ag.symm;have dk:iK h id (setAt [] off [])=h:=Eh hs hin;refine⟨.int .i64 kk,w,m,?_,Mm.le.refl m,lS,Bel.refl _ _,?_,λb _ h=>?_,λb _ _=>rfl,.w (.int _ _) nofun⟩
    .cases a0 with
     |none=>simp[Builtin.copy_,run_underlying b5,sizeOf,typeInfo,hi,bk,Builtin.lenOf,cj,ai,goInt]
     |some ad=>simp[Builtin.copy_,run_underlying b5,sizeOf,typeInfo,hi,bk,Builtin.lenOf,cj,ai,goInt,storeCells]
    .have:=hs;rw[<-dk] at this;exact this
    .have h2:=h;rw[<-dk] at h2;exact h2
   |some bc=>
    obtain⟨b,C⟩:=bc;obtain⟨h5,h6,h7⟩:=h4 b C ha;obtain⟨cs,e',hh,hC,hle,hbB,a6⟩:=hs.read hin b7 ha (by omega);have hlen:(setAt cells off news).length=cells.length:=vl _ _ _;have d6:=vw (P:=P) b off e' us 0 w cs hh (by omega) (zm c4 (by omega) cz);simp only[mU] at d6;have cj:Nat.min k2 k=kk:=ag.symm
    have a4:(Builtin.copy_ (t::tys).toArray ty #[.slice a0 k cap,.slice ax k2 cx]).run P w=.ok (.int .i64 kk) (ea w b (ew cs off us) e'):=by
     cases a0 with
     |none=>
      have aq:cap=0:=by
       grind
      have eb:us=[]:=gF (by rw[bq,show kk=0 by omega];simp);subst eb;simp only[ew];rw[te w b cs e' hh];simp[Builtin.copy_,run_underlying b5,sizeOf,typeInfo,hi,bk,Builtin.lenOf,cj,ai,goInt]
     |some ad=>
      have gf:(storeCells ad us).run P w=.ok () (ea w b (ew cs off us) e'):=by
       rcases jL cap with h0|h0
       .have eb:us=[]:=gF (by rw[bq,show kk=0 by omega];simp);subst eb;simp only[ew,storeCells];rw[te w b cs e' hh];rfl
       grind
      simp[Builtin.copy_,run_underlying b5,sizeOf,typeInfo,hi,bk,Builtin.lenOf,cj,ai,goInt,gf]
    obtain⟨u1,u2,u3,u4⟩:=vA (w':=ea w b (ew cs off us) e') hs hin b7 (cells':=setAt cells off news) (by omega) (b':=b) (C':=C) (λ_=>ha) (.inr ⟨C,ha⟩)
     (λq hq ao=>vr w b _ _ (λe=>ao C (e▸ha)))
     ⟨ew cs off us,e',vt w b _ _ (dN hs ⟨id,cells,C,hin,b7,ha⟩),by rw[vu,hC],by omega,hbB,
       (zk news us off cells cs ⟨by omega,a6⟩ (by omega) cz).2⟩
    exact⟨_,_,_,a4,u2,lS,zl hbB w _ _,u1,u3,u4,.w (.int _ _) nofun⟩
  .cases hr
 .cases hr
end
end Go.Fi
namespace Go.Fi
open Go Go.RowKit
variable[av]
structure St where
 env:Env
 heap:ak
 nxt:Nat
 nt:Nat
def AV.lt(n:Nat):AV->Bool
 |.w _ _ _=>true
 |.ptr id _ _=>decide (id<n)
 |.msl id _ _ _ _=>decide (id<n)
 |.mp id=>decide (id<n)
 |.agg cs=>ltL n cs
 |.tup cs=>ltL n cs
 |.fn _ cs=>ltL n cs
where ltL (n:Nat):List AV->Bool
 |[]=>true
 |x::r=>x.lt n&&ltL n r
section
omit [av]
theorem oD{n:Nat}:∀{l:List AV},AV.lt.ltL n l=true->∀(j:Nat)(x:AV),l[j]?=some x->x.lt n=true
 |[],_,j,x,h=>by simp at h
 |y::l,hp,j,x,h=>by
  simp only[AV.lt.ltL,bU] at hp
  cases j with
  |zero=>simp_all
  |succ j=>exact oD hp.2 j x (by simpa using h)
theorem aA.BQ{B:Base}{L L':Nat->Prop}{m:Mm}{w:World}{x:AV}{v:Value}(h:aA B L m w x v){n:Nat}(hl:x.lt n=true)(hL:∀b,L' b->L b):aA B L' { m with dom:=λi=>i<n } w x v:=by
 induction h with
 |w hr hf=>exact .w (hr.imp λb hg=>⟨λhb=>hg.1 (hL b hb),hg.2⟩) hf
 |ptr hd ht ha hC=>exact .ptr (by simpa[AV.lt] using hl) ht ha hC
 |mp hd ht ha=>exact .mp (by simpa[AV.lt] using hl) ht ha
 |msl hd ht hn h0 h1=>exact .msl (by simpa[AV.lt] using hl) ht hn h0 h1
 |agg hlen _ ih=>exact .agg hlen (λj p v hp hv=>ih j p v hp hv (oD (by trivial) j p hp))
 |tup hlen _ ih=>exact .tup hlen (λj p v hp hv=>ih j p v hp hv (oD (by trivial) j p hp))
 |fn hlen _ ih=>exact .fn hlen (λj p v hp hv=>ih j p v hp hv (oD (by trivial) j p hp))
theorem AV.rO{n n':Nat}(hn:n<=n'):∀{x:AV},x.lt n=true->x.lt n'=true
 |.w _ _ _,_=>rfl
 |.ptr _ _ _,h=>by simp only[AV.lt,decide_eq_true_eq] at h ⊢;omega
 |.msl _ _ _ _ _,h=>by simp only[AV.lt,decide_eq_true_eq] at h ⊢;omega
 |.mp _,h=>by simp only[AV.lt,decide_eq_true_eq] at h ⊢;omega
 |.agg cs,h=>xr hn (cs:=cs) h
 |.tup cs,h=>xr hn (cs:=cs) h
 |.fn _ cs,h=>xr hn (cs:=cs) h
where xr {n n':Nat} (hn:n<=n'):∀{cs:List AV},AV.lt.ltL n cs=true->AV.lt.ltL n' cs=true
 |[],_=>rfl
 |x::r,h=>by
  simp only[AV.lt.ltL,bU] at h ⊢;exact⟨AV.rO hn h.1,xr hn h.2⟩
end
structure RI where
 l:Nat
 env:Env
 nt:Nat
 ps:Array Tmp
 assign:Code
 body:Code
structure Fk where
 k:Nat
 ri:Option RI
abbrev fk0:Fk:=⟨0,none⟩
def marks(ds:List Nat):List Deferred:=ds.map λD=>{ target:=.collected D,args:=#[] }
def bJ(ri:RI)(fn:FuncId)(T:Array Value)(D:Nat)(s:LoopState)(p:Option Code):Obj:=.loop { state:=s,pending:=p,fn:=fn,tmps:=T,params:=ri.ps,assign:=ri.assign,body:=ri.body,defers:=D }
def Qa(ri:RI)(F:List (AV×Value))(obs:List (Nat×Obj)):Prop:=
 ∃fn T D,(ri.l,bJ ri fn T D .ready none)∈obs/\T.size=ri.nt/\∀t v,(t,v)∈ri.env->(get ri.env t,T.getD t undef)∈F
def Hx(fk:Fk)(F:List (AV×Value))(obs:List (Nat×Obj)):Prop:=∀ri,fk.ri=some ri->Qa ri F obs
structure Ctx(fk:Fk) where
 w:World
 F:List (AV×Value)
 r:Option Nat
 obs:List (Nat×Obj)
 ds:List Nat
 bJ:Hx fk F obs
 ok:av.ok w
def pb(B:Base){fk:Fk}(w0:Ctx fk)(L:Nat->Prop)(m:Mm)(w:World)(n:Nat):Prop:=
 fk.k<=n/\(∀p∈w0.F,p.1.lt fk.k=true/\aA B L m w p.1 p.2)/\∀q∈w0.obs,B.n<=q.1/\q.1<w.heap.size/\¬L q.1/\w.heap[q.1]?=some q.2
theorem pb.mono{B:Base}{fk:Fk}{w0:Ctx fk}{L L':Nat->Prop}{m m':Mm}{w w':World}{n n':Nat}(h:pb B w0 L m w n)(hm:m.le m')(hL:∀b,b<w.heap.size->¬L b->¬L' b)(hw:∀b,b<w.heap.size->¬L b->w'.heap[b]?=w.heap[b]?)(hn:n<=n'):pb B w0 L' m' w' n':=
 ⟨bN h.1 hn,λp hp=>⟨(h.2.1 p hp).1,(h.2.1 p hp).2.mono hm hL hw⟩,λq hq=>by
   obtain⟨h1,h2,h3,h4⟩:=h.2.2 q hq;have h5:=(hw q.1 h2 h3).trans h4
   grind⟩
structure Sim{fk:Fk}(B:Base)(w0:Ctx fk)(st:St)(a:Act)(w:World)(m:Mm):Prop where
 base:B.n=w0.w.heap.size
 below:Bel B.n w0.w w
 defers:a.defers=marks w0.ds
 size:a.tmps.size=st.nt
 env:∀t,aA B (LB m st.heap) m w (get st.env t) (a.tmps.getD t undef)
 heap:bt B st.heap m w
 dom:∀i,m.dom i↔i<st.nxt
 ids:∀id c,(id,c)∈st.heap->id<st.nxt
 fr:pb B w0 (LB m st.heap) m w st.nxt
theorem Sim.ok{fk:Fk}{B:Base}{w0:Ctx fk}{st:St}{a:Act}{w:World}{m:Mm}(h:Sim B w0 st a w m):av.ok w:=
 av.keep w0.ok (by have:=h.below;rw[h.base] at this;exact this)
theorem Sim.room{fk:Fk}{B:Base}{w0:Ctx fk}{st:St}{a:Act}{w:World}{m:Mm}(h:Sim B w0 st a w m):B.n<=w.heap.size:=by
 have:=h.below.size;have:=h.base;omega
theorem Sim.bel{fk:Fk}{B:Base}{w0:Ctx fk}{st:St}{a:Act}{w w':World}{m:Mm}(h:Sim B w0 st a w m)(hb:Bel w.heap.size w w'):Sim B w0 st a w' m:=
 ⟨h.base,h.below.trans (hb.mono h.room),h.defers,h.size,λt=>(h.env t).mono (Mm.le.refl m) (λ_ _ x=>x) (λb hl _=>hb.block b hl),h.heap.below hb,h.dom,h.ids,
   h.fr.mono (Mm.le.refl m) (λ_ _ x=>x) (λb hl _=>hb.block b hl) (aE _)⟩
theorem Sim.move{fk:Fk}{B:Base}{w0:Ctx fk}{st:St}{a:Act}{w w':World}{m:Mm}(h:Sim B w0 st a w m)(e:EnvD.E w w'):Sim B w0 st a w' m:=h.bel (EnvD.ext e)
def dOk(nt:Nat):Option Nat->Prop
 |some d=>d<nt
 |none=>True
section
variable{P:Program}{B:Base}{m:Mm}{w w':World}{H h:ak}{n:Nat}{env:Env}{a:Act}{L:Nat->Prop}
section
omit [av]
theorem Km(hs:bt B h m w){t sz:Nat}{g:Bool}(ht:tyL P t=some (sz,g)){id ver off:Nat}{ad xv:Value}{x:AV}{cells:List AV}(fm:aA B (LB m h) m w (.ptr id ver off) ad)(hx:aA B (LB m h) m w x xv)(hg:bf h id=some cells)(c1:cells.length=ver)(c2:x.ok=true)(c3:x.cells.length=sz)(c4:off+sz<=cells.length)(c5:dj x.cells=true):∃w' m',(Instr.storeAt t ad xv).run P w=.ok () w'/\EPost B h m w n (bP h id (setAt cells off x.cells)) n (.tup []) undef w' m':=by
 rw[tg h id _ (ti hs)];obtain⟨b,C,rfl,hd,hvC,ha⟩:=fm.o7;rw[<-c1] at ha hvC;have hin:=fu hg;obtain⟨cs,e',hh,hC,hle,hbB,a6⟩:=hs.read hin hd ha hvC.2;obtain⟨h1,h2⟩:=vc hx c2;obtain⟨i,d,hi,bk,_,_⟩:=DH (w:=w) ht;have hlen:(setAt cells off x.cells).length=cells.length:=vl _ _ _
 have cz:∀(j:Nat)(p:AV)(u:Value),x.cells[j]?=some p->xv.cells.toList[j]?=some u->aA B (LB m h) m w p u:=λj p u hp hu=>h2 j p u hp (by rw[<-iQ];exact hu)
 have d6:=vw (P:=P) b off e' xv.cells.toList 0 w cs hh (by simp;omega) (zm c5 (by simp;omega) cz);simp only[mU] at d6
 have a4:(Instr.storeAt t (.pointer (some ⟨b,off,none⟩)) xv).run P w=.ok () (ea w b (ew cs off xv.cells.toList) e'):=by
  have gj:xv.cells.size=i.size:=by omega
  simp[Instr.storeAt,Instr.sureAddr,storeVar,sizeOf,typeInfo,hi,gj,d6]
 obtain⟨u1,u2,u3,u4⟩:=vA (w':=ea w b (ew cs off xv.cells.toList) e') hs hin hd (cells':=setAt cells off x.cells) (by omega) (b':=b) (C':=C) (λ_=>ha) (.inr ⟨C,ha⟩)
  (λq hq ao=>vr w b _ _ (λe=>ao C (e▸ha)))
  ⟨ew cs off xv.cells.toList,e',vt w b _ _ (dN hs ⟨id,cells,C,hin,hd,ha⟩),by rw[vu,hC],by omega,hbB,
    (zk x.cells xv.cells.toList off cells cs ⟨by omega,a6⟩ (by omega) cz).2⟩
 exact⟨_,_,a4,u2,lS,zl hbB w _ _,u1,u3,u4,.tup rfl (λj p v hp=>by simp at hp)⟩
theorem na(env:Env)(a:Act)(d:Option Nat)(v:AV)(v':Value)(hd:dOk a.tmps.size d)(hv:aA B L m w v v')(he:∀t,aA B L m w (get env t) (a.tmps.getD t undef)):∀t,aA B L m w (get (put env d v) t) ((a.put d v').tmps.getD t undef):=by
 intro t
 cases d with
 |none=>exact he t
 |some d=>
  simp only[put,get,Act.put];by_cases im:d=t
  .subst im;simp only[aX];rw[ck,iH];simp only[aX];rw[aB (show d<a.tmps.size from hd)];exact hv
  simp_all
theorem jP(a:Act)(d:Option Nat)(v:Value):(a.put d v).tmps.size=a.tmps.size:=by cases d<;>simp[Act.put]
theorem jQ(a:Act)(d:Option Nat)(v:Value):(a.put d v).defers=a.defers:=by cases d<;>rfl
theorem jR:∀(E:List (List AV))(h:ak)(n:Nat)(id:Nat)(c:List AV),(id,c)∈bu h n E↔(id,c)∈h\/∃k,E[k]?=some c/\id=n+k
 |[],h,n,id,c=>by simp[bu]
 |x::E,h,n,id,c=>by
  simp only[bu,cD,bX,jR E h (n+1) id c];constructor
  .rintro (⟨rfl,rfl⟩|h1|⟨k,h1,rfl⟩)
   .exact .inr ⟨0,rfl,rfl⟩
   .exact .inl h1
   .exact .inr ⟨k+1,by simpa using h1,by omega⟩
  grind
theorem vC:∀(E:List (List AV))(h:ak)(n:Nat),bt B h m w->(∀i,n<=i->¬m.dom i)->(∀id c,(id,c)∈h->id<n)->bt B (bu h n E) m w/\LB m (bu h n E)=LB m h
 |[],h,n,hs,_,_=>⟨hs,rfl⟩
 |x::E,h,n,hs,hd,hi=>by
  have ae:=hd n (aE _);obtain⟨h1,h2⟩:=vC E h (n+1) hs (λi hi=>hd i (by omega)) (λid c hin=>by have:=hi id c hin;omega)
  have:=zn (c:=x) h1 ae (λid c hin=>by
   rcases (jR E h (n+1) id c).1 hin with h3|⟨k,_,rfl⟩
   .have:=hi id c h3;omega
   .omega)
  refine⟨this,?_⟩;show LB m ((n,x)::bu h (n+1) E)=_;rw[show LB m ((n,x)::bu h (n+1) E)=LB m (bu h (n+1) E) from funext λb=>propext (vB ae b),h2]
end
def ll(s:ByteArray):List PV:=s.data.toList.map λb=>PV.int .u8 b.toNat
def rP(P:Program)(src dst:TypeId):Bool:=
 match P.underlying src,P.underlying dst with
 |some _,some (.slice e)=>match P.underlying e with
  |some (.int .u8)=>true
  |_=>false
 |_,_=>false
omit [av] in
theorem Kn(hs:bt B h m w)(hB:B.n<=w.heap.size){src dst:TypeId}(hb:rP P src dst=true)(s:ByteArray):∃v' w',(convert src dst (.string s)).run P w=.ok v' w'/\EPost B h m w n h n (.w true false (.sl s.size (ll s))) v' w' m:=by
 unfold rP at hb;split at hb
 .rename_i u e hu hd;split at hb
  .rename_i he
   refine⟨_,_,Lib.run_convert_string_bytes w src dst e s hu hd he,Mm.le.refl m,lS,⟨rfl,rfl,by rw[Lib.bytesWorld_size];simp,λk hk=>Lib.bytesWorld_at_old w e s k (by omega)⟩,
    hs.below ⟨rfl,rfl,by rw[Lib.bytesWorld_size];simp,λb hb=>Lib.bytesWorld_at_old w e s b hb⟩,λb _ h=>h,λb hb _=>Lib.bytesWorld_at_old w e s b hb,.w ?_ nofun⟩
   have hlen:(ll s).length=s.size:=by simp[ll]
   have aq:s.size<=grownCap w s.size 0 e:=grownCap_ge w _ _ e;refine .sl (b:=w.heap.size) (off:=0) (λj=>.int .u8 (s.data.toList.getD j 0).toNat) aq (λj hj=>?_) (λ_=>⟨λhl=>?_,λ_=>hB,λhl=>?_⟩) (λj p hp=>?_)
   .rw[cY];exact Lib.bytesWorld_cell w e s j (by omega)
   .have:=dN hs hl;omega
   .omega
   .unfold ll at hp;rw[gD] at hp;obtain⟨b,ej,rfl⟩:=sP.1 hp
    have:s.data.toList.getD j 0=b:=by rw[bS,ej];rfl
    rw[this];exact .int _ _
  .cases hb
 .cases hb
def qC(P:Program)(env:Env)(h:ak)(n:Nat)(src dst:TypeId)(x:Operand)(K:AV->ak->Nat->Prop):Prop:=
 match ev env x with
 |.w _ _ (.str s)=>rP P src dst=true/\K (.w true false (.sl s.size (ll s))) h n
 |_=>bG P env h n (.convert src dst x) λv E=>K v (bu h n E) (n+E.length)
def Qb(P:Program)(h:ak)(n:Nat)(t:TypeId)(K:AV->ak->Nat->Prop):Prop:=(jZ P t).isSome=true/\K (.mp n) ((n,[fR []])::h) (n+1)
def nM(P:Program)(env:Env)(h:ak)(n:Nat)(t:TypeId)(m k v:Operand)(K:AV->ak->Nat->Prop):Prop:=
 match ev env m with
 |.mp id=>match (bf h id).bind dZ,ev env k,ev env v,jZ P t with
  |some l,.w _ _ kp,.w _ _ vp,some (d,_)=>(okM d kp l=true/\isLit vp=true)/\K (.tup []) (bP h id [fR (iv l kp vp)]) n
  |_,_,_,_=>False
 |_=>False
def bH(P:Program)(env:Env)(h:ak)(n:Nat)(op:Op)(K:AV->ak->Nat->Prop):Prop:=
 match op with
 |.store t ad x=>nK P env h n t ad x K
 |.call { callee:=.builtin .append,args:=args,argTypes:=tys }=>nJ P env h n args.toList tys.toList K
 |.call { callee:=.builtin .copy,args:=args,argTypes:=tys }=>nL P env h n args.toList tys.toList K
 |.convert src dst x=>qC P env h n src dst x K
 |.makeMap t none=>Qb P h n t K
 |.mapUpdate t m k v=>nM P env h n t m k v K
 |op=>bG P env h n op λv E=>K v (bu h n E) (n+E.length)
section
omit [av]
theorem Ko{d:TypeDesc}{k v:PV}(hk:okK d k=true){es:Array MapEntry}{l:List (PV×PV)}(bp:nE es l)(hl:∀p∈l,okK d p.1=true):(∀i q,fM l k 0=some (i,q)->nE (es.modify i λe=>{ e with key:=db k,val:=db v }) (iv l k v))/\(fM l k 0=none->∀clk,nE (es.push { key:=db k,val:=db v,born:=clk }) (iv l k v)):=by
 have gen:∀(l:List (PV×PV))(s:Nat)(q:PV)(i:Nat),fM l k s=some (i,q)->s<=i/\i-s<l.length/\iv l k v=l.set (i-s) (k,v):=by
  intro l
  induction l with
  |nil=>intro s q i h;cases h
  |cons p r ih=>
   intro s q i h;unfold fM at h;unfold iv;split at h
   .simp_all
   .rename_i hp;rw[ar hp];obtain⟨h1,h2,h3⟩:=ih (s+1) q i h;refine⟨by omega,by grind,?_⟩;rw[h3,show i-s=(i-(s+1))+1 by omega];rfl
 have gen2:∀(l:List (PV×PV))(s:Nat),fM l k s=none->iv l k v=l++[(k,v)]:=by
  intro l
  induction l with
  |nil=>intro s _;rfl
  |cons p r ih=>
   intro s h;unfold fM at h;unfold iv
   grind
 refine⟨λi q h=>?_,λh clk=>?_⟩
 .obtain⟨_,h2,h3⟩:=gen l 0 q i h;rw[Nat.sub_zero] at h2 h3;rw[h3];refine⟨by simp[bp.1],λj p e hp he=>?_⟩;rw[CZ] at hp;rw[dT] at he;by_cases g2:i=j
  .grind
  .simp only[g2,a9] at hp he;exact bp.2 j p e hp he
 .rw[gen2 l 0 h];refine⟨by simp[bp.1],λj p e hp he=>?_⟩
  rcases dF j l.length with hj|hj
  .rw[om hj] at hp;rw[pR,ar (by have:=bp.1;omega)] at he;exact bp.2 j p e hp he
  .have iu:j=l.length:=by
    have:=(dM.1 hp).1;simp at this;omega
   subst iu;simp at hp;subst hp;rw[pR,aB bp.1] at he
   grind
theorem Ej:∀(l:List (PV×PV))(k:PV)(s i:Nat)(q:PV),fM l k s=some (i,q)->∃p,l[i-s]?=some p/\eqK k p.1=true
 |[],k,s,i,q,h=>by cases h
 |p::r,k,s,i,q,h=>by
  unfold fM at h;split at h
  .simp_all
  .obtain⟨p',h1,h2⟩:=Ej r k (s+1) i q h
   have hi:s+1<=i:=by
    have:∀(r:List (PV×PV))(s:Nat),fM r k s=some (i,q)->s<=i:=by
     intro r
     induction r with
     |nil=>intro s h;cases h
     |cons y r ih=>
      intro s h;unfold fM at h;split at h
      .injection h with h;injection h with h1 _;omega
      .have:=ih (s+1) h;omega
    exact this r (s+1) h
   grind
theorem Ks{a b:PV}(h:eqK a b=true):db a=db b:=by
 cases a<;>cases b<;>simp[eqK] at h
 .obtain⟨rfl,rfl⟩:=h;rfl
 grind
theorem Kt(hs:bt B h m w){t:TypeId}{id:Nat}{cells:List AV}{l:List (PV×PV)}{mv kv vv:Value}{ok fk ov fv:Bool}{kp vp:PV}{d:TypeDesc}{z:PV}(hm:aA B (LB m h) m w (.mp id) mv)(hk:aA B (LB m h) m w (.w ok fk kp) kv)(hv:aA B (LB m h) m w (.w ov fv vp) vv)(hg:bf h id=some cells)(hd:dZ cells=some l)(ht:jZ P t=some (d,z))(hc:okM d kp l=true)(ju:isLit vp=true):∃w' m',(Instr.mapUpdate t mv kv vv).run P w=.ok () w'/\EPost B h m w n (bP h id [fR (iv l kp vp)]) n (.tup []) undef w' m':=by
 rw[tg h id _ (ti hs)];have hin:=fu hg;obtain⟨b,es,clk,rfl,b7,d7,ha,hb,hB,bp⟩:=hs.Hw hin hm hd;obtain⟨kt,et,hu,gy,_⟩:=DV ht;unfold okM at hc;rw[bU,eh] at hc;obtain⟨el,ic⟩:=hc
 have hl:∀p∈l,okK d p.1=true:=λp hp=>by have:=ic p hp;rw[bU] at this;exact this.1
 have j4:kv=db kp:=by cases hk with|w hr _=>exact zc (DU el) hr
 have jv:vv=db vp:=by cases hv with|w hr _=>exact zc ju hr
 subst j4;subst jv;have hf:=za el l es.toList 0 (by rw[CU];exact bp.1) (λj p e hp he=>bp.2 j p e hp (by rw[<-iQ];exact he)) hl;obtain⟨q1,q2⟩:=Ko (v:=vp) el bp hl
 have a4:∀o,(match fM l kp 0 with
  |some x=>o=Obj.map (es.modify x.1 λe=>{ e with key:=db kp,val:=db vp }) clk
  |none=>o=Obj.map (es.push { key:=db kp,val:=db vp,born:=clk }) (clk+1))->(Instr.mapUpdate t (.map (some b)) (db kp) (db vp)).run P w=.ok () { w with heap:=w.heap.setIfInBounds b o }:=by
  intro o ho;unfold Instr.mapUpdate;simp only[Sem.run_bind,run_underlying hu,Result.andThen_ok,MapKept.run_getObj_map hb];rw[show (10000:Nat)=9999+1 from rfl,MapKept.run_checkKey gy (y9 el)];simp only[Result.andThen_ok];rw[MapKept.run_findKey gy hf];simp only[Result.andThen_ok]
  cases hq:fM l kp 0 with
  |none=>
   rw[hq] at ho;simp only[IP];rw[MapKept.run_setObj_map _ hb,ho]
  |some x=>
   rw[hq] at ho;obtain⟨i,q⟩:=x;simp only[du]
   have hold:((es[i]?).map (·.key)).getD (db kp)=db kp:=by
    obtain⟨p,hp,je⟩:=Ej l kp 0 i q hq;rw[Nat.sub_zero] at hp
    have i0:i<es.size:=by rw[<-bp.1];grind
    have:=(bp.2 i p _ hp (cJ i0)).1;rw[cJ i0];simp only[du,gk];rw[this];exact (Ks je).symm
   simp only[Sem.run_bind,hold,MapKept.run_keyThatStays (y9 el),Result.andThen_ok];rw[MapKept.run_setObj_map _ hb,ho]
 have i':b<w.heap.size:=dN hs ⟨id,cells,0,hin,b7,ha⟩
 have fin:∀dr bl,nE dr (iv l kp vp)->(Instr.mapUpdate t (.map (some b)) (db kp) (db vp)).run P w=.ok () { w with heap:=w.heap.setIfInBounds b (.map dr bl)} ->
  ∃w' m',(Instr.mapUpdate t (.map (some b)) (db kp) (db vp)).run P w=.ok () w'/\EPost B h m w n (iK h id [fR (iv l kp vp)]) n (.tup []) undef w' m':=by
  intro dr bl j9 hr;have hlen:cells.length=1:=yQ d7;obtain⟨u1,u2,u3,u4⟩:=Ee (w':={ w with heap:=w.heap.setIfInBounds b (.map dr bl)}) hs hin b7 (cells':=[fR (iv l kp vp)]) (by simp[hlen]) (b':=b) (C':=0) (λ_=>ha) (.inr ⟨0,ha⟩)
   (λq hq ao=>by
     have:q≠b:=λe=>ao 0 (by rw[e];exact ha)
     show (w.heap.setIfInBounds b (.map dr bl))[q]?=w.heap[q]?
     rw[iH,ar (λe=>this e.symm)])
   (.inr ⟨rfl,dr,bl,_,by show (w.heap.setIfInBounds b (.map dr bl))[b]?=_;rw[iH,aB rfl,aB i'],rfl,hB,j9⟩)
  refine⟨_,_,hr,u2,lS,⟨rfl,rfl,by simp,λk hk=>?_⟩,u1,u3,u4,.tup rfl (λj p v hp=>by simp at hp)⟩
  grind
 cases hq:fM l kp 0 with
 |none=>exact fin _ _ (q2 hq clk) (a4 _ (by rw[hq]))
 |some x=>exact fin _ _ (q1 x.1 x.2 hq) (a4 _ (by rw[hq]))
theorem Ku(hs:bt B h m w)(hB:B.n<=w.heap.size)(ae:¬m.dom n)(ao:∀id cs,(id,cs)∈h->id<n)(t:TypeId):∃v' w' m',(Instr.makeMap t none).run P w=.ok v' w'/\EPost B h m w n ((n,[fR []])::h) (n+1) (.mp n) v' w' m':=by
 have i4:bt B ((n,[fR []])::h) m w:=zn hs ae (λid cs hin=>Nat.ne_of_lt (ao id cs hin))
 have hL:LB m ((n,[fR []])::h)=LB m h:=funext λb=>propext (vB ae b)
 have hin:(n,[fR []])∈(n,[fR []])::h:=by simp
 have hn:=JQ i4 hB hin rfl ae;refine⟨.map (some w.heap.size),w.alloc (.map #[] 0),m.new n 1 (some (w.heap.size,0)),?_,Mm.uj ae,λi=>?_,(Bel.refl _ _).alloc hB _,hn,λb hb co hl=>?_,λb hb _=>iT w _ hb,?_⟩
 .rfl
 .show m.dom i\/i=n↔m.dom i\/n<=i/\i<n+1
  grind
 .rcases sY i4 hin hl with h1|⟨C,h1⟩
  .rw[hL] at h1;exact co h1
  simp_all
 .exact .mp (.inr rfl) (by simp[Mm.new]) (by simp[Mm.new])
end
theorem Ek(o:Oper){K:AV->ak->Nat->Prop}(hk:bH P env h n o.op K)(hO:av.ok w)(hs:bt B h m w)(hB:B.n<=w.heap.size)(ae:∀i,n<=i->¬m.dom i)(aw:∀id c,(id,c)∈h->id<n)(bb:∀x,x∈o.op.operands->aA B (LB m h) m w (ev env x) (a.eval x))(Q:Exit->Act->World->Prop)(K':Act->World->Prop)(hK:∀v v' h' n' w' m',K v h' n'->EPost B h m w n h' n' v v' w' m'->n<=n'->(∀id c,(id,c)∈h'->id<n')->K' (a.put o.dst v') w'):o.wpt P a w K' Q:=by
 have fin:∀(v:AV)(v':Value)(h':ak)(n':Nat)(w':World)(m':Mm),K v h' n'->EPost B h m w n h' n' v v' w' m'->n<=n'->(∀id c,(id,c)∈h'->id<n')->K' (a.put o.dst v') w':=
  λv v' h' n' w' m' ag he hn g1=>hK v v' h' n' w' m' ag he hn g1
 have hset_id:∀id x,∀i c,(i,c)∈bP h id x->i<n:=by
  intro id x i c hin;rw[tg h id x (ti hs)] at hin;obtain⟨p,hp,e⟩:=dW.1 hin;have:=aw p.1 p.2 hp;split at e
  .injection e with e1 _;rw[<-e1];exact this
  .have e1:p.1=i:=by rw[e]
   rw[<-e1];exact this
 have quietly:bG P env h n o.op (λv E=>K v (bu h n E) (n+E.length))->o.wpt P a w K' Q:=by
  intro hk;obtain⟨v,E,hq,ag⟩:=hk.qf;obtain⟨s1,s2⟩:=vC E h n hs ae aw;refine hq.sound o hO s1 hB (λid cs e=>(jR E h n id cs).2 (.inl (fu e))) (λk cs e=>(jR E h n _ cs).2 (.inr ⟨k,e,rfl⟩)) (λk hk=>ae _ (by omega)) (λx hx=>by rw[s2];exact bb x hx) K' Q ?_
  rintro v' w' m' ⟨p1,p2,p3,p4,p5,p6⟩
  refine fin v v' _ _ w' m' ag ⟨p1,λi=>?_,p3.mono hB,p4,λb hb hn hl=>?_,λb hb _=>p3.block b hb,p6⟩ (by omega) (λi c hin=>?_)
  .rw[p2]
  .rcases p5 b hl with h1|h1
   .rw[s2] at h1;exact hn h1
   .omega
  .rcases (jR E h n i c).1 hin with h1|⟨k,h1,rfl⟩
   .have:=aw i c h1;omega
   .have:=(dM.1 h1).1;omega
 unfold bH at hk;split at hk
 .rename_i t ad x ho;unfold nK at hk;split at hk
  .rename_i sz g id ver off ht fm;split at hk
   .rename_i cells hg;obtain⟨⟨c1,c2,c3,c4,c5⟩,ag⟩:=hk;obtain⟨w',m',a4,a8⟩:=Km hs ht (by rw[<-fm];exact bb ad (by rw[ho];simp[Op.operands])) (bb x (by rw[ho];simp[Op.operands])) hg c1 c2 c3 c4 c5;unfold Oper.wpt
    have:(execOp a.eval o).run P w=.ok .skip w':=by simp[execOp,ho,a4]
    rw[this,Oper.Hu];exact fin _ _ _ _ _ _ ag a8 (aE _) (hset_id _ _)
   .exact hk.elim
  .exact hk.elim
 .rename_i args tys ho;unfold nJ at hk;split at hk
  .rename_i s x t tx a7 cw
   have ha:args=#[s,x]:=by rw[<-oh (xs:=args),a7]
   have f8:tys=#[t,tx]:=by rw[<-oh (xs:=tys),cw]
   subst ha;subst f8
   have er:∀v' w',(Builtin.append_ #[t,tx] o.type #[a.eval s,a.eval x]).run P w=.ok v' w'->(execOp a.eval o).run P w=.ok (.value v') w':=by
    intro v' w' hr;simp[execOp,ho,resolve,invoke,builtin,hr]
   split at hk
   .rename_i e sz ex ht b9;split at hk
    .rename_i by_ z k2 news c ba hz af;split at hk
     .rename_i id ver z' off k es;split at hk
      .rename_i cells hg;obtain⟨⟨c0,coff,c1,c2,c3,c4,c5,c6,c7,c8⟩,ag⟩:=hk;subst coff;subst c2;obtain⟨v',w',m',a4,a8⟩:=Kg hs hB ht b9 ba hz af c0 (bb x (by rw[ho];simp[Op.operands,Call.operands])) (by rw[<-es];exact bb s (by rw[ho];simp[Op.operands,Call.operands])) hg c1 c3 c4 c5 c6 c7 c8 o.type;unfold Oper.wpt;rw[er _ _ a4,Oper.oW];exact fin _ _ _ _ _ _ ag a8 (aE _) (hset_id _ _)
      .exact hk.elim
     .rename_i own k cells es
      cases bg:(own&&decide (k=0)&&cells.isEmpty) with
      |true=>
       rw[bg] at hk;simp only[cond_true] at hk;obtain⟨⟨c0,c1,c3,_,c6,c7⟩,ag⟩:=hk;simp only[bU,decide_eq_true_eq] at bg;obtain⟨⟨h1,h2⟩,h3⟩:=bg
       have i8:cells=[]:=by simpa using h3
       subst h2;subst i8;obtain⟨v',w',m',a4,a8⟩:=Kh hs (ae n (aE _)) aw hB ht b9 ba hz af c0 (bb x (by rw[ho];simp[Op.operands,Call.operands])) (by rw[<-es];exact bb s (by rw[ho];simp[Op.operands,Call.operands])) c1 c3 c6 c7 o.type;unfold Oper.wpt;rw[er _ _ a4,Oper.oW];refine fin _ _ _ _ _ _ ag a8 (by omega) (λi c hin=>?_)
       rcases cD.1 hin with e|e
       .injection e with e1 _;omega
       .have:=aw i c e;omega
      |false=>
       rw[bg] at hk;simp only[cond_false] at hk;split at hk
       .rename_i q hq;obtain⟨⟨c0,c1,c3,_,c6,c7⟩,ag⟩:=hk;obtain⟨v',w',m',a4,a8⟩:=Ki hs hB ht b9 ba hz af c0 (bb x (by rw[ho];simp[Op.operands,Call.operands])) hq (by rw[<-es];exact bb s (by rw[ho];simp[Op.operands,Call.operands])) c1 c3 c6 c7 o.type;unfold Oper.wpt;rw[er _ _ a4,Oper.oW];exact fin _ _ _ _ _ _ ag a8 (aE _) aw
       .exact hk.elim
     .exact hk.elim
    .exact hk.elim
   .exact hk.elim
  .exact hk.elim
 .rename_i args tys ho;unfold nL rM at hk
  match a7:args.toList,cw:tys.toList with
  |[d,x],t::ts=>
   rw[a7,cw] at hk;simp only[mV,uM] at hk
   have ha:args=#[d,x]:=by rw[<-oh (xs:=args),a7]
   have f8:tys=(t::ts).toArray:=by rw[<-oh (xs:=tys),cw]
   cases hr:o9 P h t (ev env d) (ev env x) with
   |none=>rw[hr] at hk;exact hk.elim
   |some y=>
    obtain⟨c,v,h'⟩:=y;rw[hr] at hk;obtain⟨hc,ag⟩:=hk;obtain⟨v',w',m',a4,a8⟩:=Kk (n:=n) hs hr hc (bb d (by rw[ho,ha];simp[Op.operands,Call.operands])) (bb x (by rw[ho,ha];simp[Op.operands,Call.operands])) ts o.type;unfold Oper.wpt
    have er:(execOp a.eval o).run P w=.ok (.value v') w':=by
     rw[<-f8] at a4;subst ha;simp[execOp,ho,resolve,invoke,builtin,a4]
    rw[er,Oper.oW];refine fin _ _ _ _ _ _ ag a8 (aE _) (λi c' hin=>?_);unfold o9 at hr;split at hr
    .split at hr
     .cases hr;exact hset_id _ _ _ _ hin
     .cases hr
    .cases hr
  |[],_=>rw[a7] at hk;exact hk.elim
  |[_],_=>rw[a7] at hk;exact hk.elim
  |_::_::_::_,_=>rw[a7] at hk;exact hk.elim
  |[_,_],[]=>rw[a7,cw] at hk;exact hk.elim
 .rename_i src dst x ho
  have quiet:bG P env h n (.convert src dst x) (λv E=>K v (bu h n E) (n+E.length))->o.wpt P a w K' Q:=by
   intro hk;rw[<-ho] at hk;exact quietly hk
  unfold qC at hk;split at hk
  .rename_i o' f' s es;obtain⟨hb,ag⟩:=hk;have hx:=bb x (by rw[ho];simp[Op.operands]);rw[es] at hx;obtain⟨v',w',a4,a8⟩:=Kn hs hB hb s;unfold Oper.wpt
   have:(execOp a.eval o).run P w=.ok (.value v') w':=by simp[execOp,ho,hx.o6,a4]
   rw[this,Oper.oW];exact fin _ _ _ _ _ _ ag a8 (aE _) aw
  .exact quiet hk
 .rename_i t ho;obtain⟨_,ag⟩:=hk;obtain⟨v',w',m',a4,a8⟩:=Ku (P:=P) hs hB (ae n (aE _)) aw t;unfold Oper.wpt
  have:(execOp a.eval o).run P w=.ok (.value v') w':=by simp[execOp,ho,a4]
  rw[this,Oper.oW];refine fin _ _ _ _ _ _ ag a8 (by omega) (λi c hin=>?_)
  rcases cD.1 hin with e|e
  .injection e with e1 _;omega
  .have:=aw i c e;omega
 .rename_i t mo ko vo ho;unfold nM at hk;split at hk
  .rename_i id hm;split at hk
   .rename_i l ok fk kp ov fv vp d z hl j3 jt j';obtain⟨⟨c1,c2⟩,ag⟩:=hk
    obtain⟨cells,hg,hd⟩:∃cells,bf h id=some cells/\dZ cells=some l:=by
     cases hg:bf h id with
     |none=>rw[hg] at hl;cases hl
     |some cells=>rw[hg] at hl;exact⟨cells,rfl,hl⟩
    obtain⟨w',m',a4,a8⟩:=Kt (n:=n) hs (by rw[<-hm];exact bb mo (by rw[ho];simp[Op.operands])) (by rw[<-j3];exact bb ko (by rw[ho];simp[Op.operands])) (by rw[<-jt];exact bb vo (by rw[ho];simp[Op.operands])) hg hd j' c1 c2;unfold Oper.wpt
    have:(execOp a.eval o).run P w=.ok .skip w':=by simp[execOp,ho,a4]
    rw[this,Oper.Hu];exact fin _ _ _ _ _ _ ag a8 (aE _) (hset_id _ _)
   .exact hk.elim
  .exact hk.elim
 simp_all
theorem vD{o:Op}{K:AV->ak->Nat->Prop}(hk:bH P env h n o K):∀c,o≠.defer c:=by
 intro c e;subst e;trivial
theorem Hy{o:Op}{v:AV}{E:List (List AV)}(hk:QF P env h n o v E):∀c,o≠.defer c:=by
 intro c e;subst e
 rcases hk with ⟨c,h1,_⟩|⟨f,args,tys,g,aH,pvs,res,fr,h1,_⟩
 .trivial
 .cases h1
theorem vE{fk:Fk}(w0:Ctx fk)(o:Oper){nt:Nat}{K:AV->ak->Nat->Prop}(hk:bH P env h n o.op K)(hs:Sim B w0 ⟨env,h,n,nt⟩ a w m)(ii:dOk nt o.dst)(Q:Exit->Act->World->Prop)(K':Act->World->Prop)(hK:∀v h' n' a' w' m',K v h' n'->Sim B w0 ⟨put env o.dst v,h',n',nt⟩ a' w' m'->K' a' w'):o.wpt P a w K' Q:=by
 refine Ek o hk hs.ok hs.heap hs.room (λi hi hd=>by have:=(hs.dom i).1 hd;grind) hs.ids (λx _=>lQ x (λt _=>hs.env t)) Q K' ?_
 rintro v v' h' n' w' m' ag ⟨e1,e2,e3,e4,e5,e6,e7⟩ hn g1
 refine hK v h' n' _ w' m' ag ⟨hs.base,hs.below.trans e3,by rw[jQ];exact hs.defers,by rw[jP];exact hs.size,?_,e4,λi=>?_,g1,hs.fr.mono e1 e5 e6 hn⟩
 .exact na env a o.dst v v' (by rw[hs.size];exact ii) e7 (λt=>(hs.env t).mono e1 e5 e6)
 .rw[e2,hs.dom]
  grind
end
end Go.Fi
