/- Lemmas. -/
import Derived.Test.YthpkmilhiganjaaGreatPLa
import Derived.Lib.ConvBytes
import Derived.TacticsIn
import Derived.OrdersIn
import Derived.RangeFuncRecord
import Derived.RangeFuncCalls
set_option linter.all false
set_option maxHeartbeats 32000000
set_option maxRecDepth 100000
namespace Go.Fi
open Go Go.RowKit
variable[bE]
section
omit [bE]
variable{P:Program}{B:Base}{m:Mm}{w w':World}{H h:bz}{n:Nat}{env:Env}{a:Act}{L:Nat->Prop}
theorem vq{w w':World}{p:PV}(hf:flat p=true){G G':Nat->Prop}{v:Value}(h:Rep G w p v):Rep G' w' p v:=by
 cases h<;>first
  |exact .undef _
  |exact .jE _
  |exact .bool _
  |exact .int _ _
  |exact .str _
  |exact .gN
  |exact .lh
  |(cases hf;done)
theorem DX:∀{l:List PV},gA l=true->∀(j:Nat)(x:PV),l[j]?=some x->flat x=true
 |[],_,j,x,h=>by simp at h
 |y::l,hp,j,x,h=>by
  simp only[gA,fe] at hp
  cases j with
  |zero=>simp_all
  |succ j=>exact DX hp.2 j x av
theorem DY:∀{l:List AV}{q:List PV},pvs l=some q->l.length=q.length/\∀(j:Nat)(p:PV),q[j]?=some p->∃o f,l[j]?=some (.w o f p)
 |[],q,h=>by injection h with h;simp_all
 |x::l,q,h=>by
  cases x with
  |w o f p=>
   simp only[pvs] at h;split at h
   .rename_i q' hq;cases h;obtain⟨h1,h2⟩:=DY hq
    grind
   .cases h
  |_=>simp[pvs] at h
theorem nH(sz k:Nat)(a0:Option Addr)(cap:Nat)(us:List Value)(hl:us.length=k*sz)(h0:a0=none->k*sz=0)(hc:∀ad,a0=some ad->∀j u,us[j]?=some u->w.cell? (ad.add j)=some u):(Builtin.firstCells sz k (.slice a0 k cap)).run P w=.ok us.toArray w:=by
 cases a0 with
 |none=>
  have:us=[]:=iJ (by rw[hl,h0 rfl]);subst this;rfl
 |some ad=>
  have:=run_loadCells_list (P:=P) w ad us (hc ad rfl);rw[hl] at this;trivial
theorem vr{sz k:Nat}{x:AV}{v:Value}{news:List AV}{c:Prop}(h0:iu h sz x=some (k,news,c))(hc:c)(hs:cQ B H m w)(a5:∀id cs,bY h id=some cs->(id,cs)∈H)(hx:bG B (LB m H) m w x v):∃(ax:Option Addr)(cx:Nat)(us:List Value),v=.slice ax k cx/\us.length=k*sz/\news.length=k*sz/\(∀ef,ef.heap=w.heap->(Builtin.firstCells sz k v).run P ef=.ok us.toArray ef)/\∀(j:Nat)(p:AV)(u:Value),news[j]?=some p->us[j]?=some u->bG B (LB m H) m w p u:=by
 unfold iu at h0;split at h0
 .rename_i id ver z off k';split at h0
  .rename_i cells hg;simp only[cV,dz] at h0;obtain⟨rfl,rfl,rfl⟩:=h0;obtain⟨c1,c2,c3⟩:=hc;subst c2;obtain⟨ax,cx,rfl,hk,hd,_,h3,h4⟩:=hx.nX;rw[yJ]
   have hlen:((cells.drop off).take (k'*z)).length=k'*z:=ar
   rw[<-c1] at h3 h4
   cases ha:m.addr id cells.length with
   |none=>
    obtain⟨rfl,h5⟩:=h3 ha
    have dr:k'=0:=ab
    subst dr;exact⟨ax,0,[],rfl,ae,hlen,λef _=>nH z 0 ax 0 [] ae (λ_=>ae) (λ_ _ j u hj=>by simp at hj),λj p u hp hu=>by simp at hu⟩
   |some bc=>
    obtain⟨b,C⟩:=bc;obtain⟨h5,h6,h7⟩:=h4 b C ha;obtain⟨cs,e,hh,hC,hle,_,a6⟩:=hs.read (a5 id cells hg) hd ha ab
    have hin:∀j,j<k'*z->off+j<cs.size:=by intro j hj;omega
    refine⟨ax,cx,(List.range (k'*z)).map (λj=>cs.getD (off+j) undef),rfl,ae,hlen,λef hw=>?_,λj p u hp hu=>?_⟩
    .refine nH z k' ax cx _ ae (λe=>?_) (λad e j u hj=>?_)
     .rcases lR cx with h|h
      .have:k'=0:=ab
       simp[this]
      .rw[h5 h] at e;cases e
     .obtain⟨y,hy,rfl⟩:=gv hj;obtain⟨b6,rfl⟩:=fg.1 hy;simp only[sH] at b6;simp only[sI]
      have fq:0<cx:=by
       rcases lR cx with h|h
       .have:k'=0:=ab
        rw[this] at b6;simp at b6
       .exact h
      rw[h5 fq] at e;injection e with e;subst e
      rw[Addr.jH,nG (by rw[hw];exact hh)];simp[hin j b6]
    .obtain⟨y,hy,rfl⟩:=gv hu;obtain⟨b6,rfl⟩:=fg.1 hy;simp only[sH] at b6;simp only[sI];rw[lQ] at hp;rw[cu b6,xV] at hp;exact a6 _ p _ hp (by simp[hin j b6])
  .cases h0
 .rename_i own f k' cells;simp only[cV,dz] at h0;obtain⟨rfl,rfl,rfl⟩:=h0;obtain⟨ax,cx,rfl,hk,_,h1,h2⟩:=hx.nW
  cases da:cells with
  |nil=>
   have co:k'*sz=0:=by rw[<-hc,da];rfl
   exact⟨ax,cx,[],rfl,co.symm,by simp[co],λef _=>nH sz k' ax cx [] co.symm (λ_=>co) (λ_ _ j u hj=>by simp at hj),λj p u hp hu=>by simp at hu⟩
  |cons y ys=>
   obtain⟨b,off,vals,rfl,h3,h4,h5⟩:=h2 (by rw[da];simp);rw[<-da];refine⟨_,cx,(List.range cells.length).map vals,rfl,by simp[hc],by simp[hc],λef hw=>?_,λj p u hp hu=>?_⟩
   .refine nH sz k' _ cx _ (by simp[hc]) (λe=>by cases e) (λad e j u hj=>?_)
    injection e with e;subst e
    obtain⟨y',hy,rfl⟩:=gv hj;obtain⟨b6,rfl⟩:=fg.1 hy;simp only[sH] at b6;simp only[sI];rw[Addr.jH];have:=h3 j b6;simpa[World.cell?,hw] using this
   .obtain⟨q,hq,rfl⟩:=gv hp;obtain⟨y',hy,rfl⟩:=gv hu;obtain⟨b6,rfl⟩:=fg.1 hy;simp only[sI];exact .w (h5 j q hq) (λh=>au)
 .cases h0
theorem yZ{t tx e ex sz:Nat}{i:TypeInfo}(ht:P.underlying t=some (.slice e))(bj:P.underlying tx=some (.slice ex))(hi:P.info? e=some i)(hz:i.size=sz)(ty:TypeId)(a0:Option Addr)(k cap k2:Nat)(x:Value)(ax:Option Addr)(cx:Nat)(hx:x=.slice ax k2 cx)(us:List Value)(hn:(Builtin.firstCells sz k2 x).run P w=.ok us.toArray w)(b9:k+k2<=cap)(w2:World)(d':∀ad,a0=some ad->(storeCells (ad.add (k*sz)) us).run P w=.ok () w2)(ga:a0=none->w2=w):(Builtin.append_ #[t,tx] ty #[.slice a0 k cap,x]).run P w=.ok (.slice a0 (k+k2) cap) w2:=by
 subst hx
 cases a0 with
 |none=>
  have:=ga rfl;subst this;simp[Builtin.append_,run_underlying ht,run_underlying bj,sizeOf,typeInfo,hi,hz,Builtin.lenOf,b9,hn]
 |some ad=>
  have:=d' ad rfl;simp[Builtin.append_,run_underlying ht,run_underlying bj,sizeOf,typeInfo,hi,hz,Builtin.lenOf,b9,hn,this]
theorem y9{t tx e ex sz:Nat}{i:TypeInfo}{z:Value}(ht:P.underlying t=some (.slice e))(bj:P.underlying tx=some (.slice ex))(hi:P.info? e=some i)(hz:i.size=sz)(hzero:i.zero=some z)(ty:TypeId)(a0:Option Addr)(k cap k2:Nat)(x:Value)(ax:Option Addr)(cx:Nat)(hx:x=.slice ax k2 cx)(us os:List Value)(hn:(Builtin.firstCells sz k2 x).run P w.drew=.ok us.toArray w.drew)(ho:(Builtin.firstCells sz k (.slice a0 k cap)).run P w.drew=.ok os.toArray w.drew)(b9:¬k+k2<=cap)(h1:k+k2<=1000000000)(bl:i.bytes<=100000):∃nc rest,k+k2<=nc/\rest.size=(nc-(k+k2))*z.cells.size/\(Builtin.append_ #[t,tx] ty #[.slice a0 k cap,x]).run P w=.ok (.slice (some ⟨w.heap.size,0,none⟩) (k+k2) nc) (w.drew.alloc (.cells (os.toArray++us.toArray++rest) e)):=by
 subst hx
 have hb:=growslice_fits (need:=k+k2) (old:=cap) (bytes:=i.bytes) ab (by
  have:(k+k2)*i.bytes<=1000000000*100000:=Nat.mul_le_mul h1 bl
  omega)
 have fd:¬(9223372036854775807<((k:Int)+(k2:Int))):=ab
 have fb:¬(281474976710656<Builtin.nextslicecap (k+k2) cap*i.bytes):=ab
 refine⟨grownCap w (k+k2) cap e,Builtin.zeroCells z.cells (grownCap w (k+k2) cap e-(k+k2)),grownCap_ge w _ _ e,size_zeroCells _ _,?_⟩;simp[Builtin.append_,run_underlying ht,run_underlying bj,sizeOf,typeInfo,zeroValue,hi,hz,hzero,Builtin.lenOf,b9,fd,fb,Question.forced,hn,ho,newRow,grownCap]
 grind
theorem cQ.below(hs:cQ B H m w){w':World}(hb:Bel w.heap.size w w'):cQ B H m w':=by
 refine⟨λid cells hin hd=>?_,hs.inj⟩;obtain⟨ht,ft⟩:=hs.entry id cells hin hd;refine⟨ht,?_⟩
 rcases ft with h|⟨b,C,cs,e,h1,h2,h3,h4,h5,h6⟩|⟨b,es,clk,h1,h2,h3,h4,h5⟩
 .exact .inl h
 .exact .inr (.inl ⟨b,C,cs,e,h1,(hb.block b (fo hs ⟨id,cells,C,hin,hd,h1⟩)).trans h2,h3,h4,h5,λj p v hp hv=>(h6 j p v hp hv).mono (Mm.le.refl m) (λ_ _ h=>h) (λb bu _=>hb.block b bu)⟩)
 .exact .inr (.inr ⟨b,es,clk,h1,h2,(hb.block b (fo hs ⟨id,cells,0,hin,hd,h1⟩)).trans h3,h4,h5⟩)
theorem DZ(hs:cQ B H m w)(a5:∀id cs,bY h id=some cs->(id,cs)∈H)(hB:B.n<=w.heap.size){t tx e sz:Nat}{ex:TypeId×Nat}{by_:Nat}{z:List AV}(ht:slE P t=some (e,sz))(bj:slE P tx=some ex)(bl:byE P e=some by_)(hz:fu P e=some z){x s:Value}{xa:AV}{k2:Nat}{news:List AV}{c:Prop}(aq:iu h sz xa=some (k2,news,c))(hc:c)(hx:bG B (LB m H) m w xa x){q:List PV}(hq:pvs news=some q){own:Bool}{k:Nat}{cells:List PV}(du:bG B (LB m H) m w (.w own true (.sl k cells)) s)(c1:cells.length=k*sz)(c3:z.length=sz)(c6:k+k2<=1000000000)(c7:by_<=100000)(ty:TypeId):∃v' w',(Builtin.append_ #[t,tx] ty #[s,x]).run P w=.ok v' w'/\Bel w.heap.size w w'/\cQ B H m w'/\bG B (LB m H) m w' (.w (gA q&&(own || cells.isEmpty)) false (.sl (k+k2) (cells++q))) v':=by
 obtain⟨bf,i,hi,br⟩:=jT ht;obtain⟨bk,_⟩:=jT (e:=ex.1) (z:=ex.2) bj;obtain⟨iz,vz,dp,hzero,rfl⟩:=pT hz;rw[hi] at dp;cases dp
 have cg:i.bytes<=100000:=by
  have:i.bytes=by_:=by simpa[byE,hi] using bl
  omega
 obtain⟨ax,cx,us,rfl,c9,ct,ag,d6⟩:=vr aq hc hs a5 hx;obtain⟨a0,cap,rfl,hk,cm,i2,ea⟩:=du.nW;have b8:=cm rfl;subst b8;obtain⟨gf,j'⟩:=DY hq
 have i6:vz.cells.size=sz:=by rw[<-c3];simp
 have eo:∀(w2:World)(j:Nat)(p:PV)(u:Value),q[j]?=some p->us[j]?=some u->(∀b,b<w.heap.size->¬LB m H b->w2.heap[b]?=w.heap[b]?)->Rep (Good B (LB m H) (gA q&&(own || cells.isEmpty))) w2 p u:=by
  intro w2 j p u hp hu jz;obtain⟨o,f,hn⟩:=j' j p hp;have:=d6 j _ u hn hu
  cases this with
  |w hr _=>
   cases il:gA q with
   |true=>exact vq (DX il j p hp) hr
   |false=>exact hr.mono (λb _ hg=>⟨hg.1,(λh=>by simp at h),hg.2.2⟩) (λb hb hg=>jz b hb hg.1)
 by_cases g3:k2=0
 .subst g3;have f8:us=[]:=iJ ab;have jh:q=[]:=iJ (by rw[<-gf,ct];simp);subst f8;subst jh;refine⟨_,w,yZ bf bk hi br ty a0 k k 0 _ ax cx rfl [] (ag w rfl) ab w (λad _=>rfl) (λ_=>rfl),Bel.refl _ _,hs,?_⟩;simp only[Js,oH,gA,fY];refine .w ?_ nofun
  cases du with
  |w hr _=>
   cases eg:cells with
   |nil=>
    rw[eg] at hr
    cases hr with
    |slnil=>exact .slnil
    |sl vals h1 h2 h3 h4=>exact .slz h1
    |slz h1=>exact .slz h1
   |cons y ys=>
    rw[eg] at hr
    grind
 .obtain⟨os,j8,bb,i3⟩:∃os:List Value,os.length=k*sz/\(Builtin.firstCells sz k (.slice a0 k k)).run P w.drew=.ok os.toArray w.drew/\∀(j:Nat)(p:PV)(v:Value),cells[j]?=some p->os[j]?=some v->Rep (Good B (LB m H) own) w p v:=by
   cases eg:cells with
   |nil=>
    have co:k*sz=0:=by rw[<-c1,eg];rfl
    exact⟨[],co.symm,nH sz k a0 k [] co.symm (λ_=>co) (λ_ _ j u hj=>by simp at hj),λj p v hp=>by simp at hp⟩
   |cons y ys=>
    obtain⟨b,off,vals,rfl,h3,h4,h5⟩:=ea (by rw[eg];simp);rw[<-eg];refine⟨(List.range cells.length).map vals,by simp[c1],nH sz k _ k _ (by simp[c1]) nofun (λad e j u hj=>?_),λj p v hp hv=>?_⟩
    .cases e;obtain⟨y',hy,rfl⟩:=gv hj;obtain⟨b6,rfl⟩:=fg.1 hy;simp only[sH] at b6;simp only[sI];rw[Addr.jH];exact h3 j b6
    grind
  obtain⟨nc,rest,dg,d3,a4⟩:=y9 bf bk hi br hzero ty a0 k k k2 _ ax cx rfl us os (ag w.drew rfl) bb ab c6 cg;have aw:(k+k2)*sz=k*sz+k2*sz:=eU _ _ _;refine⟨_,_,a4,⟨rfl,rfl,by rw[yT];simp,λb hb=>jy w.drew _ hb⟩,hs.below ⟨rfl,rfl,by rw[yT];simp,λb hb=>jy w.drew _ hb⟩,.w ?_ nofun⟩;have ba:=vk w.drew (.cells (os.toArray++us.toArray++rest) e)
  have a6:∀j,j<os.length+us.length->(w.drew.alloc (.cells (os.toArray++us.toArray++rest) e)).cell? ⟨w.heap.size,0+j,none⟩=some ((os++us).getD j undef):=by
   intro j hj;rw[dJ,nG (b:=w.heap.size) ba];rw[xY,cu (by simpa using hj)];simp_all
  refine .sl (b:=w.heap.size) (off:=0) (λj=>(os++us).getD j undef) dg (λj hj=>a6 j ?_) (λ_=>⟨λhl=>?_,λ_=>hB,λhl=>?_⟩) (λj p hp=>?_)
  .have jc:q.length=us.length:=by rw[<-gf,ct,c9]
   have:j<cells.length+q.length:=ak
   omega
  .have:=fo hs hl;omega
  .omega
  .rw[List.getElem?_append] at hp;split at hp
   .rename_i hj
    have dq:j<os.length:=ab
    have hv:(os++us).getD j undef=os[j]:=ak
    rw[hv];have hr:=i3 j p _ hp (dO dq);refine hr.mono (λb _ hg=>⟨hg.1,λhf=>?_,hg.2.2⟩) (λb hb hg=>jy w.drew _ hb)
    cases own with
    |true=>exact hg.2.1 rfl
    |false=>
     have b7:cells≠[]:=by rintro rfl;simp at hj
     have:cells.isEmpty=false:=by cases cells<;>simp_all
     simp_all
   .rename_i hj;have k6:j-cells.length<q.length:=(fg.1 hp).1
    have iw:j-os.length<us.length:=by
     have jc:q.length=us.length:=by rw[<-gf,ct,c9]
     omega
    have hv:(os++us).getD j undef=us[j-os.length]:=ak
    rw[hv]
    have e1:j-cells.length=j-os.length:=ab
    rw[e1] at hp;exact eo _ (j-os.length) p _ hp (dO iw) (λb hb _=>jy w.drew _ hb)
theorem KB(args:Array Operand)(tys:Array TypeId)(o:Oper)(ho:o.op=.call { callee:=.builtin .append,args:=args,argTypes:=tys }){c:Prop}{v:AV}{E:List (List AV)}(h0:aOp P h n (ev env) (.call { callee:=.builtin .append,args:=args,argTypes:=tys })=some (c,v,E))(hc:c)(hs:cQ B H m w)(hB:B.n<=w.heap.size)(a5:∀id cs,bY h id=some cs->(id,cs)∈H)(a9:∀x∈args.toList,bG B (LB m H) m w (ev env x) (a.eval x)):QOk P B H m w n E.length (execOp a.eval o) v:=by
 simp only[aOp] at h0
 match hA:args.toList,hT:tys.toList with
 |[s,x],[t,tx]=>
  rw[hA,hT] at h0;simp only[jr,xZ,BK,BJ] at h0;split at h0
  .rename_i e sz _ ht bj;split at h0
   .rename_i by_ z k2 news c0 bl hz aq;split at h0
    .rename_i own k cells es;split at h0
     .rename_i q hq;cases h0;obtain⟨i7,c1,c3,_,c6,c7⟩:=hc;have h1:=a9 s (by rw[hA];simp);have h2:=a9 x (by rw[hA];simp);rw[es] at h1;obtain⟨v',w',a4,hb,ek,hv⟩:=DZ hs a5 hB ht bj bl hz aq i7 h2 hq h1 c1 c3 c6 c7 o.type;refine⟨v',w',m,?_,Mm.le.refl m,λi=>⟨.inl,λh=>h.elim id λh=>ak⟩,hb,ek,λb hb=>.inl hb,hv⟩
      have ha:args=#[s,x]:=by rw[<-oI (xs:=args),hA]
      have f7:tys=#[t,tx]:=by rw[<-oI (xs:=tys),hT]
      subst ha f7;simp[execOp,ho,resolve,invoke,builtin,a4]
     .cases h0
    .cases h0
   .cases h0
  .cases h0
 |[],_=>rw[hA] at h0;trivial
 |[_],_=>rw[hA] at h0;trivial
 |_::_::_::_,_=>rw[hA] at h0;trivial
 |[_,_],[]=>rw[hA,hT] at h0;trivial
 |[_,_],[_]=>rw[hA,hT] at h0;trivial
 |[_,_],_::_::_::_=>rw[hA,hT] at h0;trivial
end
section
variable{P:Program}{B:Base}{m:Mm}{w:World}{H h:bz}{n:Nat}{env:Env}{a:Act}{L:Nat->Prop}
omit [bE] in
theorem fT{r:Sem Next}{v:AV}{E:List (List AV)}(hs:cQ B H m w)(hv:E=[]/\fO P B H m w r v):QOk P B H m w n E.length r v:=by
 obtain⟨rfl,hv⟩:=hv;exact hv.q hs
omit [bE] in
theorem KC(o:Oper){c:Prop}{v:AV}{E:List (List AV)}(h0:aOp P h n (ev env) o.op=some (c,v,E))(hc:c)(hs:cQ B H m w)(hB:B.n<=w.heap.size)(a5:∀id cs,bY h id=some cs->(id,cs)∈H)(hE:∀k cs,E[k]?=some cs->(n+k,cs)∈H)(ao:∀k,k<E.length->¬m.dom (n+k))(hx:∀x,x∈o.op.operands->bG B (LB m H) m w (ev env x) (a.eval x)):QOk P B H m w n E.length (execOp a.eval o) v:=by
 cases ho:o.op with
 |move x=>
  rw[ho] at h0 hx;simp only[aOp,cV,dz] at h0;obtain⟨rfl,rfl,rfl⟩:=h0;exact fT hs ⟨rfl,_,by simp[execOp,ho],hx x aA⟩
 |assign x=>
  rw[ho] at h0 hx;simp only[aOp,cV,dz] at h0;obtain⟨rfl,rfl,rfl⟩:=h0;exact fT hs ⟨rfl,_,by simp[execOp,ho],hx x aA⟩
 |pick x y z=>rw[ho] at h0 hx;exact fT hs (J2 x y z o ho h0 (hx x aA) (hx y aA) (hx z aA))
 |alloc t=>rw[ho] at h0;exact Kt t o ho h0 hs hB hE ao
 |box t x=>rw[ho] at h0 hx;exact Ku t x o ho h0 hc hs hB hE ao (hx x aA)
 |build t ps=>rw[ho] at h0 hx;exact fT hs (Ks t ps o ho h0 (λx hm=>hx x (by simpa[Op.operands] using hm)))
 |buildSlice t l ps=>rw[ho] at h0 hx;exact Kw t l ps o ho h0 hc hs hB hE ao (λx hm=>hx x (by simpa[Op.operands] using hm))
 |load t x=>rw[ho] at h0 hx;exact fT hs (DI t x o ho h0 hc hs a5 (hx x aA))
 |nilCheck x=>rw[ho] at h0 hx;exact fT hs (Kg x o ho h0 (hx x aA))
 |binOp op t x y yt=>
  rw[ho] at h0 hx;have h1:=hx x aA;have h2:=hx y aA;simp only[aOp] at h0;split at h0
  .rename_i k hk;split at h0
   .rename_i r hr;split at h0
    .cases h0;exact fT hs ⟨rfl,DG .eql (.inl rfl) t x y yt hk hr h1 h2 hc.1 hc.2 o ho⟩
    .cases h0;exact fT hs ⟨rfl,DG .neq (.inr rfl) t x y yt hk hr h1 h2 hc.1 hc.2 o ho⟩
    .cases h0
   .cases h0
  .split at h0
   .rename_i ox fx p oy fy q ex ey;split at h0
    .rename_i c' v' hb;cases h0;exact fT hs ⟨rfl,JZ op t x y yt ex ey hb hc h1 h2 o ho⟩
    .cases h0
   .cases h0
 |unOp op t x=>rw[ho] at h0 hx;exact fT hs (QZ op t x o ho h0 hc (hx x aA))
 |convert s d x=>rw[ho] at h0 hx;exact fT hs (J1 s d x o ho h0 hc (hx x aA))
 |makeInterface t x=>rw[ho] at h0 hx;exact fT hs (J0 t x o ho h0 (hx x aA))
 |makeFunc f fs cs=>rw[ho] at h0 hx;exact fT hs (Kh f fs cs o ho h0 (λx hm=>hx x (by simp[Op.operands,qU.1 hm])))
 |makeSlice t x y=>rw[ho] at h0 hx;exact Kx t x y o ho h0 hc hs hB hE ao (hx x aA) (hx y aA)
 |slice t x lo hi mx=>
  rw[ho] at h0 hx;exact fT hs (Kk t x lo hi mx o ho h0 hc (hx x aA) (λy e=>hx y (by simp[Op.operands,e])) (λy e=>hx y (by simp[Op.operands,e])) (λy e=>hx y (by simp[Op.operands,e])))
 |fieldAddr s x f=>rw[ho] at h0 hx;exact fT hs (J3 s x f o ho h0 (hx x aA))
 |field s x f=>rw[ho] at h0 hx;exact fT hs (J7 s x f o ho h0 hc (hx x aA))
 |indexAddr t x i=>rw[ho] at h0 hx;exact fT hs (J9 t x i o ho h0 hc (hx x aA) (hx i aA))
 |index t x i=>rw[ho] at h0 hx;exact fT hs (Ka t x i o ho h0 hc (hx x aA) (hx i aA))
 |lookup t x k c0=>rw[ho] at h0 hx;exact fT hs (KA t x k c0 o ho h0 hc hs a5 (hx x aA) (hx k aA))
 |extract x i=>rw[ho] at h0 hx;exact fT hs (Kb x i o ho h0 (hx x aA))
 |call cl=>
  rw[ho] at h0 hx;obtain⟨callee,args,tys⟩:=cl
  cases callee with
  |builtin b=>
   have a9:∀x∈args.toList,bG B (LB m H) m w (ev env x) (a.eval x):=λx hm=>hx x (by simp[Op.operands,Call.operands,qU.1 hm])
   cases b with
   |len=>exact fT hs (Kc args tys o ho h0 a9)
   |max=>exact fT hs (Ke args tys o ho h0 a9)
   |min=>exact fT hs (Kf args tys o ho h0 a9)
   |append=>exact KB args tys o ho h0 hc hs hB a5 a9
   |_=>simp[aOp] at h0
  |_=>simp[aOp] at h0
 |_=>rw[ho] at h0;simp[aOp] at h0
end
def BM(P:Program)(f:FuncId):Prop:=∃fn,P.funcs[f]?=some fn/\(fn.name == "runtime.NumGoroutine")=false/\fn.body.isNone=false
def bX(P:Program)(f:FuncId)(args:List PV)(res:PV)(fr:Bool):Prop:=
 BM P f/\∀(G:Nat->Prop)(w:World)(vs:Array Value),bE.ok w->args.length=vs.size->(∀(j:Nat)(p:PV)(v:Value),args[j]?=some p->vs[j]?=some v->Rep G w p v) ->
  j1 P f vs w λe w'=>∃v,e=.returned v/\Bel w.heap.size w w'/\Rep (λb=>(b<w.heap.size->G b)/\(fr=true->w.heap.size<=b)) w' res v
def isW:AV->Bool
 |.w _ _ _=>true
 |_=>false
def rM:List AV->Bool
 |[]=>true
 |x::r=>isW x&&rM r
def xo:AV->Bool
 |.w _ _ _=>true
 |.agg cs=>rM cs
 |.fn _ cs=>rM cs
 |_=>false
def na:List AV->Bool
 |[]=>true
 |x::r=>xo x&&na r
section
variable{P:Program}{B:Base}{m:Mm}{w:World}{H h:bz}{n:Nat}{env:Env}{a:Act}{L:Nat->Prop}
omit [bE] in
theorem jU{α β:Type}{f:α->Option β}:∀{l:List α}{r:List β},l.mapM f=some r->l.length=r.length/\∀(j:Nat)(y:β),r[j]?=some y->∃x,l[j]?=some x/\f x=some y
 |[],r,h=>by simp_all
 |x::l,r,h=>by
  simp only[sK] at h
  cases hx:f x with
  |none=>grind
  |some y=>
   simp only[hx,Option.bind_eq_bind,jk] at h
   cases hr:l.mapM f with
   |none=>grind
   |some r'=>
    simp only[hr,jk] at h;cases h;obtain⟨h1,h2⟩:=jU hr
    grind
def eh(h:bz):Nat->AV->Bool
 |_,.w own _ p=>own || flat p
 |0,_=>false
 |d+1,.ptr id _ _=>match bY h id with
  |some cells=>cells.all (eh h d)
  |none=>false
 |d+1,.msl id _ _ _ _=>match bY h id with
  |some cells=>cells.all (eh h d)
  |none=>false
 |d+1,.agg cs=>cs.all (eh h d)
 |d+1,.tup cs=>cs.all (eh h d)
 |d+1,.fn _ c=>c.all (eh h d)
 |_+1,.mp _=>false
omit [bE] in
theorem nI(hs:cQ B H m w)(a5:∀id cs,bY h id=some cs->(id,cs)∈H){G':Nat->Prop}(fr:Bool)(hG1:∀b,B.n<=b->G' b)(hG2:fr=false->∀b,Good B (LB m H) false b->G' b):∀(d:Nat)(x:AV)(p:PV)(v:Value),frz h d x=some p->(fr=true->eh h d x=true)->bG B (LB m H) m w x v->Rep G' w p v
 |d,.w o f q,p,v,hf,b5,hr=>by
  have:q=p:=by cases d<;>(simp[frz] at hf;exact hf)
  subst this
  cases hr with
  |w hr _=>
   cases ej:fr with
   |false=>exact hr.imp λb hg=>hG2 ej b ⟨hg.1,nofun,hg.2.2⟩
   |true=>
    have h1:=b5 ej
    have h2:(o || flat q)=true:=by cases d<;>exact h1
    cases o with
    |true=>exact hr.imp λb hg=>hG1 b (hg.2.1 rfl)
    |false=>exact vq ak hr
 |0,.ptr ..,_,_,hf,_,_=>by trivial
 |0,.msl ..,_,_,hf,_,_=>by trivial
 |0,.agg _,_,_,hf,_,_=>by trivial
 |0,.tup _,_,_,hf,_,_=>by trivial
 |0,.fn _ _,_,_,hf,_,_=>by trivial
 |0,.mp _,_,_,hf,_,_=>by trivial
 |_+1,.mp _,_,_,hf,_,_=>by trivial
 |d+1,.ptr id ver off,p,v,hf,b5,hr=>by
  simp only[frz] at hf;split at hf
  .rename_i cells hg;split at hf
   .rename_i d7
    cases hm:cells.mapM (frz h d) with
    |none=>grind
    |some r=>
     simp only[hm,dZ,cV] at hf;subst hf;obtain⟨h1,h2⟩:=jU hm;obtain⟨b,C,rfl,hd,hvC,ha⟩:=hr.pb;rw[<-d7] at ha hvC;obtain⟨cs,e,hh,hC,hle,hbB,a6⟩:=hs.read (a5 id cells hg) hd ha hvC.2
     have:=Rep.ip (G:=G') (w:=w) (o:=off) (b:=b) (off:=0) (cells:=r) (λj=>cs.getD j undef) (λj hj=>by
      have:j<cs.size:=ab
      rw[dJ,nG hh];simp[this]) (λ_=>hG1 b hbB) (λj q hq=>by
      obtain⟨x,hx,dk⟩:=h2 j q hq
      have hj:j<cs.size:=by have:=(fg.1 hx).1;omega
      exact nI hs a5 fr hG1 hG2 d x q _ dk (λe=>by have:=b5 e;simp only[eh,hg] at this;grind) (a6 j x _ hx (by simp[hj])))
     rw[dJ] at this;exact this
   .cases hf
  .cases hf
 |d+1,.msl id ver sz off k,p,v,hf,b5,hr=>by
  simp only[frz] at hf;split at hf
  .rename_i cells hg;split at hf
   .rename_i d7
    cases hm:cells.mapM (frz h d) with
    |none=>grind
    |some r=>
     simp only[hm,dZ,cV,yJ] at hf;subst hf;obtain⟨h1,h2⟩:=jU hm;obtain⟨a0,cap,rfl,hk,hd,_,h3,h4⟩:=hr.nX;rw[<-d7] at h3 h4
     cases ha:m.addr id cells.length with
     |none=>
      obtain⟨rfl,h5⟩:=h3 ha;have jf:r=[]:=iJ ab;subst jf
      have:k=0:=ab
      subst this
      cases a0 with
      |none=>simpa using Rep.slnil
      |some a1=>simpa using Rep.slz (bU _)
     |some bc=>
      obtain⟨b,C⟩:=bc;obtain⟨h5,h6,h7⟩:=h4 b C ha;obtain⟨cs,e,hh,hC,hle,hbB,a6⟩:=hs.read (a5 id cells hg) hd ha ab
      cases hL:(r.drop off).take (k*sz) with
      |nil=>
       cases a0 with
       |none=>
        have b8:cap=0:=by
         simp_all
        subst b8
        have:k=0:=ab
        subst this;exact .slnil
       |some a1=>exact .slz hk
      |cons x xs=>
       have b8:0<cap:=by
        rcases lR cap with h|h
        .have:k=0:=ab
         rw[this] at hL;simp at hL
        .exact h
       rw[h5 b8,<-hL];refine .sl (λj=>cs.getD (off+j) undef) hk (λj hj=>?_) (λ_=>hG1 b hbB) (λj q hq=>?_)
       .rw[jP,xX] at hj
        have:off+j<cs.size:=ab
        rw[nG hh];simp[this]
       .rw[lQ] at hq;split at hq
        .rw[xV] at hq;obtain⟨x,hx,dk⟩:=h2 _ q hq
         have hj:off+j<cs.size:=by have:=(fg.1 hx).1;omega
         exact nI hs a5 fr hG1 hG2 d x q _ dk (λe=>by have:=b5 e;simp only[eh,hg] at this;grind) (a6 _ x _ hx (by simp[hj]))
        .cases hq
   .cases hf
  .cases hf
 |d+1,.agg cs,p,v,hf,b5,hr=>by
  simp only[frz] at hf
  cases hm:cs.mapM (frz h d) with
  |none=>grind
  |some r=>
   simp only[hm,dZ,cV] at hf;subst hf;obtain⟨h1,h2⟩:=jU hm;obtain⟨vs,rfl,hl,hc⟩:=hr.HX
   exact .agg ab (λj q u hq hu=>by
    obtain⟨x,hx,dk⟩:=h2 j q hq
    exact nI hs a5 fr hG1 hG2 d x q u dk (λe=>by have:=b5 e;simp only[eh] at this;grind) (hc j x u hx hu))
 |d+1,.tup cs,p,v,hf,b5,hr=>by
  simp only[frz] at hf
  cases hm:cs.mapM (frz h d) with
  |none=>grind
  |some r=>
   simp only[hm,dZ,cV] at hf;subst hf;obtain⟨h1,h2⟩:=jU hm;obtain⟨vs,rfl,hl,hc⟩:=hr.xm
   exact .tup ab (λj q u hq hu=>by
    obtain⟨x,hx,dk⟩:=h2 j q hq
    exact nI hs a5 fr hG1 hG2 d x q u dk (λe=>by have:=b5 e;simp only[eh] at this;grind) (hc j x u hx hu))
 |d+1,.fn g cs,p,v,hf,b5,hr=>by
  simp only[frz] at hf
  cases hm:cs.mapM (frz h d) with
  |none=>grind
  |some r=>
   simp only[hm,dZ,cV] at hf;subst hf;obtain⟨h1,h2⟩:=jU hm
   cases hr with
   |fn hl hc=>
    exact .fn ab (λj q u hq hu=>by
     obtain⟨x,hx,dk⟩:=h2 j q hq
     exact nI hs a5 fr hG1 hG2 d x q u dk (λe=>by have:=b5 e;simp only[eh] at this;grind) (hc j x u hx hu))
end
def lB(h:bz):List AV->Option (List PV)
 |[]=>some []
 |x::r=>match frz h 6 x with
  |some p=>match lB h r with
   |some q=>some (p::q)
   |none=>none
  |none=>none
inductive Mark{α:Type}(a:α):Type where
 |it
def pd(fr:Bool)(p:PV):Bool:=fr && !flat p
def AV.sh(n:Nat):AV->AV
 |.w o f p=>.w o f p
 |.ptr id v off=>.ptr (id+n) v off
 |.msl id v sz off k=>.msl (id+n) v sz off k
 |.mp id=>.mp (id+n)
 |.agg cs=>.agg (shL n cs)
 |.tup cs=>.tup (shL n cs)
 |.fn f cs=>.fn f (shL n cs)
where shL (n:Nat):List AV->List AV
 |[]=>[]
 |x::r=>x.sh n::shL n r
def AV.frs:AV->Bool
 |.w o _ p=>o || flat p
 |.ptr _ _ _=>true
 |.msl _ _ _ _ _=>true
 |.mp _=>true
 |.agg cs=>j4 cs
 |.tup cs=>j4 cs
 |.fn _ cs=>j4 cs
where j4:List AV->Bool
 |[]=>true
 |x::r=>x.frs&&j4 r
section
omit [bE]
theorem Ea{n:Nat}{c:List AV}:jG (AV.sh.shL n c)=jG c:=by
 match c with
 |[]=>rfl
 |[x]=>cases x<;>simp[AV.sh.shL,AV.sh,jG]
 |x::y::r=>simp[AV.sh.shL,jG]
theorem KD{n:Nat}{c:List AV}{l:List (PV×PV)}(h:fI (AV.sh.shL n c)=some l):fI c=some l:=by
 match c with
 |[]=>trivial
 |[x]=>
  cases x with
  |w o f p=>trivial
  |_=>simp[AV.sh.shL,AV.sh,fI] at h
 |x::y::r=>simp[AV.sh.shL,fI] at h
theorem KE{n:Nat}{c:List AV}{l:List (PV×PV)}(h:fI c=some l):fI (AV.sh.shL n c)=some l:=by
 match c with
 |[]=>trivial
 |[x]=>
  cases x with
  |w o f p=>trivial
  |_=>simp[fI] at h
 |x::y::r=>simp[fI] at h
end
def ck(h:bz)(n:Nat):List (List AV)->bz
 |[]=>h
 |c::E=>(n,c)::ck h (n+1) E
def mf(P:Program)(f:FuncId)(args:List PV)(E:List (List AV))(v:AV):Prop:=
 BM P f/\v.frs=true/\(∀c∈E,AV.frs.j4 c=true)/\∀(G:Nat->Prop)(w:World)(vs:Array Value),bE.ok w->args.length=vs.size->(∀(j:Nat)(p:PV)(v:Value),args[j]?=some p->vs[j]?=some v->Rep G w p v) ->
  j1 P f vs w λe w'=>∃u mm,e=.returned u/\Bel w.heap.size w w'/\(∀i,mm.dom i↔i<E.length)/\cQ ⟨w.heap.size,G⟩ (ck [] 0 E) mm w'/\bG ⟨w.heap.size,G⟩ (LB mm (ck [] 0 E)) mm w' v u
def CW(P:Program)(g:FuncId)(args:List PV)(K:PV->Bool->Prop)(K2:List (List AV)->AV->Prop)(_:Mark (K,K2)):Prop:=(∃res fr,bX P g args res fr/\K res fr)\/∃E v,mf P g args E v/\K2 E v
def rO(P:Program)(h:bz)(n:Nat)(g:FuncId)(args:List AV)(K:AV->List (List AV)->Prop):Prop:=
 match lB h args with
 |some pvs=>CW P g pvs (λres fr=>(fr=true\/na args=true)/\K (.w (pd fr res) false res) []) (λE v=>K (v.sh n) (E.map (AV.sh.shL n))) .it
 |none=>False
def fU:AV->Option (FuncId×List AV)
 |.fn g bT=>some (g,bT)
 |.w own _ (.fn g bT)=>some (g,bT.map (AV.w own false))
 |_=>none
def de(P:Program)(env:Env)(h:bz)(n:Nat)(op:Op)(K:AV->List (List AV)->Prop):Prop:=
 match op with
 |.call { callee:=.value f,args:=args,argTypes:=_ } =>
  match fU (ev env f) with
  |some (g,bT)=>rO P h n g (args.toList.map (ev env)++bT) K
  |none=>False
 |op=>match aOp P h n (ev env) op with
  |some (c,v,E)=>c/\K v E
  |none=>False
def iP(B:Base)(H:bz)(m:Mm)(w:World)(n k:Nat)(v:AV)(v':Value)(w':World)(m':Mm):Prop:=
 m.le m'/\(∀i,m'.dom i↔m.dom i\/(n<=i/\i<n+k))/\Bel w.heap.size w w'/\cQ B H m' w'/\(∀b,LB m' H b->LB m H b\/w.heap.size<=b)/\bG B (LB m' H) m' w' v v'
omit [bE] in
theorem KF{fr:Bool}{p:PV}(h:pd fr p=true):fr=true:=by
 unfold pd at h;simp_all
section
variable{P:Program}{B:Base}{m:Mm}{w:World}{H h:bz}{n:Nat}{env:Env}{a:Act}{L:Nat->Prop}
section
omit [bE]
theorem za:∀{l:List AV}{r:List PV},lB h l=some r->l.length=r.length/\∀(j:Nat)(p:PV),r[j]?=some p->∃x,l[j]?=some x/\frz h 6 x=some p
 |[],r,e=>by simp[lB] at e;simp_all
 |x::l,r,e=>by
  simp only[lB] at e;split at e
  .rename_i p hp;split at e
   .rename_i q hq;cases e;obtain⟨h1,h2⟩:=za hq
    grind
   .cases e
  .cases e
theorem Eb:∀{l:List AV},na l=true->∀(j:Nat)(x:AV),l[j]?=some x->xo x=true
 |[],_,j,x,h=>by simp at h
 |y::l,hp,j,x,h=>by
  simp only[na,fe] at hp
  cases j with
  |zero=>simp_all
  |succ j=>exact Eb hp.2 j x av
theorem zb:∀{l:List AV},rM l=true->∀(j:Nat)(x:AV),l[j]?=some x->isW x=true
 |[],_,j,x,h=>by simp at h
 |y::l,hp,j,x,h=>by
  simp only[rM,fe] at hp
  cases j with
  |zero=>simp_all
  |succ j=>exact zb hp.2 j x av
end
theorem KG(hO:bE.ok w)(hs:cQ B H m w)(hB:B.n<=w.heap.size)(a5:∀id cs,bY h id=some cs->(id,cs)∈H)(o:Oper)(f:Operand)(args:Array Operand)(tys:Array TypeId)(ho:o.op=.call { callee:=.value f,args:=args,argTypes:=tys })(hx:∀x,x∈o.op.operands->bG B (LB m H) m w (ev env x) (a.eval x)){g:FuncId}{bT:List AV}(hf:fU (ev env f)=some (g,bT)){pvs:List PV}(hp:lB h (args.toList.map (ev env)++bT)=some pvs){res:PV}{fr:Bool}(hc:bX P g pvs res fr)(b5:fr=true\/na (args.toList.map (ev env)++bT)=true)(K:Act->World->Prop)(Q:Exit->Act->World->Prop)(hK:∀v' w' m',iP B H m w n 0 (.w (pd fr res) false res) v' w' m'->K (a.put o.dst v') w'):o.wpt P a w K Q:=by
 obtain⟨⟨fn,fz,er,em⟩,bn⟩:=hc;have bv:bG B (LB m H) m w (ev env f) (a.eval f):=hx f aD
 have k1:∀x∈args.toList,bG B (LB m H) m w (ev env x) (a.eval x):=λx hm=>hx x (by rw[ho];simp[Op.operands,Call.operands,qU.1 hm])
 have ej:∃cv:Array Value,a.eval f=.func (.func g) #[] cv/\bT.length=cv.size/\∀(j:Nat)(p:AV)(v:Value),bT[j]?=some p->cv[j]?=some v->bG B (LB m H) m w p v:=by
  unfold fU at hf;split at hf
  .rename_i g' cf e
   injection hf with hf;injection hf with h1 h2;subst h1;subst h2
   rw[e] at bv;generalize hv:a.eval f=vf at bv
   cases bv with|fn h1 h2=>grind
  .rename_i own f' g' cf e
   injection hf with hf;injection hf with h1 h2;subst h1;subst h2
   rw[e] at bv;generalize hv:a.eval f=vf at bv
   cases bv with
   |w h1 _=>
    cases h1 with
    |fn h1 h2=>
     refine⟨_,rfl,ak,λj p v hp hv=>?_⟩;obtain⟨q,hq,rfl⟩:=gv hp;exact .w (h2 j q v hq hv) nofun
  .cases hf
 obtain⟨cv,fw,da,ie⟩:=ej
 have fh:∀(j:Nat)(x:AV)(v:Value),(args.toList.map (ev env)++bT)[j]?=some x->(args.map a.eval++cv)[j]?=some v->bG B (LB m H) m w x v:=by
  grind
 obtain⟨g4,f9⟩:=za hp
 have hlen:pvs.length=(args.map a.eval++cv).size:=by rw[<-g4];simp[da]
 have a4:(execOp a.eval o).run P w=.ok (.enter g (args.map a.eval++cv)) w:=by
  have g5:¬fn.name = "runtime.NumGoroutine" := by simp_all
  have bu:¬fn.body=none:=ak
  simp[execOp,ho,resolve,fw,Deferred.ofValue,invoke,callFunc,fz,g5,bu]
 unfold Oper.wpt;rw[a4,Oper.BD]
 rcases b5 with b5|ew
 .subst b5
  refine (bn (λ_=>True) w _ hO hlen (λj p v hp hv=>by
   obtain⟨x,hx,d8⟩:=f9 j p hp
   exact nI hs a5 false (λ_ _=>trivial) (λ_ _ _=>trivial) 6 x p v d8 nofun (fh j x v hx hv))).mono ?_
  rintro e w' ⟨v,rfl,hb,hr⟩
  refine hK v w' m ⟨Mm.le.refl m,λi=>⟨.inl,λh=>h.elim id λh=>ab⟩,hb,hs.below hb,λb h=>.inl h,.w (hr.imp λb hg=>?_) nofun⟩;have bu:=hg.2 rfl;exact⟨λhl=>by have:=fo hs hl;omega,λ_=>ab,λh=>ab⟩
 .refine (bn (Good B (LB m H) false) w _ hO hlen (λj p v hp hv=>by
   obtain⟨x,hx,d8⟩:=f9 j p hp;have gc:=Eb ew j x hx;have hr:=fh j x v hx hv
   cases x with
   |w o f q=>
    have:q=p:=by simpa[frz] using d8
    subst this
    cases hr with|w hr _=>exact hr.imp λb hg=>⟨hg.1,nofun,hg.2.2⟩
   |agg cs=>
    cases hm:cs.mapM (frz h 5) with
    |none=>simp[frz,hm] at d8
    |some r=>
     simp only[frz,hm,dZ,cV] at d8;subst d8;obtain⟨h1,h2⟩:=jU hm
     cases hr with
     |agg hl a6=>
      refine .agg ab (λi q u hq hu=>?_);obtain⟨y,hy,gr⟩:=h2 i q hq;have gu:isW y=true:=zb gc i y hy;have gt:=a6 i y u hy hu
      cases y with
      |w o f q'=>
       have:q'=q:=by simpa[frz] using gr
       subst this
       cases gt with|w hr _=>exact hr.imp λb hg=>⟨hg.1,nofun,hg.2.2⟩
      |_=>cases gu
   |fn gg cs=>
    cases hm:cs.mapM (frz h 5) with
    |none=>simp[frz,hm] at d8
    |some r=>
     simp only[frz,hm,dZ,cV] at d8;subst d8;obtain⟨h1,h2⟩:=jU hm
     cases hr with
     |fn hl a6=>
      refine .fn ab (λi q u hq hu=>?_);obtain⟨y,hy,gr⟩:=h2 i q hq;have gu:isW y=true:=zb gc i y hy;have gt:=a6 i y u hy hu
      cases y with
      |w o f q'=>
       have:q'=q:=by simpa[frz] using gr
       subst this
       cases gt with|w hr _=>exact hr.imp λb hg=>⟨hg.1,nofun,hg.2.2⟩
      |_=>cases gu
   |_=>cases gc)).mono ?_
  rintro e w' ⟨v,rfl,hb,hr⟩
  refine hK v w' m ⟨Mm.le.refl m,λi=>⟨.inl,λh=>h.elim id λh=>ab⟩,hb,hs.below hb,λb h=>.inl h,.w (hr.imp λb hg=>?_) nofun⟩
  rcases eX b w.heap.size with b6|k5
  .have gy:=hg.1 b6;exact⟨gy.1,λh=>by have:=hg.2 (KF h);omega,gy.2.2⟩
  .exact⟨λhl=>by have:=fo hs hl;omega,λ_=>ab,λh=>ab⟩
section
omit [bE]
theorem gZ(n:Nat):∀cs:List AV,AV.sh.shL n cs=cs.map (AV.sh n)
 |[]=>rfl
 |x::r=>by simp[AV.sh.shL,gZ n r]
theorem ti:∀{cs:List AV},AV.frs.j4 cs=true->∀(j:Nat)(x:AV),cs[j]?=some x->x.frs=true
 |[],_,j,x,h=>by simp at h
 |y::l,hp,j,x,h=>by
  simp only[AV.frs.j4,fe] at hp
  cases j with
  |zero=>simp_all
  |succ j=>exact ti hp.2 j x av
theorem bG.up{B1:Base}{L1 L2:Nat->Prop}{mm m':Mm}{w':World}{n:Nat}{x:AV}{v:Value}(h:bG B1 L1 mm w' x v)(hd:∀i,mm.dom i->m'.dom (i+n))(ht:∀i,mm.dom i->m'.top (i+n)=mm.top i)(ha:∀i ver,mm.dom i->m'.addr (i+n) ver=mm.addr i ver)(hG:∀b,B1.n<=b->¬L1 b->Good B L2 true b)(b5:x.frs=true):bG B L2 m' w' (x.sh n) v:=by
 induction h with
 |@w own full p v hr hf=>
  refine .w ?_ hf
  cases own with
  |true=>exact hr.imp λb hg=>hG b (hg.2.1 rfl) hg.1
  |false=>exact vq aE hr
 |ptr bg bf fi hC=>exact .ptr (hd _ bg) (by rw[ht _ bg];exact bf) ((ha _ _ bg).trans fi) hC
 |mp bg bf fi=>exact .mp (hd _ bg) (by rw[ht _ bg];exact bf) ((ha _ _ bg).trans fi)
 |msl bg bf hn h0 h1=>exact .msl (hd _ bg) (by rw[ht _ bg];exact bf) hn (λe=>h0 ((ha _ _ bg).symm.trans e)) (λb C e=>h1 b C ((ha _ _ bg).symm.trans e))
 |@agg cs vs hl _ ih=>
  rw[AV.sh,gZ];refine .agg ak (λj p v hp hv=>?_);obtain⟨q,hq,rfl⟩:=gv hp;exact ih j q v hq hv (ti b5 j q hq)
 |@tup cs vs hl _ ih=>
  rw[AV.sh,gZ];refine .tup ak (λj p v hp hv=>?_);obtain⟨q,hq,rfl⟩:=gv hp;exact ih j q v hq hv (ti b5 j q hq)
 |@fn f cs vs hl _ ih=>
  rw[AV.sh,gZ];refine .fn ak (λj p v hp hv=>?_);obtain⟨q,hq,rfl⟩:=gv hp;exact ih j q v hq hv (ti b5 j q hq)
end
def Mm.glue(m mm:Mm)(n len:Nat):Mm:=
 ⟨λi ver=>if n<=i/\i<n+len then mm.addr (i-n) ver else m.addr i ver,λi=>if n<=i/\i<n+len then mm.top (i-n) else m.top i,λi=>m.dom i\/(n<=i/\i<n+len)⟩
section
omit [bE]
theorem zc:∀(E:List (List AV))(h:bz)(n:Nat)(id:Nat)(c:List AV),(id,c)∈ck h n E↔(id,c)∈h\/∃k,E[k]?=some c/\id=n+k
 |[],h,n,id,c=>by simp[ck]
 |x::E,h,n,id,c=>by
  simp only[ck,dU,dz,zc E h (n+1) id c];constructor
  .rintro (⟨rfl,rfl⟩|h1|⟨k,h1,rfl⟩)
   .exact .inr ⟨0,rfl,rfl⟩
   .exact .inl h1
   .exact .inr ⟨k+1,by simpa using h1,ab⟩
  grind
theorem KH{α:Type}{R:α->α->Prop}{l:List α}(h:l.Pairwise R)(hs:∀a b,R a b->R b a){x y:α}(hx:x∈l)(hy:y∈l):x=y\/R x y:=by
 rw[sQ] at h;obtain⟨p,hp,ep⟩:=kD hx;obtain⟨q,hq,eq⟩:=kD hy
 grind
theorem KI(hs:cQ B H m w)(hB:B.n<=w.heap.size){E:List (List AV)}{v:AV}(hv:v.frs=true)(hEf:∀c∈E,AV.frs.j4 c=true)(hE:∀k cs,(E.map (AV.sh.shL n))[k]?=some cs->(n+k,cs)∈H)(ao:∀k,k<E.length->¬m.dom (n+k)){G:Nat->Prop}{w':World}{u:Value}{mm:Mm}(hb:Bel w.heap.size w w')(bi:∀i,mm.dom i↔i<E.length)(ez:cQ ⟨w.heap.size,G⟩ (ck [] 0 E) mm w')(hr:bG ⟨w.heap.size,G⟩ (LB mm (ck [] 0 E)) mm w' v u):iP B H m w n E.length (v.sh n) u w' (m.glue mm n E.length):=by
 have hold:∀i,m.dom i->¬(n<=i/\i<n+E.length):=λi hd hi=>by
  have:=ao (i-n) ab;rw[show n+(i-n)=i by omega] at this;exact this hd
 have hle:m.le (m.glue mm n E.length):=⟨λi hd=>.inl hd,λi hd=>by simp only[Mm.glue,bN (hold i hd)];exact bU _,λi ver hd _=>by simp only[Mm.glue,bN (hold i hd)]⟩
 have cq:∀k c,E[k]?=some c->(k,c)∈ck [] 0 E:=λk c hk=>(zc E [] 0 k c).2 (.inr ⟨k,hk,ab⟩)
 have ba:∀k c,(n+k,c)∈H->k<E.length->∃c0,E[k]?=some c0/\c=AV.sh.shL n c0:=λk c hin hk=>by
  have h1:=dO hk;refine⟨E[k],h1,?_⟩;have h2:=hE k (AV.sh.shL n E[k]) (by rw[jm,h1];rfl);exact hs.key hin h2
 have hLB:∀b,LB (m.glue mm n E.length) H b->LB m H b\/LB mm (ck [] 0 E) b:=by
  rintro b ⟨id,c,C,hin,hd,ha⟩
  by_cases hi:n<=id/\id<n+E.length
  .obtain⟨c0,h1,h2⟩:=ba (id-n) c (by rw[show n+(id-n)=id by omega];exact hin) ab;simp only[Mm.glue,cu hi] at ha;rw[h2,gZ,jq] at ha;exact .inr ⟨id-n,c0,C,cq _ _ h1,(bi _).2 ab,ha⟩
  .have bg:m.dom id:=by
    rcases hd with hd|hd
    .exact hd
    .exact absurd hd hi
   simp only[Mm.glue,bN hi] at ha;exact .inl ⟨id,c,C,hin,bg,ha⟩
 have hmmB:∀b,LB mm (ck [] 0 E) b->w.heap.size<=b:=by
  rintro b ⟨id,c,C,hin,hd,ha⟩
  exact (ez.block hin hd ha).2
 have hG:∀b,w.heap.size<=b->¬LB mm (ck [] 0 E) b->Good B (LB (m.glue mm n E.length) H) true b:=λb el fm=>⟨λhl=>by
  rcases hLB b hl with h1|h1
  .have:=fo hs h1;omega
  .exact fm h1,λ_=>ab,λh=>ab⟩
 have i5:∀x u,bG ⟨w.heap.size,G⟩ (LB mm (ck [] 0 E)) mm w' x u->x.frs=true->bG B (LB (m.glue mm n E.length) H) (m.glue mm n E.length) w' (x.sh n) u:=λx u h hf=>
  h.up (λi hd=>.inr ⟨ab,by have:=(bi i).1 hd;omega⟩) (λi hd=>by have:=(bi i).1 hd;simp only[Mm.glue];rw[cu ⟨ab,ab⟩,Jt])
   (λi ver hd=>by have:=(bi i).1 hd;simp only[Mm.glue];rw[cu ⟨ab,ab⟩,Jt]) hG hf
 have bp:∀x u,bG B (LB m H) m w x u->bG B (LB (m.glue mm n E.length) H) (m.glue mm n E.length) w' x u:=λx u h=>
  h.mono hle (λb el fm hl=>by
   rcases hLB b hl with h1|h1
   .exact fm h1
   .have:=hmmB b h1;omega) (λb el _=>hb.block b el)
 refine⟨hle,λi=>Iff.rfl,hb,⟨λid c hin hd=>?_,?_⟩,λb hl=>?_,i5 v u hr hv⟩
 .by_cases hi:n<=id/\id<n+E.length
  .obtain⟨c0,h1,h2⟩:=ba (id-n) c (by rw[show n+(id-n)=id by omega];exact hin) ab
   have hlen:c.length=c0.length:=by rw[h2,gZ,jq]
   obtain⟨e1,e2⟩:=ez.entry (id-n) c0 (cq _ _ h1) ((bi _).2 ab);refine⟨by simp only[Mm.glue,cu hi];rw[e1,hlen],?_⟩
   rcases e2 with ⟨e3,e4⟩|⟨b,C,cs,e,f1,f2,f3,f4,f5,f6⟩|⟨b,es,clk,f1,f2,f3,f4,f5⟩
   .exact .inl ⟨by simp only[Mm.glue,cu hi];rw[hlen];exact e3,by rw[h2,e4];rfl⟩
   rotate_left
   .exact .inr (.inr ⟨b,es,clk,by simp only[Mm.glue,cu hi];rw[hlen];exact f1,by rw[h2,Ea];exact f2,f3,by simp only at f4;omega,λl hl=>f5 l (KD (by rw[<-h2];exact hl))⟩)
   .refine .inr (.inl ⟨b,C,cs,e,by simp only[Mm.glue,cu hi];rw[hlen];exact f1,f2,f3,ab,by simp only at f5;omega,λj p u hp hu=>?_⟩);rw[h2,gZ] at hp;obtain⟨q,hq,rfl⟩:=gv hp;exact i5 q u (f6 j q u hq hu) (ti (hEf c0 (Jl h1)) j q hq)
  .have bg:m.dom id:=by
    rcases hd with hd|hd
    .exact hd
    .exact absurd hd hi
   obtain⟨e1,e2⟩:=hs.entry id c hin bg;refine⟨by simp only[Mm.glue,bN hi];exact e1,?_⟩
   rcases e2 with ⟨e3,e4⟩|⟨b,C,cs,e,f1,f2,f3,f4,f5,f6⟩|⟨b,es,clk,f1,f2,f3,f4,f5⟩
   .exact .inl ⟨by simp only[Mm.glue,bN hi];exact e3,e4⟩
   rotate_left
   .have e9:b<w.heap.size:=fo hs ⟨id,c,0,hin,bg,f1⟩;exact .inr (.inr ⟨b,es,clk,by simp only[Mm.glue,bN hi];exact f1,f2,(hb.block b e9).trans f3,f4,f5⟩)
   .have e9:b<w.heap.size:=fo hs ⟨id,c,C,hin,bg,f1⟩;exact .inr (.inl ⟨b,C,cs,e,by simp only[Mm.glue,bN hi];exact f1,(hb.block b e9).trans f2,f3,f4,f5,λj p u hp hu=>bp p u (f6 j p u hp hu)⟩)
 .refine sJ ?_ hs.inj;intro x y hx hy ⟨b7,gq⟩;refine⟨b7,λb C C' ei ec dl d9=>?_⟩
  have key:∀z:Nat×List AV,z∈H->(m.glue mm n E.length).dom z.1->∀C,(m.glue mm n E.length).addr z.1 z.2.length=some (b,C)->(¬(n<=z.1/\z.1<n+E.length)/\m.dom z.1/\m.addr z.1 z.2.length=some (b,C)) \/
   ((n<=z.1/\z.1<n+E.length)/\∃c0,(z.1-n,c0)∈ck [] 0 E/\mm.addr (z.1-n) c0.length=some (b,C)):=by
   intro z hz db C ha;by_cases hi:n<=z.1/\z.1<n+E.length
   .obtain⟨c0,h1,h2⟩:=ba (z.1-n) z.2 (by rw[show n+(z.1-n)=z.1 by omega];exact hz) ab;simp only[Mm.glue,cu hi] at ha;rw[h2,gZ,jq] at ha;exact .inr ⟨hi,c0,cq _ _ h1,ha⟩
   .simp only[Mm.glue,bN hi] at ha
    rcases db with db|db
    .exact .inl ⟨hi,db,ha⟩
    .exact absurd db hi
  rcases key x hx ei C dl with ⟨_,dx,ax⟩|⟨ix,cx,mx,ax⟩
  .rcases key y hy ec C' d9 with ⟨_,dy,ay⟩|⟨iy,cy,my,ay⟩
   .exact gq b C C' dx dy ax ay
   .have h1:b<w.heap.size:=fo hs ⟨x.1,x.2,C,hx,dx,ax⟩;have h2:=hmmB b ⟨y.1-n,cy,C',my,(bi _).2 ab,ay⟩;omega
  .rcases key y hy ec C' d9 with ⟨_,dy,ay⟩|⟨iy,cy,my,ay⟩
   .have h1:b<w.heap.size:=fo hs ⟨y.1,y.2,C',hy,dy,ay⟩;have h2:=hmmB b ⟨x.1-n,cx,C,mx,(bi _).2 ab,ax⟩;omega
   .rcases KH ez.inj (λa c gw=>⟨λe=>gw.1 e.symm,λb C C' d1 d2 a1 a2=>gw.2 b C' C d2 d1 a2 a1⟩) mx my with h1|h1
    .injection h1 with h1 _
     exact b7 ab
    .exact h1.2 b C C' ((bi _).2 ab) ((bi _).2 ab) ax ay
 grind
end
theorem KJ(hO:bE.ok w)(hs:cQ B H m w)(hB:B.n<=w.heap.size)(a5:∀id cs,bY h id=some cs->(id,cs)∈H)(o:Oper)(f:Operand)(args:Array Operand)(tys:Array TypeId)(ho:o.op=.call { callee:=.value f,args:=args,argTypes:=tys })(hx:∀x,x∈o.op.operands->bG B (LB m H) m w (ev env x) (a.eval x)){g:FuncId}{bT:List AV}(hf:fU (ev env f)=some (g,bT)){pvs:List PV}(hp:lB h (args.toList.map (ev env)++bT)=some pvs){E:List (List AV)}{v:AV}(hE:∀k cs,(E.map (AV.sh.shL n))[k]?=some cs->(n+k,cs)∈H)(ao:∀k,k<E.length->¬m.dom (n+k))(hc:mf P g pvs E v)(K:Act->World->Prop)(Q:Exit->Act->World->Prop)(hK:∀v' w' m',iP B H m w n E.length (v.sh n) v' w' m'->K (a.put o.dst v') w'):o.wpt P a w K Q:=by
 obtain⟨⟨fn,fz,er,em⟩,hv,hEf,bn⟩:=hc;have bv:bG B (LB m H) m w (ev env f) (a.eval f):=hx f aD
 have k1:∀x∈args.toList,bG B (LB m H) m w (ev env x) (a.eval x):=λx hm=>hx x (by rw[ho];simp[Op.operands,Call.operands,qU.1 hm])
 have ej:∃cv:Array Value,a.eval f=.func (.func g) #[] cv/\bT.length=cv.size/\∀(j:Nat)(p:AV)(v:Value),bT[j]?=some p->cv[j]?=some v->bG B (LB m H) m w p v:=by
  unfold fU at hf;split at hf
  .rename_i g' cf e
   injection hf with hf;injection hf with h1 h2;subst h1;subst h2
   rw[e] at bv;generalize hv:a.eval f=vf at bv
   cases bv with|fn h1 h2=>grind
  .rename_i own f' g' cf e
   injection hf with hf;injection hf with h1 h2;subst h1;subst h2
   rw[e] at bv;generalize hv:a.eval f=vf at bv
   cases bv with
   |w h1 _=>
    cases h1 with
    |fn h1 h2=>
     refine⟨_,rfl,ak,λj p v hp hv=>?_⟩;obtain⟨q,hq,rfl⟩:=gv hp;exact .w (h2 j q v hq hv) nofun
  .cases hf
 obtain⟨cv,fw,da,ie⟩:=ej
 have fh:∀(j:Nat)(x:AV)(v:Value),(args.toList.map (ev env)++bT)[j]?=some x->(args.map a.eval++cv)[j]?=some v->bG B (LB m H) m w x v:=by
  grind
 obtain⟨g4,f9⟩:=za hp
 have hlen:pvs.length=(args.map a.eval++cv).size:=by rw[<-g4];simp[da]
 have a4:(execOp a.eval o).run P w=.ok (.enter g (args.map a.eval++cv)) w:=by
  have g5:¬fn.name = "runtime.NumGoroutine" := by simp_all
  have bu:¬fn.body=none:=ak
  simp[execOp,ho,resolve,fw,Deferred.ofValue,invoke,callFunc,fz,g5,bu]
 unfold Oper.wpt;rw[a4,Oper.BD]
 refine (bn (λ_=>True) w _ hO hlen (λj p v hp hv=>by
  obtain⟨x,hx,d8⟩:=f9 j p hp
  exact nI hs a5 false (λ_ _=>trivial) (λ_ _ _=>trivial) 6 x p v d8 nofun (fh j x v hx hv))).mono ?_
 rintro e w' ⟨u,mm,rfl,hb,bi,ez,hr⟩
 exact hK u w' _ (KI hs hB hv hEf hE ao hb bi ez hr)
def QF(P:Program)(env:Env)(h:bz)(n:Nat)(op:Op)(v:AV)(E:List (List AV)):Prop:=
 (∃c,aOp P h n (ev env) op=some (c,v,E)/\c) \/
 ∃f args tys g bT pvs res fr,op=.call { callee:=.value f,args:=args,argTypes:=tys }/\fU (ev env f)=some (g,bT)/\lB h (args.toList.map (ev env)++bT)=some pvs /\
  ((bX P g pvs res fr/\(fr=true\/na (args.toList.map (ev env)++bT)=true)/\v=.w (pd fr res) false res/\E=[]) \/
    ∃E0 v0,mf P g pvs E0 v0/\v=v0.sh n/\E=E0.map (AV.sh.shL n))
theorem de.qf{op:Op}{K:AV->List (List AV)->Prop}(hq:de P env h n op K):∃v E,QF P env h n op v E/\K v E:=by
 unfold de at hq;split at hq
 .rename_i f args tys;split at hq
  .rename_i g bT hf;unfold rO at hq;split at hq
   .rename_i pvs hp
    rcases hq with ⟨res,fr,hc,b5,hk⟩|⟨E,v,hc,hk⟩
    .exact⟨_,_,.inr ⟨f,args,tys,g,bT,pvs,res,fr,rfl,hf,hp,.inl ⟨hc,b5,rfl,rfl⟩⟩,hk⟩
    .exact⟨_,_,.inr ⟨f,args,tys,g,bT,pvs,.undef,true,rfl,hf,hp,.inr ⟨E,v,hc,rfl,rfl⟩⟩,hk⟩
   .exact hq.elim
  trivial
 .split at hq
  .rename_i c v E he;exact⟨v,E,.inl ⟨c,he,hq.1⟩,hq.2⟩
  trivial
theorem QF.sound(o:Oper){v:AV}{E:List (List AV)}(hq:QF P env h n o.op v E)(hO:bE.ok w)(hs:cQ B H m w)(hB:B.n<=w.heap.size)(a5:∀id cs,bY h id=some cs->(id,cs)∈H)(hE:∀k cs,E[k]?=some cs->(n+k,cs)∈H)(ao:∀k,k<E.length->¬m.dom (n+k))(hx:∀x,x∈o.op.operands->bG B (LB m H) m w (ev env x) (a.eval x))(K:Act->World->Prop)(Q:Exit->Act->World->Prop)(hK:∀v' w' m',iP B H m w n E.length v v' w' m'->K (a.put o.dst v') w'):o.wpt P a w K Q:=by
 rcases hq with ⟨c,h0,hc⟩|⟨f,args,tys,g,bT,pvs,res,fr,ho,hf,hp,⟨hc,b5,rfl,rfl⟩|⟨E0,v0,hc,rfl,rfl⟩⟩
 .obtain⟨v',w',m',a4,h1,h2,h3,h4,h5,h6⟩:=KC o h0 hc hs hB a5 hE ao hx;unfold Oper.wpt;rw[a4,Oper.oZ];exact hK v' w' m' ⟨h1,h2,h3,h4,h5,h6⟩
 .exact KG hO hs hB a5 o f args tys ho hx hf hp hc b5 K Q hK
 .rw[jq] at ao hK;exact KJ hO hs hB a5 o f args tys ho hx hf hp hE ao hc K Q hK
end
end Go.Fi
namespace Go.Fi
open Go Go.RowKit
def fJ(w:World)(b:Nat)(cs:Array Value)(e:TypeId):World:={ w with heap:=w.heap.setIfInBounds b (.cells cs e (0,0))}
theorem KL(w:World)(b:Nat)(cs:Array Value)(e:TypeId):(fJ w b cs e).heap.size=w.heap.size:=by simp[fJ]
theorem vt(w:World)(b:Nat)(cs:Array Value)(e:TypeId){k:Nat}(h:k≠b):(fJ w b cs e).heap[k]?=w.heap[k]?:=by
 simp only[fJ];rw[iX]
 grind
theorem vu(w:World)(b:Nat)(cs:Array Value)(e:TypeId)(h:b<w.heap.size):(fJ w b cs e).heap[b]?=some (.cells cs e (0,0)):=by
 simp only[fJ];rw[iX];simp[h]
theorem KM(w:World)(b:Nat)(cs cs':Array Value)(e:TypeId):fJ (fJ w b cs e) b cs' e=fJ w b cs' e:=by
 simp[fJ]
theorem tj(w:World)(b:Nat)(cs:Array Value)(e:TypeId)(h:w.heap[b]?=some (.cells cs e (0,0))):fJ w b cs e=w:=by
 have:w.heap.setIfInBounds b (.cells cs e (0,0))=w.heap:=by
  grind
 unfold fJ;rw[this]
def fL(cs:Array Value)(off:Nat):List Value->Array Value
 |[]=>cs
 |v::r=>fL (cs.setIfInBounds off v) (off+1) r
theorem vw:∀(vs:List Value)(off:Nat)(cs:Array Value),(fL cs off vs).size=cs.size
 |[],_,_=>rfl
 |v::r,off,cs=>by rw[fL,vw r];simp
theorem KN{w:World}{b:Nat}{cs:Array Value}{e:TypeId}(h:w.heap[b]?=some (.cells cs e (0,0)))(off:Nat)(v:Value):w.setCell ⟨b,off,none⟩ v=fJ w b (cs.setIfInBounds off v) e:=by
 unfold World.setCell fJ;congr 1
 have hb:b<w.heap.size:=by
  rcases eX b w.heap.size with h'|h'
  .exact h'
  .rw[CS h'] at h;cases h
 have hg:w.heap[b]=.cells cs e (0,0):=by rw[dE hb] at h;injection h
 grind
section
variable{P:Program}
theorem vA(b off:Nat)(e:TypeId):∀(vs:List Value)(i:Nat)(w:World)(cs:Array Value),w.heap[b]?=some (.cells cs e (0,0))->off+i+vs.length<=cs.size->(∀v∈vs,v.oneCell'=true)->(storeCells ⟨b,off,none⟩ vs i).run P w=.ok () (fJ w b (fL cs (off+i) vs) e)
 |[],i,w,cs,h,_,_=>by
  simp only[storeCells,fL];rw[tj w b cs e h];rfl
 |v::r,i,w,cs,h,hle,h1=>by
  have b6:off+i<cs.size:=ak
  have hb:b<w.heap.size:=by
   grind
  have d':(store ((⟨b,off,none⟩:Addr).add i) v).run P w=.ok () (fJ w b (cs.setIfInBounds (off+i) v) e):=by
   rw[Addr.jH,run_store P w _ v _ (h1 v ae)]
   have hc:w.cell? ⟨b,off+i,none⟩=some cs[off+i]:=by rw[nG h];simp[b6]
   have hf:w.frozen? ⟨b,off+i,none⟩=false:=by simp[World.frozen?,h]
   simp[hc,hf,KN h]
  have ih:=vA b off e r (i+1) (fJ w b (cs.setIfInBounds (off+i) v) e) (cs.setIfInBounds (off+i) v) (vu w b _ e hb) ak (λx hx=>h1 x (by simp[hx]));simp only[storeCells,Sem.run_bind,d',Result.andThen_ok,ih,KM,fL];rw[show off+(i+1)=off+i+1 by omega]
end
section
variable{P:Program}{B:Base}{m:Mm}{w:World}{H h:bz}{n:Nat}{env:Env}{a:Act}{L:Nat->Prop}
theorem Ec:∀{l:List AV},eD l=true->∀(j:Nat)(x:AV),l[j]?=some x->x.one=true
 |[],_,j,x,h=>by simp at h
 |y::l,hp,j,x,h=>by
  simp only[eD,fe] at hp
  cases j with
  |zero=>simp_all
  |succ j=>exact Ec hp.2 j x av
theorem KO{x:AV}{v:Value}(h1:x.one=true)(h:bG B L m w x v):v.oneCell'=true:=by
 cases h with
 |w hr _=>cases hr<;>first|rfl|(cases h1;done)
 |agg _ _=>cases h1
 |tup _ _=>cases h1
 |_=>rfl
def uu(B:Base)(L:Nat->Prop)(m:Mm)(w:World)(cs:List AV)(vs:Array Value):Prop:=
 cs.length<=vs.size/\∀(j:Nat)(p:AV)(v:Value),cs[j]?=some p->vs[j]?=some v->bG B L m w p v
theorem uu.set{cs:List AV}{vs:Array Value}(h:uu B L m w cs vs)(i:Nat){p:AV}{v:Value}(hp:bG B L m w p v):uu B L m w (cs.set i p) (vs.setIfInBounds i v):=by
 refine⟨by simpa using h.1,λj q u hq hu=>?_⟩;rw[Jp] at hq;rw[iX] at hu;by_cases g1:i=j
 .simp_all
 .simp only[g1,cP] at hq hu;exact h.2 j q u hq hu
theorem ze:∀(ps:List AV)(us:List Value)(off:Nat)(cs:List AV)(vs:Array Value),uu B L m w cs vs->ps.length=us.length->(∀(j:Nat)(p:AV)(v:Value),ps[j]?=some p->us[j]?=some v->bG B L m w p v)->uu B L m w (setAt cs off ps) (fL vs off us)
 |[],us,off,cs,vs,h,hl,_=>by
  cases us with
  |nil=>exact h
  |cons u us=>cases hl
 |p::ps,us,off,cs,vs,h,hl,hr=>by
  cases us with
  |nil=>cases hl
  |cons u us=>
   simp only[setAt,fL];exact ze ps us (off+1) _ _ (h.set off (hr 0 p u rfl rfl)) ak (λj q v hq hv=>hr (j+1) q v ak ak)
theorem tn(h:bz)(id:Nat)(x:List AV)(hn:h.Pairwise λp q=>p.1≠q.1):dm h id x=h.map λp=>if p.1=id then (p.1,x) else p:=by
 induction hn with
 |nil=>rfl
 |@cons y r hy _ ih=>
  obtain⟨k,v⟩:=y;simp only[dm,jr];split
  .rename_i hk;subst hk;congr 1;rw[qV (g:=λp=>p)]
   .simp
   grind
  .rw[ih]
end
def Mm.up(m:Mm)(id len:Nat)(bc:Option (Nat×Nat)):Mm:=
 { addr:=λi v=>if i=id/\v=len then bc else m.addr i v,top:=λi=>if i=id then len else m.top i,dom:=m.dom }
def jd(h:bz)(id:Nat)(x:List AV):bz:=h.map λp=>if p.1=id then (p.1,x) else p
section
variable{P:Program}{B:Base}{m:Mm}{w w':World}{H h:bz}{n:Nat}{env:Env}{a:Act}{L:Nat->Prop}
theorem Ed{id i:Nat}{x c:List AV}(hin:(i,c)∈jd h id x):(i≠id/\(i,c)∈h)\/(i=id/\c=x):=by
 unfold jd at hin
 grind
theorem Q3{id len:Nat}{bc:Option (Nat×Nat)}(hle:m.top id<=len)(d4:len<=m.top id->bc=m.addr id len):m.le (m.up id len bc):=by
 refine⟨λi hi=>hi,λi hi=>?_,λi v hi hv=>?_⟩
 .simp only[Mm.up];grind
 .simp only[Mm.up];grind
theorem Ee(hs:cQ B h m w){id:Nat}{cells cells':List AV}(hin:(id,cells)∈h)(hd:m.dom id)(hlen:cells.length<=cells'.length){b' C':Nat}(d4:cells'.length=cells.length->m.addr id cells.length=some (b',C'))(bu:w.heap.size<=b'\/∃C,m.addr id cells.length=some (b',C))(cw:∀k,k<w.heap.size->(∀C,m.addr id cells.length≠some (k,C))->w'.heap[k]?=w.heap[k]?)(ba:(∃cs e,w'.heap[b']?=some (.cells cs e (0,0))/\cs.size=C'/\cells'.length<=C'/\B.n<=b'/\∀(j:Nat)(p:AV)(v:Value),cells'[j]?=some p->cs[j]?=some v->bG B (LB m h) m w p v)\/(C'=0/\∃es clk l,w'.heap[b']?=some (.map es clk)/\cells'=[gz l]/\B.n<=b'/\nT es l)):cQ B (jd h id cells') (m.up id cells'.length (some (b',C'))) w'/\m.le (m.up id cells'.length (some (b',C')))/\(∀b,b<w.heap.size->¬LB m h b->¬LB (m.up id cells'.length (some (b',C'))) (jd h id cells') b)/\(∀b,b<w.heap.size->¬LB m h b->w'.heap[b]?=w.heap[b]?):=by
 have gn:m.top id=cells.length:=(hs.entry id cells hin hd).1
 have hle:m.le (m.up id cells'.length (some (b',C'))):=Q3 (by rw[gn];exact hlen) (λhh=>by
  have:cells'.length=cells.length:=ab
  rw[this];simp_all)
 have hL0:∀b,LB (m.up id cells'.length (some (b',C'))) (jd h id cells') b->(∃i c C,(i,c)∈h/\i≠id/\m.dom i/\m.addr i c.length=some (b,C))\/b=b':=by
  rintro b ⟨i,c,C,h1,h2,h3⟩
  rcases Ed h1 with ⟨hi,h4⟩|⟨rfl,rfl⟩
  .simp only[Mm.up,hi,false_and,cP] at h3;exact .inl ⟨i,c,C,h4,hi,h2,h3⟩
  .simp only[Mm.up,and_self,cz] at h3;simp_all
 have hL:∀b,b<w.heap.size->¬LB m h b->¬LB (m.up id cells'.length (some (b',C'))) (jd h id cells') b:=by
  intro b hb hn hl
  rcases hL0 b hl with ⟨i,c,C,h1,_,h2,h3⟩|rfl
  .exact hn ⟨i,c,C,h1,h2,h3⟩
  .rcases bu with h|⟨C,h⟩
   .omega
   .exact hn ⟨id,cells,C,hin,hd,h⟩
 have hW:∀b,b<w.heap.size->¬LB m h b->w'.heap[b]?=w.heap[b]?:=λb hb hn=>cw b hb (λC hC=>hn ⟨id,cells,C,hin,hd,hC⟩)
 have bp:∀p v,bG B (LB m h) m w p v->bG B (LB (m.up id cells'.length (some (b',C'))) (jd h id cells')) (m.up id cells'.length (some (b',C'))) w' p v:=λp v hp=>hp.mono hle hL hW
 refine⟨⟨λi c io eb=>?_,?_⟩,hle,hL,hW⟩
 .rcases Ed io with ⟨hi,h4⟩|⟨rfl,rfl⟩
  .obtain⟨ht,ft⟩:=hs.entry i c h4 eb;refine⟨by simp[Mm.up,hi,ht],?_⟩
   have ge:∀(x y:Nat×List AV),x∈h->y∈h->x.1≠y.1->∀b C C',m.dom x.1->m.dom y.1->m.addr x.1 x.2.length=some (b,C)->m.addr y.1 y.2.length≠some (b,C'):=by
    intro x y hx hy b7 b C C' ei ec dl d9;have:=hs.inj;rw[sQ] at this;obtain⟨p,hp,rfl⟩:=kD hx;obtain⟨q,hq,rfl⟩:=kD hy
    grind
   rcases ft with ⟨h1,h2⟩|⟨b,C,cs,e,h1,h2,h3,h5,h6,h7⟩|⟨b,es,clk,h1,h2,h3,h5,h6⟩
   .exact .inl ⟨by simp[Mm.up,hi,h1],h2⟩
   .exact .inr (.inl ⟨b,C,cs,e,by simp[Mm.up,hi,h1],(cw b (fo hs ⟨i,c,C,h4,eb,h1⟩) (λC2 h8=>ge (i,c) (id,cells) h4 hin hi b C C2 eb hd h1 h8)).trans h2,h3,h5,h6,λj p v hp hv=>bp p v (h7 j p v hp hv)⟩)
   .exact .inr (.inr ⟨b,es,clk,by simp[Mm.up,hi,h1],h2,(cw b (fo hs ⟨i,c,0,h4,eb,h1⟩) (λC2 h8=>ge (i,c) (id,cells) h4 hin hi b 0 C2 eb hd h1 h8)).trans h3,h5,h6⟩)
  .refine⟨by simp[Mm.up],.inr ?_⟩
   rcases ba with ⟨cs,e,h1,h2,h3,h5,h6⟩|⟨rfl,es,clk,l,h1,rfl,h3,h5⟩
   .exact .inl ⟨b',C',cs,e,by simp[Mm.up],h1,h2,h3,h5,λj p v hp hv=>bp p v (h6 j p v hp hv)⟩
   .exact .inr ⟨b',es,clk,by simp[Mm.up],rfl,h1,h3,Dx h5⟩
 .unfold jd;rw[List.pairwise_map];refine sJ ?_ hs.inj;intro x y hx hy ⟨b7,gq⟩
  have ed:∀p:Nat×List AV,(if p.1=id then (p.1,cells') else p).1=p.1:=ak
  refine⟨by rw[ed,ed];exact b7,λb C D ei ec dl d9=>?_⟩;rw[ed] at ei ec
  have clash:∀z:Nat×List AV,z∈h->z.1≠id->m.dom z.1->∀C,m.addr z.1 z.2.length=some (b',C)->(z.1≠id->∀b C C',m.dom z.1->m.dom id->m.addr z.1 z.2.length=some (b,C)->m.addr id cells.length≠some (b,C'))->False:=by
   intro z hz ka db C hC ge
   rcases bu with h|⟨C2,h⟩
   .have:=fo hs ⟨z.1,z.2,C,hz,db,hC⟩;omega
   simp_all
  by_cases h1:x.1=id
  .have h2:y.1≠id:=λe=>b7 (h1.trans e.symm)
   have k8:x.2=cells:=hs.key (id:=id) (by rw[<-h1];exact hx) hin;simp only[h1,cz,Mm.up,and_self,cV,dz] at dl;obtain⟨rfl,rfl⟩:=dl;simp only[h2,cP,Mm.up,false_and] at d9;refine clash y hy h2 ec D d9 (λ_ b C C' db eb hC i9=>?_);simp_all
  .simp only[h1,cP,Mm.up,false_and] at dl;by_cases h2:y.1=id
   .have k9:y.2=cells:=hs.key (id:=id) (by rw[<-h2];exact hy) hin;simp only[h2,cz,Mm.up,and_self,cV,dz] at d9;obtain⟨rfl,rfl⟩:=d9;refine clash x hx h1 ei C dl (λ_ b C C' db eb hC i9=>?_);simp_all
   .simp only[h2,cP,Mm.up,false_and] at d9;exact gq b C D ei ec dl d9
theorem vB(hs:cQ B h m w){id:Nat}{cells cells':List AV}(hin:(id,cells)∈h)(hd:m.dom id)(hlen:cells.length<=cells'.length){b' C':Nat}(d4:cells'.length=cells.length->m.addr id cells.length=some (b',C'))(bu:w.heap.size<=b'\/∃C,m.addr id cells.length=some (b',C))(cw:∀k,k<w.heap.size->(∀C,m.addr id cells.length≠some (k,C))->w'.heap[k]?=w.heap[k]?)(ba:∃cs e,w'.heap[b']?=some (.cells cs e (0,0))/\cs.size=C'/\cells'.length<=C'/\B.n<=b'/\∀(j:Nat)(p:AV)(v:Value),cells'[j]?=some p->cs[j]?=some v->bG B (LB m h) m w p v):cQ B (jd h id cells') (m.up id cells'.length (some (b',C'))) w'/\m.le (m.up id cells'.length (some (b',C')))/\(∀b,b<w.heap.size->¬LB m h b->¬LB (m.up id cells'.length (some (b',C'))) (jd h id cells') b)/\(∀b,b<w.heap.size->¬LB m h b->w'.heap[b]?=w.heap[b]?):=
 Ee hs hin hd hlen d4 bu cw (.inl ba)
theorem tq(hs:cQ B h m w):h.Pairwise λp q=>p.1≠q.1:=hs.inj.imp λh=>h.1
end
section
variable{P:Program}{B:Base}{m:Mm}{w w':World}{H h:bz}{n:Nat}{env:Env}{a:Act}{L:Nat->Prop}
end
def nY(P:Program)(env:Env)(h:bz)(n:Nat)(args:List Operand)(tys:List TypeId)(K:AV->bz->Nat->Prop):Prop:=
 match args,tys with
 |[s,x],[t,tx]=>
  match slE P t,slE P tx with
  |some (e,sz),some _=>
   match byE P e,fu P e,iu h sz (ev env x) with
   |some by_,some z,some (k2,news,c)=>
    match ev env s with
    |.msl id ver z' off k=>
     match bY h id with
     |some cells=>(c/\off=0/\cells.length=ver/\z'=sz/\z.length=sz/\0<sz/\k*sz<=ver/\k+k2<=1000000000/\by_<=100000/\eD news=true) /\
       K (.msl id (iv cells (k*sz) news).length sz 0 (k+k2)) (dm h id (iv cells (k*sz) news)) n
     |none=>False
    |.w own true (.sl k cells)=>
     bif own&&decide (k=0)&&cells.isEmpty then (c/\0<k2/\z.length=sz/\0<sz/\k2<=1000000000/\by_<=100000)/\K (.msl n news.length sz 0 k2) ((n,news)::h) (n+1)
     else match pvs news with
      |some q=>(c/\cells.length=k*sz/\z.length=sz/\0<sz/\k+k2<=1000000000/\by_<=100000)/\K (.w (gA q&&(own || cells.isEmpty)) false (.sl (k+k2) (cells++q))) h n
      |none=>False
    |_=>False
   |_,_,_=>False
  |_,_=>False
 |_,_=>False
def nZ(P:Program)(env:Env)(h:bz)(n:Nat)(t:TypeId)(ad x:Operand)(K:AV->bz->Nat->Prop):Prop:=
 match tyL P t,ev env ad with
 |some (sz,_),.ptr id ver off=>
  match bY h id with
  |some cells=>(cells.length=ver/\(ev env x).ok=true/\(ev env x).cells.length=sz/\off+sz<=cells.length/\eD (ev env x).cells=true)/\K (.tup []) (dm h id (setAt cells off (ev env x).cells)) n
  |none=>False
 |_,_=>False
theorem Ef(c new:List AV)(p:Nat)(hp:p<=c.length)(j:Nat):(iv c p new)[j]?=if p<=j/\j<p+new.length then new[j-p]? else c[j]?:=by
 unfold iv;split
 .rename_i e;rw[List.getElem?_append];split
  .rename_i hj;rw[bN ab]
  .rename_i hj;rw[e];split
   .rfl
   .rename_i h2;rw[List.getElem?_eq_none ab,List.getElem?_eq_none ab]
 grind
theorem KP(c new:List AV)(p:Nat)(hp:p<=c.length):(iv c p new).length=max c.length (p+new.length):=by
 unfold iv
 grind
theorem Eg:∀(us:List Value)(off:Nat)(cs:Array Value),off+us.length<=cs.size->∀j,(fL cs off us)[j]?=if off<=j/\j<off+us.length then us[j-off]? else cs[j]?
 |[],off,cs,_,j=>by
  simp only[fL,kE];rw[bN ab]
 |v::r,off,cs,h,j=>by
  simp only[fL];rw[Eg r (off+1) _ (by simp at h ⊢;omega) j]
  grind
section
variable{P:Program}{B:Base}{m:Mm}{w w':World}{H h:bz}{n:Nat}{env:Env}{a:Act}{L:Nat->Prop}
def EPost(B:Base)(h:bz)(m:Mm)(w:World)(n:Nat)(h':bz)(n':Nat)(v:AV)(v':Value)(w':World)(m':Mm):Prop:=
 m.le m'/\(∀i,m'.dom i↔m.dom i\/(n<=i/\i<n'))/\Bel B.n w w'/\cQ B h' m' w'/\(∀b,b<w.heap.size->¬LB m h b->¬LB m' h' b)/\(∀b,b<w.heap.size->¬LB m h b->w'.heap[b]?=w.heap[b]?)/\bG B (LB m' h') m' w' v v'
theorem mU{p:Nat->Prop}{n:Nat}:∀i,p i↔p i\/(n<=i/\i<n):=λi=>⟨.inl,λh=>h.elim id λh=>ab⟩
theorem Eh(hs:cQ B h m w){id:Nat}{cells:List AV}(hin:(id,cells)∈h):jd h id cells=h:=by
 unfold jd
 conv=>rhs;rw[<-List.map_id h]
 refine qV λp hp=>?_
 split
 .rename_i e;have:p.2=cells:=hs.key (id:=id) (by rw[<-e];exact hp) hin;rw[<-this];rfl
 .rfl
theorem zg{b:Nat}(hb:B.n<=b)(w:World)(cs:Array Value)(e:TypeId):Bel B.n w (fJ w b cs e):=
 ⟨rfl,rfl,by rw[KL];simp,λk hk=>vt w b cs e ab⟩
theorem Ei(hB:B.n<=w.heap.size)(o:Obj):Bel B.n w (w.drew.alloc o):=
 ⟨rfl,rfl,by rw[yT];simp,λk hk=>jy w.drew o (show k<w.heap.size by omega)⟩
theorem zh{ps:List AV}{us:List Value}(gb:eD ps=true)(hl:us.length=ps.length)(hr:∀(j:Nat)(p:AV)(u:Value),ps[j]?=some p->us[j]?=some u->bG B L m w p u):∀v∈us,v.oneCell'=true:=by
 intro v hv;obtain⟨j,hj,rfl⟩:=kD hv
 have dq:j<ps.length:=ab
 exact KO (Ec gb j ps[j] (dO dq)) (hr j ps[j] us[j] (dO dq) (dO hj))
theorem KQ(hs:cQ B h m w)(hB:B.n<=w.heap.size){t tx e sz:Nat}{ex:TypeId×Nat}{by_:Nat}{z:List AV}(ht:slE P t=some (e,sz))(bj:slE P tx=some ex)(bl:byE P e=some by_)(hz:fu P e=some z){x s:Value}{xa:AV}{k2:Nat}{news:List AV}{c:Prop}(aq:iu h sz xa=some (k2,news,c))(hc:c)(hx:bG B (LB m h) m w xa x){id ver k:Nat}{cells:List AV}(du:bG B (LB m h) m w (.msl id ver sz 0 k) s)(hg:bY h id=some cells)(c1:cells.length=ver)(c3:z.length=sz)(c4:0<sz)(c5:k*sz<=ver)(c6:k+k2<=1000000000)(c7:by_<=100000)(c8:eD news=true)(ty:TypeId):∃v' w' m',(Builtin.append_ #[t,tx] ty #[s,x]).run P w=.ok v' w'/\EPost B h m w n (dm h id (iv cells (k*sz) news)) n (.msl id (iv cells (k*sz) news).length sz 0 (k+k2)) v' w' m':=by
 have im:dm h id (iv cells (k*sz) news)=jd h id (iv cells (k*sz) news):=tn h id _ (tq hs);rw[im];obtain⟨bf,i,hi,br⟩:=jT ht;obtain⟨bk,_⟩:=jT (e:=ex.1) (z:=ex.2) bj;obtain⟨iz,vz,dp,hzero,rfl⟩:=pT hz;rw[hi] at dp;cases dp
 have cg:i.bytes<=100000:=by
  have:i.bytes=by_:=by simpa[byE,hi] using bl
  omega
 obtain⟨ax,cx,us,rfl,c9,ct,ag,d6⟩:=vr aq hc hs (λid cs e=>fZ e) hx;obtain⟨a0,cap,rfl,hk,hd,d7,h3,h4⟩:=du.nX;have hin:=fZ hg;subst c1;have i1:=KP cells news (k*sz) c5
 have i6:vz.cells.size=sz:=by rw[<-c3];simp
 by_cases b9:k+k2<=cap
 .cases ha:m.addr id cells.length with
  |none=>
   obtain⟨rfl,h5⟩:=h3 ha
   have g3:k2=0:=ab
   have dr:k=0:=ab
   subst g3;subst dr;have g6:news=[]:=iJ (by simpa using ct);have ee:us=[]:=iJ (by simpa using c9);subst g6;subst ee;have fp:cells=[]:=iJ h5
   have g2:iv cells (0*sz) []=cells:=by subst fp;simp[iv]
   rw[g2,Eh hs hin];refine⟨_,w,m,yZ bf bk hi br ty a0 0 0 0 _ ax cx rfl [] (ag w rfl) ab w (λad _=>rfl) (λ_=>rfl),Mm.le.refl m,mU,Bel.refl _ _,hs,λb _ h=>h,λb _ _=>rfl,?_⟩;trivial
  |some bc=>
   obtain⟨b,C⟩:=bc;obtain⟨h5,h6,h7⟩:=h4 b C ha;simp only[dJ] at h6 h7;obtain⟨cs,e',hh,hC,hle,hbB,a6⟩:=hs.read hin hd ha ab;have co:(k+k2)*sz<=cap*sz:=qT _ b9;have aw:(k+k2)*sz=k*sz+k2*sz:=eU _ _ _
   have d':∀ad,a0=some ad->(storeCells (ad.add (k*sz)) us).run P w=.ok () (fJ w b (fL cs (k*sz) us) e'):=by
    intro ad e
    rcases lR cap with h0|h0
    .have f8:us=[]:=iJ (by rw[c9];have:k2=0:=by omega
                           simp[this])
     subst f8;simp only[fL,storeCells];rw[tj w b cs e' hh];rfl
    .rw[h5 h0] at e;cases e;rw[Addr.jH];have:=vA (P:=P) b (0+k*sz) e' us 0 w cs hh ab (zh c8 ab d6);simp_all
   have ga:a0=none->fJ w b (fL cs (k*sz) us) e'=w:=by
    intro e
    rcases lR cap with h0|h0
    .have f8:us=[]:=iJ (by rw[c9];have:k2=0:=by omega
                           simp[this])
     subst f8;exact tj w b cs e' hh
    simp_all
   have a4:=yZ bf bk hi br ty a0 k cap k2 _ ax cx rfl us (ag w rfl) b9 _ d' ga;obtain⟨u1,u2,u3,u4⟩:=vB (w':=fJ w b (fL cs (k*sz) us) e') hs hin hd (cells':=iv cells (k*sz) news) ab (b':=b) (C':=C) (λ_=>ha) (.inr ⟨C,ha⟩)
    (λq hq b7=>vt w b _ _ (λe=>b7 C (e▸ha)))
    ⟨fL cs (k*sz) us,e',vu w b _ _ (fo hs ⟨id,cells,C,hin,hd,ha⟩),by rw[vw,hC],ab,hbB,λj p v hp hv=>by
      rw[Ef cells news (k*sz) c5] at hp;rw[Eg us (k*sz) cs ab] at hv;rw[c9,<-ct] at hv
      grind⟩
   refine⟨_,_,_,a4,u2,mU,zg hbB w _ _,u1,u3,u4,?_⟩;refine .msl hd (by simp[Mm.up]) b9 (λe=>?_) (λb' C' e=>?_)
   .simp[Mm.up] at e
   .simp only[Mm.up,and_self,cz,cV,dz] at e
    grind
 .have hold:∃os:List Value,os.length=k*sz/\(Builtin.firstCells sz k (.slice a0 k cap)).run P w.drew=.ok os.toArray w.drew/\∀(j:Nat)(p:AV)(v:Value),j<k*sz->cells[j]?=some p->os[j]?=some v->bG B (LB m h) m w p v:=by
   cases ha:m.addr id cells.length with
   |none=>
    obtain⟨rfl,h5⟩:=h3 ha
    have dr:k=0:=ab
    subst dr;exact⟨[],ae,nH sz 0 a0 0 [] ae (λ_=>ae) (λ_ _ j u hj=>by simp at hj),λj p v hj=>by simp at hj⟩
   |some bc=>
    obtain⟨b,C⟩:=bc;obtain⟨h5,h6,h7⟩:=h4 b C ha;obtain⟨cs,e',hh,hC,hle,hbB,a6⟩:=hs.read hin hd ha ab;refine⟨(List.range (k*sz)).map (λj=>cs.getD j undef),ae,nH sz k a0 cap _ ae (λe=>?_) (λad e j u hj=>?_),λj p v hj hp hv=>?_⟩
    .simp_all
    .obtain⟨y,hy,rfl⟩:=gv hj;obtain⟨b6,rfl⟩:=fg.1 hy;simp only[sH] at b6;simp only[sI]
     have fq:0<cap:=by
      grind
     rw[h5 fq] at e;cases e
     have dq:j<cs.size:=ab
     rw[Addr.jH,dJ];show w.cell? _=_;rw[nG hh];simp[dq]
    .have dq:j<cs.size:=ab
     simp only[jm,CV hj,dZ,cV] at hv;exact a6 j p v hp (by rw[<-hv];simp[dq])
  obtain⟨os,j8,bb,i3⟩:=hold;obtain⟨nc,rest,dg,d3,a4⟩:=y9 bf bk hi br hzero ty a0 k cap k2 _ ax cx rfl us os (ag w.drew rfl) bb b9 c6 cg;have co:cap*sz<(k+k2)*sz:=Nat.mul_lt_mul_of_pos_right ab c4;have aw:(k+k2)*sz=k*sz+k2*sz:=eU _ _ _
  have b6:cells.length<k*sz+news.length:=by
   cases ha:m.addr id cells.length with
   |none=>simp_all
   |some bc=>grind
  have bq:(os.toArray++us.toArray++rest).size=nc*sz:=by
   have:(nc-(k+k2))*sz=nc*sz-(k+k2)*sz:=Nat.sub_mul _ _ _;have h9:(k+k2)*sz<=nc*sz:=qT _ dg;simp_all
  have g7:(k+k2)*sz<=nc*sz:=qT _ dg;obtain⟨u1,u2,u3,u4⟩:=vB (w':=w.drew.alloc (.cells (os.toArray++us.toArray++rest) e)) hs hin hd (cells':=iv cells (k*sz) news) ab (b':=w.heap.size) (C':=nc*sz) (λe=>ab) (.inl (bU _))
   (λq hq b7=>jy w.drew _ hq)
   ⟨_,e,vk w.drew _,bq,ab,hB,λj p v hp hv=>by
     rw[Ef cells news (k*sz) c5] at hp;rw[uS,xY] at hv
     grind⟩
  refine⟨_,_,_,a4,u2,mU,Ei hB _,u1,u3,u4,?_⟩;refine .msl hd (by simp[Mm.up]) dg (λe=>?_) (λb' C' e=>?_)
  .simp[Mm.up] at e
  .simp only[Mm.up,and_self,cz,cV,dz] at e
   grind
end
end Go.Fi
namespace Go.Fi
open Go Go.RowKit
variable[bE]
section
variable{P:Program}{B:Base}{m:Mm}{w w':World}{H h:bz}{n:Nat}{env:Env}{a:Act}{L:Nat->Prop}
section
omit [bE]
theorem vC{c:List AV}(ao:¬m.dom n)(b:Nat):LB m ((n,c)::h) b↔LB m h b:=by
 constructor
 .rintro⟨id,cs,C,hin,hd,ha⟩
  rcases dU.1 hin with e|e
  .simp_all
  .exact⟨id,cs,C,e,hd,ha⟩
 .rintro⟨id,cs,C,hin,hd,ha⟩
  exact⟨id,cs,C,eY _ hin,hd,ha⟩
theorem zi(hs:cQ B h m w){c:List AV}(ao:¬m.dom n)(b7:∀id cs,(id,cs)∈h->id≠n):cQ B ((n,c)::h) m w:=by
 have hL:LB m ((n,c)::h)=LB m h:=funext λb=>propext (vC ao b)
 refine⟨λid cells hin hd=>?_,?_⟩
 .rw[hL]
  rcases dU.1 hin with e|e
  .simp_all
  .exact hs.entry id cells e hd
 .refine Ju.2 ⟨λy hy=>⟨λe=>b7 y.1 y.2 hy e.symm,λb C C' hd=>absurd hd ao⟩,hs.inj⟩
theorem KR(hs:cQ B h m w)(ao:¬m.dom n)(b7:∀id cs,(id,cs)∈h->id<n)(hB:B.n<=w.heap.size){t tx e sz:Nat}{ex:TypeId×Nat}{by_:Nat}{z:List AV}(ht:slE P t=some (e,sz))(bj:slE P tx=some ex)(bl:byE P e=some by_)(hz:fu P e=some z){x s:Value}{xa:AV}{k2:Nat}{news:List AV}{c:Prop}(aq:iu h sz xa=some (k2,news,c))(hc:c)(hx:bG B (LB m h) m w xa x){own:Bool}(du:bG B (LB m h) m w (.w own true (.sl 0 [])) s)(c1:0<k2)(c3:z.length=sz)(c6:k2<=1000000000)(c7:by_<=100000)(ty:TypeId):∃v' w' m',(Builtin.append_ #[t,tx] ty #[s,x]).run P w=.ok v' w'/\EPost B h m w n ((n,news)::h) (n+1) (.msl n news.length sz 0 k2) v' w' m':=by
 have ek:=zi (c:=news) hs ao (λid cs hin=>by have:=b7 id cs hin;omega)
 have hL:LB m ((n,news)::h)=LB m h:=funext λb=>propext (vC ao b)
 obtain⟨bf,i,hi,br⟩:=jT ht;obtain⟨bk,_⟩:=jT (e:=ex.1) (z:=ex.2) bj;obtain⟨iz,vz,dp,hzero,rfl⟩:=pT hz;rw[hi] at dp;cases dp
 have cg:i.bytes<=100000:=by
  have:i.bytes=by_:=by simpa[byE,hi] using bl
  omega
 obtain⟨ax,cx,us,rfl,c9,ct,ag,d6⟩:=vr aq hc hs (λid cs e=>fZ e) hx;obtain⟨a0,cap,rfl,_,cm,_,_⟩:=du.nW;have b8:=cm rfl;subst b8
 have i6:vz.cells.size=sz:=by rw[<-c3];simp
 obtain⟨nc,rest,dg,d3,a4⟩:=y9 bf bk hi br hzero ty a0 0 0 k2 _ ax cx rfl us [] (ag w.drew rfl)
  (nH sz 0 a0 0 [] ae (λ_=>ae) (λ_ _ j u hj=>by simp at hj)) ab ab cg
 simp only[dJ] at dg d3 a4;have g7:k2*sz<=nc*sz:=qT _ dg
 have bq:(#[]++us.toArray++rest).size=nc*sz:=by
  have:(nc-k2)*sz=nc*sz-k2*sz:=Nat.sub_mul _ _ _;simp_all
 have gh:cQ B ((n,news)::h) (m.new n news.length (some (w.heap.size,nc*sz))) (w.drew.alloc (.cells (#[]++us.toArray++rest) e)):=by
  rw[<-bq]
  exact DK (w:=w.drew) (ek.below (w':=w.drew) (Bel.refl _ _).drew) hB (id:=n) (cells:=news) (iZ) ao (#[]++us.toArray++rest) e (by rw[bq];omega) (λj p v hp hv=>by
  have hj:=(fg.1 hp).1;rw[Array.empty_append,xY,mP,cu ab,xW] at hv;rw[hL]
  exact (d6 j p v hp hv).mono (Mm.le.refl m) (λ_ _ h=>h) (λ_ _ _=>rfl))
 refine⟨_,_,m.new n news.length (some (w.heap.size,nc*sz)),a4,Mm.uq ao,λi=>?_,Ei hB _,gh,λb hb hn hl=>?_,λb hb _=>jy w.drew _ hb,?_⟩
 .simp only[Mm.new]
  grind
 .rcases te (w:=w) ek (iZ) hl with h1|⟨C,h1⟩
  .rw[hL] at h1;exact hn h1
  simp_all
 .refine .msl (Or.inr rfl) a8 dg (λe=>?_) (λb' C' e=>?_)
  .simp[Mm.new] at e
  .simp only[Mm.new,and_self,cz,cV,dz] at e;simp_all
theorem KS(hs:cQ B h m w)(hB:B.n<=w.heap.size){t tx e sz:Nat}{ex:TypeId×Nat}{by_:Nat}{z:List AV}(ht:slE P t=some (e,sz))(bj:slE P tx=some ex)(bl:byE P e=some by_)(hz:fu P e=some z){x s:Value}{xa:AV}{k2:Nat}{news:List AV}{c:Prop}(aq:iu h sz xa=some (k2,news,c))(hc:c)(hx:bG B (LB m h) m w xa x){q:List PV}(hq:pvs news=some q){own:Bool}{k:Nat}{cells:List PV}(du:bG B (LB m h) m w (.w own true (.sl k cells)) s)(c1:cells.length=k*sz)(c3:z.length=sz)(c6:k+k2<=1000000000)(c7:by_<=100000)(ty:TypeId):∃v' w' m',(Builtin.append_ #[t,tx] ty #[s,x]).run P w=.ok v' w'/\EPost B h m w n h n (.w (gA q&&(own || cells.isEmpty)) false (.sl (k+k2) (cells++q))) v' w' m':=by
 obtain⟨v',w',a4,hb,ek,hv⟩:=DZ hs (λid cs e=>fZ e) hB ht bj bl hz aq hc hx hq du c1 c3 c6 c7 ty;exact⟨v',w',m,a4,Mm.le.refl m,mU,hb.mono hB,ek,λb _ h=>h,λb bu _=>hb.block b bu,hv⟩
end
end
end Go.Fi
namespace Go.Fi
open Go Go.RowKit
def shr(sz k:Nat):AV->AV
 |.msl id ver z off k2=>.msl id ver z off (min k2 k)
 |.w own _ (.sl k2 c)=>.w own false (.sl (min k2 k) (c.take (min k2 k*sz)))
 |x=>x
def pf(P:Program)(h:bz)(t:TypeId)(d x:AV):Option (Prop×AV×bz):=
 match slE P t,d with
 |some (_,sz),.msl id ver z' off k=>
  match bY h id,iu h sz (shr sz k x) with
  |some cells,some (kk,news,c)=>some ((c/\cells.length=ver/\z'=sz/\off+k*sz<=ver/\eD news=true),.w false false (.int .i64 kk),dm h id (setAt cells off news))
  |_,_=>none
 |_,_=>none
def rP(P:Program)(h:bz)(args:List AV)(tys:List TypeId):Option (Prop×AV×bz):=
 match args,tys with
 |[d,x],t::_=>pf P h t d x
 |_,_=>none
def n9(P:Program)(env:Env)(h:bz)(n:Nat)(args:List Operand)(tys:List TypeId)(K:AV->bz->Nat->Prop):Prop:=
 match rP P h (args.map (ev env)) tys with
 |some (c,v,h')=>c/\K v h' n
 |none=>False
section
variable{P:Program}{B:Base}{m:Mm}{w w':World}{H h:bz}{n:Nat}{env:Env}{a:Act}{L:Nat->Prop}
theorem KT{sz k:Nat}{x:AV}{v:Value}{y:Nat×List AV×Prop}(h0:iu h sz (shr sz k x)=some y)(hx:bG B L m w x v):∃a0 k2 cap,v=.slice a0 k2 cap/\y.1=min k2 k/\bG B L m w (shr sz k x) (.slice a0 (min k2 k) cap):=by
 cases x with
 |msl id ver z off k2=>
  obtain⟨a0,cap,rfl,h1,h2,h3,h4,h5⟩:=hx.nX;refine⟨a0,k2,cap,rfl,?_,.msl h2 h3 ab h4 h5⟩;simp only[shr,iu] at h0
  grind
 |w own f p=>
  cases p with
  |sl k2 c=>
   obtain⟨a0,cap,rfl,h1,h2,h3,h4⟩:=hx.nW;refine⟨a0,k2,cap,rfl,?_,?_⟩
   .simp only[shr,iu] at h0
    grind
   .simp only[shr];refine .w ?_ nofun
    cases hc:c with
    |nil=>
     cases ha:a0 with
     |none=>
      obtain⟨rfl,rfl⟩:=h3 ha;simp only[List.take_nil,Nat.zero_min];exact .slnil
     |some a=>
      simp only[List.take_nil];exact .slz ab
    |cons y ys=>
     obtain⟨b,off,vals,rfl,h5,h6,h7⟩:=h4 (by rw[hc];simp);rw[<-hc];refine .sl vals ab (λj hj=>h5 j (by simp at hj;omega)) (λ_=>h6) (λj q hq=>?_);rw[lQ] at hq;simp_all
  |_=>simp[shr,iu] at h0
 |_=>simp[shr,iu] at h0
theorem KU(hs:cQ B h m w){t:TypeId}{d x:AV}{dv xv:Value}{c:Prop}{v:AV}{h':bz}(hr:pf P h t d x=some (c,v,h'))(hc:c)(hd:bG B (LB m h) m w d dv)(hx:bG B (LB m h) m w x xv)(tys:List TypeId)(ty:TypeId):∃v' w' m',(Builtin.copy_ (t::tys).toArray ty #[dv,xv]).run P w=.ok v' w'/\EPost B h m w n h' n v v' w' m':=by
 unfold pf at hr;split at hr
 .rename_i e sz id ver z' off k ht;split at hr
  .rename_i cells kk news c' hg aq;cases hr;obtain⟨c0,c1,c2,c3,c4⟩:=hc;subst c2;subst c1;obtain⟨bf,i,hi,br⟩:=jT ht;obtain⟨ax,k2,cx,rfl,aw,k0⟩:=KT aq hx;simp only at aw;obtain⟨k3,k4,us,hv,c9,ct,ag,d6⟩:=vr aq c0 hs (λid cs e=>fZ e) k0
   injection hv with jg k7 ji
   subst jg ji
   have b4:(Builtin.firstCells z' kk (.slice ax k2 cx)).run P w=.ok us.toArray w:=by
    have:=ag w rfl;rw[<-aw] at this;rw[<-this]
    cases ax<;>rfl
   obtain⟨a0,cap,rfl,hk,bi,d7,h3,h4⟩:=hd.nX;rw[tn h id _ (tq hs)];have hin:=fZ hg;have co:kk*z'<=k*z':=qT _ ab
   cases ha:m.addr id cells.length with
   |none=>
    obtain⟨rfl,h5⟩:=h3 ha
    have dr:kk=0:=ab
    have fp:cells=[]:=iJ h5;subst fp;have ee:us=[]:=iJ (by rw[c9,dr];simp);have g6:news=[]:=iJ (by rw[ct,dr];simp);subst ee g6;have cp:Nat.min k2 k=kk:=aw.symm;have dt:jd h id (setAt [] off [])=h:=Eh hs hin;refine⟨.int .i64 kk,w,m,?_,Mm.le.refl m,mU,Bel.refl _ _,?_,λb _ h=>?_,λb _ _=>rfl,.w (.int _ _) nofun⟩
    .cases a0 with
     |none=>simp[Builtin.copy_,run_underlying bf,sizeOf,typeInfo,hi,br,Builtin.lenOf,cp,b4,goInt]
     |some ad=>simp[Builtin.copy_,run_underlying bf,sizeOf,typeInfo,hi,br,Builtin.lenOf,cp,b4,goInt,storeCells]
    .have:=hs;rw[<-dt] at this;exact this
    .have h2:=h;rw[<-dt] at h2;exact h2
   |some bc=>
    obtain⟨b,C⟩:=bc;obtain⟨h5,h6,h7⟩:=h4 b C ha;obtain⟨cs,e',hh,hC,hle,hbB,a6⟩:=hs.read hin bi ha ab;have hlen:(setAt cells off news).length=cells.length:=vm _ _ _;have d':=vA (P:=P) b off e' us 0 w cs hh ab (zh c4 ab d6);simp only[oH] at d';have cp:Nat.min k2 k=kk:=aw.symm
    have a4:(Builtin.copy_ (t::tys).toArray ty #[.slice a0 k cap,.slice ax k2 cx]).run P w=.ok (.int .i64 kk) (fJ w b (fL cs off us) e'):=by
     cases a0 with
     |none=>
      have b8:cap=0:=by
       grind
      have ee:us=[]:=iJ (by rw[c9,show kk=0 by omega];simp);subst ee;simp only[fL];rw[tj w b cs e' hh];simp[Builtin.copy_,run_underlying bf,sizeOf,typeInfo,hi,br,Builtin.lenOf,cp,b4,goInt]
     |some ad=>
      have gi:(storeCells ad us).run P w=.ok () (fJ w b (fL cs off us) e'):=by
       rcases lR cap with h0|h0
       .have ee:us=[]:=iJ (by rw[c9,show kk=0 by omega];simp);subst ee;simp only[fL,storeCells];rw[tj w b cs e' hh];rfl
       grind
      simp[Builtin.copy_,run_underlying bf,sizeOf,typeInfo,hi,br,Builtin.lenOf,cp,b4,goInt,gi]
    obtain⟨u1,u2,u3,u4⟩:=vB (w':=fJ w b (fL cs off us) e') hs hin bi (cells':=setAt cells off news) ab (b':=b) (C':=C) (λ_=>ha) (.inr ⟨C,ha⟩)
     (λq hq b7=>vt w b _ _ (λe=>b7 C (e▸ha)))
     ⟨fL cs off us,e',vu w b _ _ (fo hs ⟨id,cells,C,hin,bi,ha⟩),by rw[vw,hC],ab,hbB,
       (ze news us off cells cs ⟨ab,a6⟩ ab d6).2⟩
    exact⟨_,_,_,a4,u2,mU,zg hbB w _ _,u1,u3,u4,.w (.int _ _) nofun⟩
  .cases hr
 .cases hr
end
end Go.Fi
namespace Go.Fi
open Go Go.RowKit
variable[bE]
structure St where
 env:Env
 heap:bz
 nxt:Nat
 nt:Nat
def AV.lt(n:Nat):AV->Bool
 |.w _ _ _=>true
 |.ptr id _ _=>decide (id<n)
 |.msl id _ _ _ _=>decide (id<n)
 |.mp id=>decide (id<n)
 |.agg cs=>ltL n cs
 |.tup cs=>ltL n cs
 |.fn _ cs=>ltL n cs
where ltL (n:Nat):List AV->Bool
 |[]=>true
 |x::r=>x.lt n&&ltL n r
section
omit [bE]
theorem oL{n:Nat}:∀{l:List AV},AV.lt.ltL n l=true->∀(j:Nat)(x:AV),l[j]?=some x->x.lt n=true
 |[],_,j,x,h=>by simp at h
 |y::l,hp,j,x,h=>by
  simp only[AV.lt.ltL,fe] at hp
  cases j with
  |zero=>simp_all
  |succ j=>exact oL hp.2 j x av
theorem bG.BN{B:Base}{L L':Nat->Prop}{m:Mm}{w:World}{x:AV}{v:Value}(h:bG B L m w x v){n:Nat}(hl:x.lt n=true)(hL:∀b,L' b->L b):bG B L' { m with dom:=λi=>i<n } w x v:=by
 induction h with
 |w hr hf=>exact .w (hr.imp λb hg=>⟨λhb=>hg.1 (hL b hb),hg.2⟩) hf
 |ptr hd ht ha hC=>exact .ptr (by simpa[AV.lt] using hl) ht ha hC
 |mp hd ht ha=>exact .mp (by simpa[AV.lt] using hl) ht ha
 |msl hd ht hn h0 h1=>exact .msl (by simpa[AV.lt] using hl) ht hn h0 h1
 |agg hlen _ ih=>exact .agg hlen (λj p v hp hv=>ih j p v hp hv (oL aE j p hp))
 |tup hlen _ ih=>exact .tup hlen (λj p v hp hv=>ih j p v hp hv (oL aE j p hp))
 |fn hlen _ ih=>exact .fn hlen (λj p v hp hv=>ih j p v hp hv (oL aE j p hp))
theorem AV.rQ{n n':Nat}(hn:n<=n'):∀{x:AV},x.lt n=true->x.lt n'=true
 |.w _ _ _,_=>rfl
 |.ptr _ _ _,h=>by simp only[AV.lt,decide_eq_true_eq] at h ⊢;omega
 |.msl _ _ _ _ _,h=>by simp only[AV.lt,decide_eq_true_eq] at h ⊢;omega
 |.mp _,h=>by simp only[AV.lt,decide_eq_true_eq] at h ⊢;omega
 |.agg cs,h=>xp hn (cs:=cs) h
 |.tup cs,h=>xp hn (cs:=cs) h
 |.fn _ cs,h=>xp hn (cs:=cs) h
where xp {n n':Nat} (hn:n<=n'):∀{cs:List AV},AV.lt.ltL n cs=true->AV.lt.ltL n' cs=true
 |[],_=>rfl
 |x::r,h=>by
  simp only[AV.lt.ltL,fe] at h ⊢;exact⟨AV.rQ hn h.1,xp hn h.2⟩
end
structure RI where
 l:Nat
 env:Env
 nt:Nat
 ps:Array Tmp
 assign:Code
 body:Code
structure Fk where
 k:Nat
 ri:Option RI
abbrev fk0:Fk:=⟨0,none⟩
def marks(ds:List Nat):List Deferred:=ds.map λD=>{ target:=.collected D,args:=#[] }
def dj(ri:RI)(fn:FuncId)(T:Array Value)(D:Nat)(s:LoopState)(p:Option Code):Obj:=.loop { state:=s,pending:=p,fn:=fn,tmps:=T,params:=ri.ps,assign:=ri.assign,body:=ri.body,defers:=D }
def Q4(ri:RI)(F:List (AV×Value))(obs:List (Nat×Obj)):Prop:=
 ∃fn T D,(ri.l,dj ri fn T D .ready none)∈obs/\T.size=ri.nt/\∀t v,(t,v)∈ri.env->(get ri.env t,T.getD t undef)∈F
def HZ(fk:Fk)(F:List (AV×Value))(obs:List (Nat×Obj)):Prop:=∀ri,fk.ri=some ri->Q4 ri F obs
structure Ctx(fk:Fk) where
 w:World
 F:List (AV×Value)
 r:Option Nat
 obs:List (Nat×Obj)
 ds:List Nat
 dj:HZ fk F obs
 ok:bE.ok w
def pg(B:Base){fk:Fk}(w0:Ctx fk)(L:Nat->Prop)(m:Mm)(w:World)(n:Nat):Prop:=
 fk.k<=n/\(∀p∈w0.F,p.1.lt fk.k=true/\bG B L m w p.1 p.2)/\∀q∈w0.obs,B.n<=q.1/\q.1<w.heap.size/\¬L q.1/\w.heap[q.1]?=some q.2
theorem pg.mono{B:Base}{fk:Fk}{w0:Ctx fk}{L L':Nat->Prop}{m m':Mm}{w w':World}{n n':Nat}(h:pg B w0 L m w n)(hm:m.le m')(hL:∀b,b<w.heap.size->¬L b->¬L' b)(hw:∀b,b<w.heap.size->¬L b->w'.heap[b]?=w.heap[b]?)(hn:n<=n'):pg B w0 L' m' w' n':=
 ⟨dN h.1 hn,λp hp=>⟨(h.2.1 p hp).1,(h.2.1 p hp).2.mono hm hL hw⟩,λq hq=>by
   obtain⟨h1,h2,h3,h4⟩:=h.2.2 q hq;have h5:=(hw q.1 h2 h3).trans h4
   grind⟩
structure Sim{fk:Fk}(B:Base)(w0:Ctx fk)(st:St)(a:Act)(w:World)(m:Mm):Prop where
 base:B.n=w0.w.heap.size
 below:Bel B.n w0.w w
 defers:a.defers=marks w0.ds
 size:a.tmps.size=st.nt
 env:∀t,bG B (LB m st.heap) m w (get st.env t) (a.tmps.getD t undef)
 heap:cQ B st.heap m w
 dom:∀i,m.dom i↔i<st.nxt
 ids:∀id c,(id,c)∈st.heap->id<st.nxt
 fr:pg B w0 (LB m st.heap) m w st.nxt
theorem Sim.ok{fk:Fk}{B:Base}{w0:Ctx fk}{st:St}{a:Act}{w:World}{m:Mm}(h:Sim B w0 st a w m):bE.ok w:=
 bE.keep w0.ok (by have:=h.below;rw[h.base] at this;exact this)
theorem Sim.room{fk:Fk}{B:Base}{w0:Ctx fk}{st:St}{a:Act}{w:World}{m:Mm}(h:Sim B w0 st a w m):B.n<=w.heap.size:=by
 have:=h.below.size;have:=h.base;omega
theorem Sim.bel{fk:Fk}{B:Base}{w0:Ctx fk}{st:St}{a:Act}{w w':World}{m:Mm}(h:Sim B w0 st a w m)(hb:Bel w.heap.size w w'):Sim B w0 st a w' m:=
 ⟨h.base,h.below.trans (hb.mono h.room),h.defers,h.size,λt=>(h.env t).mono (Mm.le.refl m) (λ_ _ x=>x) (λb hl _=>hb.block b hl),h.heap.below hb,h.dom,h.ids,
   h.fr.mono (Mm.le.refl m) (λ_ _ x=>x) (λb hl _=>hb.block b hl) (bU _)⟩
theorem Sim.move{fk:Fk}{B:Base}{w0:Ctx fk}{st:St}{a:Act}{w w':World}{m:Mm}(h:Sim B w0 st a w m)(e:EnvD.E w w'):Sim B w0 st a w' m:=h.bel (EnvD.ext e)
def dOk(nt:Nat):Option Nat->Prop
 |some d=>d<nt
 |none=>True
section
variable{P:Program}{B:Base}{m:Mm}{w w':World}{H h:bz}{n:Nat}{env:Env}{a:Act}{L:Nat->Prop}
section
omit [bE]
theorem KW(hs:cQ B h m w){t sz:Nat}{g:Bool}(ht:tyL P t=some (sz,g)){id ver off:Nat}{ad xv:Value}{x:AV}{cells:List AV}(fl:bG B (LB m h) m w (.ptr id ver off) ad)(hx:bG B (LB m h) m w x xv)(hg:bY h id=some cells)(c1:cells.length=ver)(c2:x.ok=true)(c3:x.cells.length=sz)(c4:off+sz<=cells.length)(c5:eD x.cells=true):∃w' m',(Instr.storeAt t ad xv).run P w=.ok () w'/\EPost B h m w n (dm h id (setAt cells off x.cells)) n (.tup []) undef w' m':=by
 rw[tn h id _ (tq hs)];obtain⟨b,C,rfl,hd,hvC,ha⟩:=fl.pb;rw[<-c1] at ha hvC;have hin:=fZ hg;obtain⟨cs,e',hh,hC,hle,hbB,a6⟩:=hs.read hin hd ha hvC.2;obtain⟨h1,h2⟩:=vd hx c2;obtain⟨i,d,hi,br,_,_⟩:=DH (w:=w) ht;have hlen:(setAt cells off x.cells).length=cells.length:=vm _ _ _
 have d6:∀(j:Nat)(p:AV)(u:Value),x.cells[j]?=some p->xv.cells.toList[j]?=some u->bG B (LB m h) m w p u:=λj p u hp hu=>h2 j p u hp (by rw[<-jo];exact hu)
 have d':=vA (P:=P) b off e' xv.cells.toList 0 w cs hh ar (zh c5 ar d6);simp only[oH] at d'
 have a4:(Instr.storeAt t (.pointer (some ⟨b,off,none⟩)) xv).run P w=.ok () (fJ w b (fL cs off xv.cells.toList) e'):=by
  have gk:xv.cells.size=i.size:=ab
  simp[Instr.storeAt,Instr.sureAddr,storeVar,sizeOf,typeInfo,hi,gk,d']
 obtain⟨u1,u2,u3,u4⟩:=vB (w':=fJ w b (fL cs off xv.cells.toList) e') hs hin hd (cells':=setAt cells off x.cells) ab (b':=b) (C':=C) (λ_=>ha) (.inr ⟨C,ha⟩)
  (λq hq b7=>vt w b _ _ (λe=>b7 C (e▸ha)))
  ⟨fL cs off xv.cells.toList,e',vu w b _ _ (fo hs ⟨id,cells,C,hin,hd,ha⟩),by rw[vw,hC],ab,hbB,
    (ze x.cells xv.cells.toList off cells cs ⟨ab,a6⟩ ab d6).2⟩
 exact⟨_,_,a4,u2,mU,zg hbB w _ _,u1,u3,u4,.tup rfl (λj p v hp=>by simp at hp)⟩
theorem nJ(env:Env)(a:Act)(d:Option Nat)(v:AV)(v':Value)(hd:dOk a.tmps.size d)(hv:bG B L m w v v')(he:∀t,bG B L m w (get env t) (a.tmps.getD t undef)):∀t,bG B L m w (get (put env d v) t) ((a.put d v').tmps.getD t undef):=by
 intro t
 cases d with
 |none=>exact he t
 |some d=>
  simp only[put,get,Act.put];by_cases ik:d=t
  .subst ik;simp only[cz];rw[dC,iX];simp only[cz];rw[cu (show d<a.tmps.size from hd)];exact hv
  simp_all
theorem kU(a:Act)(d:Option Nat)(v:Value):(a.put d v).tmps.size=a.tmps.size:=by cases d<;>simp[Act.put]
theorem kX(a:Act)(d:Option Nat)(v:Value):(a.put d v).defers=a.defers:=by cases d<;>rfl
theorem kY:∀(E:List (List AV))(h:bz)(n:Nat)(id:Nat)(c:List AV),(id,c)∈ck h n E↔(id,c)∈h\/∃k,E[k]?=some c/\id=n+k
 |[],h,n,id,c=>by simp[ck]
 |x::E,h,n,id,c=>by
  simp only[ck,dU,dz,kY E h (n+1) id c];constructor
  .rintro (⟨rfl,rfl⟩|h1|⟨k,h1,rfl⟩)
   .exact .inr ⟨0,rfl,rfl⟩
   .exact .inl h1
   .exact .inr ⟨k+1,by simpa using h1,ab⟩
  grind
theorem vD:∀(E:List (List AV))(h:bz)(n:Nat),cQ B h m w->(∀i,n<=i->¬m.dom i)->(∀id c,(id,c)∈h->id<n)->cQ B (ck h n E) m w/\LB m (ck h n E)=LB m h
 |[],h,n,hs,_,_=>⟨hs,rfl⟩
 |x::E,h,n,hs,hd,hi=>by
  have ao:=hd n (bU _);obtain⟨h1,h2⟩:=vD E h (n+1) hs (λi hi=>hd i ab) (λid c hin=>by have:=hi id c hin;omega)
  have:=zi (c:=x) h1 ao (λid c hin=>by
   rcases (kY E h (n+1) id c).1 hin with h3|⟨k,_,rfl⟩
   .have:=hi id c h3;omega
   .omega)
  refine⟨this,?_⟩;show LB m ((n,x)::ck h (n+1) E)=_;rw[show LB m ((n,x)::ck h (n+1) E)=LB m (ck h (n+1) E) from funext λb=>propext (vC ao b),h2]
end
def mg(s:ByteArray):List PV:=s.data.toList.map λb=>PV.int .u8 b.toNat
def rR(P:Program)(src dst:TypeId):Bool:=
 match P.underlying src,P.underlying dst with
 |some _,some (.slice e)=>match P.underlying e with
  |some (.int .u8)=>true
  |_=>false
 |_,_=>false
omit [bE] in
theorem KX(hs:cQ B h m w)(hB:B.n<=w.heap.size){src dst:TypeId}(hb:rR P src dst=true)(s:ByteArray):∃v' w',(convert src dst (.string s)).run P w=.ok v' w'/\EPost B h m w n h n (.w true false (.sl s.size (mg s))) v' w' m:=by
 unfold rR at hb;split at hb
 .rename_i u e hu hd;split at hb
  .rename_i he
   refine⟨_,_,Lib.run_convert_string_bytes w src dst e s hu hd he,Mm.le.refl m,mU,⟨rfl,rfl,by rw[Lib.bytesWorld_size];simp,λk hk=>Lib.bytesWorld_at_old w e s k ab⟩,
    hs.below ⟨rfl,rfl,by rw[Lib.bytesWorld_size];simp,λb hb=>Lib.bytesWorld_at_old w e s b hb⟩,λb _ h=>h,λb hb _=>Lib.bytesWorld_at_old w e s b hb,.w ?_ nofun⟩
   have hlen:(mg s).length=s.size:=by simp[mg]
   have b8:s.size<=grownCap w s.size 0 e:=grownCap_ge w _ _ e;refine .sl (b:=w.heap.size) (off:=0) (λj=>.int .u8 (s.data.toList.getD j 0).toNat) b8 (λj hj=>?_) (λ_=>⟨λhl=>?_,λ_=>hB,λhl=>?_⟩) (λj p hp=>?_)
   .rw[dJ];exact Lib.bytesWorld_cell w e s j ab
   .have:=fo hs hl;omega
   .omega
   .unfold mg at hp;rw[jm] at hp;obtain⟨b,el,rfl⟩:=sS.1 hp
    have:s.data.toList.getD j 0=b:=by rw[dT,el];rfl
    rw[this];exact .int _ _
  .cases hb
 .cases hb
def qy(P:Program)(env:Env)(h:bz)(n:Nat)(src dst:TypeId)(x:Operand)(K:AV->bz->Nat->Prop):Prop:=
 match ev env x with
 |.w _ _ (.str s)=>rR P src dst=true/\K (.w true false (.sl s.size (mg s))) h n
 |_=>de P env h n (.convert src dst x) λv E=>K v (ck h n E) (n+E.length)
def Q5(P:Program)(h:bz)(n:Nat)(t:TypeId)(K:AV->bz->Nat->Prop):Prop:=(lq P t).isSome=true/\K (.mp n) ((n,[gz []])::h) (n+1)
def oe(P:Program)(env:Env)(h:bz)(n:Nat)(t:TypeId)(m k v:Operand)(K:AV->bz->Nat->Prop):Prop:=
 match ev env m with
 |.mp id=>match (bY h id).bind fI,ev env k,ev env v,lq P t with
  |some l,.w _ _ kp,.w _ _ vp,some (d,_)=>(okM d kp l=true/\isLit vp=true)/\K (.tup []) (dm h id [gz (iO l kp vp)]) n
  |_,_,_,_=>False
 |_=>False
def df(P:Program)(env:Env)(h:bz)(n:Nat)(op:Op)(K:AV->bz->Nat->Prop):Prop:=
 match op with
 |.store t ad x=>nZ P env h n t ad x K
 |.call { callee:=.builtin .append,args:=args,argTypes:=tys }=>nY P env h n args.toList tys.toList K
 |.call { callee:=.builtin .copy,args:=args,argTypes:=tys }=>n9 P env h n args.toList tys.toList K
 |.convert src dst x=>qy P env h n src dst x K
 |.makeMap t none=>Q5 P h n t K
 |.mapUpdate t m k v=>oe P env h n t m k v K
 |op=>de P env h n op λv E=>K v (ck h n E) (n+E.length)
section
omit [bE]
theorem KY{d:TypeDesc}{k v:PV}(hk:okK d k=true){es:Array MapEntry}{l:List (PV×PV)}(bw:nT es l)(hl:∀p∈l,okK d p.1=true):(∀i q,gp l k 0=some (i,q)->nT (es.modify i λe=>{ e with key:=dL k,val:=dL v }) (iO l k v))/\(gp l k 0=none->∀clk,nT (es.push { key:=dL k,val:=dL v,born:=clk }) (iO l k v)):=by
 have gen:∀(l:List (PV×PV))(s:Nat)(q:PV)(i:Nat),gp l k s=some (i,q)->s<=i/\i-s<l.length/\iO l k v=l.set (i-s) (k,v):=by
  intro l
  induction l with
  |nil=>intro s q i h;cases h
  |cons p r ih=>
   intro s q i h;unfold gp at h;unfold iO;split at h
   .simp_all
   .rename_i hp;rw[bN hp];obtain⟨h1,h2,h3⟩:=ih (s+1) q i h;refine⟨ab,ak,?_⟩;rw[h3,show i-s=(i-(s+1))+1 by omega];rfl
 have gen2:∀(l:List (PV×PV))(s:Nat),gp l k s=none->iO l k v=l++[(k,v)]:=by
  intro l
  induction l with
  |nil=>intro s _;rfl
  |cons p r ih=>
   intro s h;unfold gp at h;unfold iO
   grind
 refine⟨λi q h=>?_,λh clk=>?_⟩
 .obtain⟨_,h2,h3⟩:=gen l 0 q i h;rw[Nat.sub_zero] at h2 h3;rw[h3];refine⟨by simp[bw.1],λj p e hp he=>?_⟩;rw[Jp] at hp;rw[fB] at he;by_cases g1:i=j
  .grind
  .simp only[g1,cP] at hp he;exact bw.2 j p e hp he
 .rw[gen2 l 0 h];refine⟨by simp[bw.1],λj p e hp he=>?_⟩
  rcases eX j l.length with hj|hj
  .rw[sN hj] at hp;rw[pL,bN (by have:=bw.1;omega)] at he;exact bw.2 j p e hp he
  .have ir:j=l.length:=by
    have:=(fg.1 hp).1;simp at this;omega
   subst ir;simp at hp;subst hp;rw[pL,cu bw.1] at he
   grind
theorem Ej:∀(l:List (PV×PV))(k:PV)(s i:Nat)(q:PV),gp l k s=some (i,q)->∃p,l[i-s]?=some p/\eqK k p.1=true
 |[],k,s,i,q,h=>by cases h
 |p::r,k,s,i,q,h=>by
  unfold gp at h;split at h
  .simp_all
  .obtain⟨p',h1,h2⟩:=Ej r k (s+1) i q h
   have hi:s+1<=i:=by
    have:∀(r:List (PV×PV))(s:Nat),gp r k s=some (i,q)->s<=i:=by
     intro r
     induction r with
     |nil=>intro s h;cases h
     |cons y r ih=>
      intro s h;unfold gp at h;split at h
      .injection h with h;injection h with h1 _;omega
      .have:=ih (s+1) h;omega
    exact this r (s+1) h
   grind
theorem KZ{a b:PV}(h:eqK a b=true):dL a=dL b:=by
 cases a<;>cases b<;>simp[eqK] at h
 .obtain⟨rfl,rfl⟩:=h;rfl
 grind
theorem K0(hs:cQ B h m w){t:TypeId}{id:Nat}{cells:List AV}{l:List (PV×PV)}{mv kv vv:Value}{ok fk ov fv:Bool}{kp vp:PV}{d:TypeDesc}{z:PV}(hm:bG B (LB m h) m w (.mp id) mv)(hk:bG B (LB m h) m w (.w ok fk kp) kv)(hv:bG B (LB m h) m w (.w ov fv vp) vv)(hg:bY h id=some cells)(hd:fI cells=some l)(ht:lq P t=some (d,z))(hc:okM d kp l=true)(jt:isLit vp=true):∃w' m',(Instr.mapUpdate t mv kv vv).run P w=.ok () w'/\EPost B h m w n (dm h id [gz (iO l kp vp)]) n (.tup []) undef w' m':=by
 rw[tn h id _ (tq hs)];have hin:=fZ hg;obtain⟨b,es,clk,rfl,bi,da,ha,hb,hB,bw⟩:=hs.HY hin hm hd;obtain⟨kt,et,hu,gx,_⟩:=DV ht;unfold okM at hc;rw[fe,gm] at hc;obtain⟨en,ic⟩:=hc
 have hl:∀p∈l,okK d p.1=true:=λp hp=>by have:=ic p hp;rw[fe] at this;exact this.1
 have j2:kv=dL kp:=by cases hk with|w hr _=>exact yY (DU en) hr
 have jx:vv=dL vp:=by cases hv with|w hr _=>exact yY jt hr
 subst j2;subst jx;have hf:=yW en l es.toList 0 (by rw[CR];exact bw.1) (λj p e hp he=>bw.2 j p e hp (by rw[<-jo];exact he)) hl;obtain⟨q1,q2⟩:=KY (v:=vp) en bw hl
 have a4:∀o,(match gp l kp 0 with
  |some x=>o=Obj.map (es.modify x.1 λe=>{ e with key:=dL kp,val:=dL vp }) clk
  |none=>o=Obj.map (es.push { key:=dL kp,val:=dL vp,born:=clk }) (clk+1))->(Instr.mapUpdate t (.map (some b)) (dL kp) (dL vp)).run P w=.ok () { w with heap:=w.heap.setIfInBounds b o }:=by
  intro o ho;unfold Instr.mapUpdate;simp only[Sem.run_bind,run_underlying hu,Result.andThen_ok,MapKept.run_getObj_map hb];rw[show (10000:Nat)=9999+1 from rfl,MapKept.run_checkKey gx (yV en)];simp only[Result.andThen_ok];rw[MapKept.run_findKey gx hf];simp only[Result.andThen_ok]
  cases hq:gp l kp 0 with
  |none=>
   rw[hq] at ho;simp only[Jo];rw[MapKept.run_setObj_map _ hb,ho]
  |some x=>
   rw[hq] at ho;obtain⟨i,q⟩:=x;simp only[dZ]
   have hold:((es[i]?).map (·.key)).getD (dL kp)=dL kp:=by
    obtain⟨p,hp,j9⟩:=Ej l kp 0 i q hq;rw[Nat.sub_zero] at hp
    have i0:i<es.size:=by rw[<-bw.1];grind
    have:=(bw.2 i p _ hp (dE i0)).1;rw[dE i0];simp only[dZ,pP];rw[this];exact (KZ j9).symm
   simp only[Sem.run_bind,hold,MapKept.run_keyThatStays (yV en),Result.andThen_ok];rw[MapKept.run_setObj_map _ hb,ho]
 have i':b<w.heap.size:=fo hs ⟨id,cells,0,hin,bi,ha⟩
 have fin:∀e8 bt,nT e8 (iO l kp vp)->(Instr.mapUpdate t (.map (some b)) (dL kp) (dL vp)).run P w=.ok () { w with heap:=w.heap.setIfInBounds b (.map e8 bt)} ->
  ∃w' m',(Instr.mapUpdate t (.map (some b)) (dL kp) (dL vp)).run P w=.ok () w'/\EPost B h m w n (jd h id [gz (iO l kp vp)]) n (.tup []) undef w' m':=by
  intro e8 bt j3 hr;have hlen:cells.length=1:=yK da;obtain⟨u1,u2,u3,u4⟩:=Ee (w':={ w with heap:=w.heap.setIfInBounds b (.map e8 bt)}) hs hin bi (cells':=[gz (iO l kp vp)]) (by simp[hlen]) (b':=b) (C':=0) (λ_=>ha) (.inr ⟨0,ha⟩)
   (λq hq b7=>by
     have:q≠b:=λe=>b7 0 (by rw[e];exact ha)
     show (w.heap.setIfInBounds b (.map e8 bt))[q]?=w.heap[q]?
     rw[iX,bN (λe=>this e.symm)])
   (.inr ⟨rfl,e8,bt,_,by show (w.heap.setIfInBounds b (.map e8 bt))[b]?=_;rw[iX,cu rfl,cu i'],rfl,hB,j3⟩)
  refine⟨_,_,hr,u2,mU,⟨rfl,rfl,ae,λk hk=>?_⟩,u1,u3,u4,.tup rfl (λj p v hp=>by simp at hp)⟩
  grind
 cases hq:gp l kp 0 with
 |none=>exact fin _ _ (q2 hq clk) (a4 _ (by rw[hq]))
 |some x=>exact fin _ _ (q1 x.1 x.2 hq) (a4 _ (by rw[hq]))
theorem K1(hs:cQ B h m w)(hB:B.n<=w.heap.size)(ao:¬m.dom n)(b7:∀id cs,(id,cs)∈h->id<n)(t:TypeId):∃v' w' m',(Instr.makeMap t none).run P w=.ok v' w'/\EPost B h m w n ((n,[gz []])::h) (n+1) (.mp n) v' w' m':=by
 have i4:cQ B ((n,[gz []])::h) m w:=zi hs ao (λid cs hin=>Nat.ne_of_lt (b7 id cs hin))
 have hL:LB m ((n,[gz []])::h)=LB m h:=funext λb=>propext (vC ao b)
 have hin:(n,[gz []])∈(n,[gz []])::h:=ae
 have hn:=Kn i4 hB hin rfl ao;refine⟨.map (some w.heap.size),w.alloc (.map #[] 0),m.new n 1 (some (w.heap.size,0)),?_,Mm.uq ao,λi=>?_,(Bel.refl _ _).alloc hB _,hn,λb hb ct hl=>?_,λb hb _=>jy w _ hb,?_⟩
 .rfl
 .show m.dom i\/i=n↔m.dom i\/n<=i/\i<n+1
  grind
 .rcases te i4 hin hl with h1|⟨C,h1⟩
  .rw[hL] at h1;exact ct h1
  simp_all
 .exact .mp (.inr rfl) a8 a8
end
theorem Ek(o:Oper){K:AV->bz->Nat->Prop}(hk:df P env h n o.op K)(hO:bE.ok w)(hs:cQ B h m w)(hB:B.n<=w.heap.size)(ao:∀i,n<=i->¬m.dom i)(bh:∀id c,(id,c)∈h->id<n)(bm:∀x,x∈o.op.operands->bG B (LB m h) m w (ev env x) (a.eval x))(Q:Exit->Act->World->Prop)(K':Act->World->Prop)(hK:∀v v' h' n' w' m',K v h' n'->EPost B h m w n h' n' v v' w' m'->n<=n'->(∀id c,(id,c)∈h'->id<n')->K' (a.put o.dst v') w'):o.wpt P a w K' Q:=by
 have fin:∀(v:AV)(v':Value)(h':bz)(n':Nat)(w':World)(m':Mm),K v h' n'->EPost B h m w n h' n' v v' w' m'->n<=n'->(∀id c,(id,c)∈h'->id<n')->K' (a.put o.dst v') w':=
  λv v' h' n' w' m' aw he hn g0=>hK v v' h' n' w' m' aw he hn g0
 have hset_id:∀id x,∀i c,(i,c)∈dm h id x->i<n:=by
  intro id x i c hin;rw[tn h id x (tq hs)] at hin;obtain⟨p,hp,e⟩:=ja.1 hin;have:=bh p.1 p.2 hp;split at e
  .injection e with e1 _;rw[<-e1];exact this
  .have e1:p.1=i:=by rw[e]
   rw[<-e1];exact this
 have quietly:de P env h n o.op (λv E=>K v (ck h n E) (n+E.length))->o.wpt P a w K' Q:=by
  intro hk;obtain⟨v,E,hq,aw⟩:=hk.qf;obtain⟨s1,s2⟩:=vD E h n hs ao bh;refine hq.sound o hO s1 hB (λid cs e=>(kY E h n id cs).2 (.inl (fZ e))) (λk cs e=>(kY E h n _ cs).2 (.inr ⟨k,e,rfl⟩)) (λk hk=>ao _ ab) (λx hx=>by rw[s2];exact bm x hx) K' Q ?_
  rintro v' w' m' ⟨p1,p2,p3,p4,p5,p6⟩
  refine fin v v' _ _ w' m' aw ⟨p1,λi=>?_,p3.mono hB,p4,λb hb hn hl=>?_,λb hb _=>p3.block b hb,p6⟩ ab (λi c hin=>?_)
  .rw[p2]
  .rcases p5 b hl with h1|h1
   .rw[s2] at h1;exact hn h1
   .omega
  .rcases (kY E h n i c).1 hin with h1|⟨k,h1,rfl⟩
   .have:=bh i c h1;omega
   .have:=(fg.1 h1).1;omega
 unfold df at hk;split at hk
 .rename_i t ad x ho;unfold nZ at hk;split at hk
  .rename_i sz g id ver off ht fl;split at hk
   .rename_i cells hg;obtain⟨⟨c1,c2,c3,c4,c5⟩,aw⟩:=hk;obtain⟨w',m',a4,aa⟩:=KW hs ht (by rw[<-fl];exact bm ad aG) (bm x aG) hg c1 c2 c3 c4 c5;unfold Oper.wpt
    have:(execOp a.eval o).run P w=.ok .skip w':=by simp[execOp,ho,a4]
    rw[this,Oper.HW];exact fin _ _ _ _ _ _ aw aa (bU _) (hset_id _ _)
   .exact hk.elim
  .exact hk.elim
 .rename_i args tys ho;unfold nY at hk;split at hk
  .rename_i s x t tx a9 d5
   have ha:args=#[s,x]:=by rw[<-oI (xs:=args),a9]
   have f7:tys=#[t,tx]:=by rw[<-oI (xs:=tys),d5]
   subst ha;subst f7
   have eu:∀v' w',(Builtin.append_ #[t,tx] o.type #[a.eval s,a.eval x]).run P w=.ok v' w'->(execOp a.eval o).run P w=.ok (.value v') w':=by
    intro v' w' hr;simp[execOp,ho,resolve,invoke,builtin,hr]
   split at hk
   .rename_i e sz ex ht bj;split at hk
    .rename_i by_ z k2 news c bl hz aq;split at hk
     .rename_i id ver z' off k es;split at hk
      .rename_i cells hg;obtain⟨⟨c0,coff,c1,c2,c3,c4,c5,c6,c7,c8⟩,aw⟩:=hk;subst coff;subst c2;obtain⟨v',w',m',a4,aa⟩:=KQ hs hB ht bj bl hz aq c0 (bm x aD) (by rw[<-es];exact bm s aD) hg c1 c3 c4 c5 c6 c7 c8 o.type;unfold Oper.wpt;rw[eu _ _ a4,Oper.oZ];exact fin _ _ _ _ _ _ aw aa (bU _) (hset_id _ _)
      .exact hk.elim
     .rename_i own k cells es
      cases bo:(own&&decide (k=0)&&cells.isEmpty) with
      |true=>
       rw[bo] at hk;simp only[cond_true] at hk;obtain⟨⟨c0,c1,c3,_,c6,c7⟩,aw⟩:=hk;simp only[fe,decide_eq_true_eq] at bo;obtain⟨⟨h1,h2⟩,h3⟩:=bo
       have i8:cells=[]:=by simpa using h3
       subst h2;subst i8;obtain⟨v',w',m',a4,aa⟩:=KR hs (ao n (bU _)) bh hB ht bj bl hz aq c0 (bm x aD) (by rw[<-es];exact bm s aD) c1 c3 c6 c7 o.type;unfold Oper.wpt;rw[eu _ _ a4,Oper.oZ];refine fin _ _ _ _ _ _ aw aa ab (λi c hin=>?_)
       rcases dU.1 hin with e|e
       .injection e with e1 _;omega
       .have:=bh i c e;omega
      |false=>
       rw[bo] at hk;simp only[cond_false] at hk;split at hk
       .rename_i q hq;obtain⟨⟨c0,c1,c3,_,c6,c7⟩,aw⟩:=hk;obtain⟨v',w',m',a4,aa⟩:=KS hs hB ht bj bl hz aq c0 (bm x aD) hq (by rw[<-es];exact bm s aD) c1 c3 c6 c7 o.type;unfold Oper.wpt;rw[eu _ _ a4,Oper.oZ];exact fin _ _ _ _ _ _ aw aa (bU _) bh
       .exact hk.elim
     .exact hk.elim
    .exact hk.elim
   .exact hk.elim
  .exact hk.elim
 .rename_i args tys ho;unfold n9 rP at hk
  match a9:args.toList,d5:tys.toList with
  |[d,x],t::ts=>
   rw[a9,d5] at hk;simp only[jr,xZ] at hk
   have ha:args=#[d,x]:=by rw[<-oI (xs:=args),a9]
   have f7:tys=(t::ts).toArray:=by rw[<-oI (xs:=tys),d5]
   cases hr:pf P h t (ev env d) (ev env x) with
   |none=>rw[hr] at hk;exact hk.elim
   |some y=>
    obtain⟨c,v,h'⟩:=y;rw[hr] at hk;obtain⟨hc,aw⟩:=hk;obtain⟨v',w',m',a4,aa⟩:=KU (n:=n) hs hr hc (bm d (by rw[ho,ha];simp[Op.operands,Call.operands])) (bm x (by rw[ho,ha];simp[Op.operands,Call.operands])) ts o.type;unfold Oper.wpt
    have eu:(execOp a.eval o).run P w=.ok (.value v') w':=by
     rw[<-f7] at a4;subst ha;simp[execOp,ho,resolve,invoke,builtin,a4]
    rw[eu,Oper.oZ];refine fin _ _ _ _ _ _ aw aa (bU _) (λi c' hin=>?_);unfold pf at hr;split at hr
    .split at hr
     .cases hr;exact hset_id _ _ _ _ hin
     .cases hr
    .cases hr
  |[],_=>rw[a9] at hk;exact hk.elim
  |[_],_=>rw[a9] at hk;exact hk.elim
  |_::_::_::_,_=>rw[a9] at hk;exact hk.elim
  |[_,_],[]=>rw[a9,d5] at hk;exact hk.elim
 .rename_i src dst x ho
  have quiet:de P env h n (.convert src dst x) (λv E=>K v (ck h n E) (n+E.length))->o.wpt P a w K' Q:=by
   intro hk;rw[<-ho] at hk;exact quietly hk
  unfold qy at hk;split at hk
  .rename_i o' f' s es;obtain⟨hb,aw⟩:=hk;have hx:=bm x aG;rw[es] at hx;obtain⟨v',w',a4,aa⟩:=KX hs hB hb s;unfold Oper.wpt
   have:(execOp a.eval o).run P w=.ok (.value v') w':=by simp[execOp,ho,hx.o9,a4]
   rw[this,Oper.oZ];exact fin _ _ _ _ _ _ aw aa (bU _) bh
  .exact quiet hk
 .rename_i t ho;obtain⟨_,aw⟩:=hk;obtain⟨v',w',m',a4,aa⟩:=K1 (P:=P) hs hB (ao n (bU _)) bh t;unfold Oper.wpt
  have:(execOp a.eval o).run P w=.ok (.value v') w':=by simp[execOp,ho,a4]
  rw[this,Oper.oZ];refine fin _ _ _ _ _ _ aw aa ab (λi c hin=>?_)
  rcases dU.1 hin with e|e
  .injection e with e1 _;omega
  .have:=bh i c e;omega
 .rename_i t mo ko vo ho;unfold oe at hk;split at hk
  .rename_i id hm;split at hk
   .rename_i l ok fk kp ov fv vp d z hl j0 jp j5;obtain⟨⟨c1,c2⟩,aw⟩:=hk
    obtain⟨cells,hg,hd⟩:∃cells,bY h id=some cells/\fI cells=some l:=by
     cases hg:bY h id with
     |none=>rw[hg] at hl;cases hl
     |some cells=>rw[hg] at hl;exact⟨cells,rfl,hl⟩
    obtain⟨w',m',a4,aa⟩:=K0 (n:=n) hs (by rw[<-hm];exact bm mo aG) (by rw[<-j0];exact bm ko aG) (by rw[<-jp];exact bm vo aG) hg hd j5 c1 c2;unfold Oper.wpt
    have:(execOp a.eval o).run P w=.ok .skip w':=by simp[execOp,ho,a4]
    rw[this,Oper.HW];exact fin _ _ _ _ _ _ aw aa (bU _) (hset_id _ _)
   .exact hk.elim
  .exact hk.elim
 simp_all
theorem vE{o:Op}{K:AV->bz->Nat->Prop}(hk:df P env h n o K):∀c,o≠.defer c:=by
 intro c e;subst e;trivial
theorem H0{o:Op}{v:AV}{E:List (List AV)}(hk:QF P env h n o v E):∀c,o≠.defer c:=by
 intro c e;subst e
 rcases hk with ⟨c,h1,_⟩|⟨f,args,tys,g,bT,pvs,res,fr,h1,_⟩
 .trivial
 .cases h1
theorem vG{fk:Fk}(w0:Ctx fk)(o:Oper){nt:Nat}{K:AV->bz->Nat->Prop}(hk:df P env h n o.op K)(hs:Sim B w0 ⟨env,h,n,nt⟩ a w m)(ii:dOk nt o.dst)(Q:Exit->Act->World->Prop)(K':Act->World->Prop)(hK:∀v h' n' a' w' m',K v h' n'->Sim B w0 ⟨put env o.dst v,h',n',nt⟩ a' w' m'->K' a' w'):o.wpt P a w K' Q:=by
 refine Ek o hk hs.ok hs.heap hs.room (λi hi hd=>by have:=(hs.dom i).1 hd;grind) hs.ids (λx _=>mR x (λt _=>hs.env t)) Q K' ?_
 rintro v v' h' n' w' m' aw ⟨e1,e2,e3,e4,e5,e6,e7⟩ hn g0
 refine hK v h' n' _ w' m' aw ⟨hs.base,hs.below.trans e3,by rw[kX];exact hs.defers,by rw[kU];exact hs.size,?_,e4,λi=>?_,g0,hs.fr.mono e1 e5 e6 hn⟩
 .exact nJ env a o.dst v v' (by rw[hs.size];exact ii) e7 (λt=>(hs.env t).mono e1 e5 e6)
 .rw[e2,hs.dom]
  grind
end
end Go.Fi
