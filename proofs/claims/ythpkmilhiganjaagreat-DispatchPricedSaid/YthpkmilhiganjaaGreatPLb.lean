/- Lemmas. -/
import Derived.Test.YthpkmilhiganjaaGreatPLa
import Derived.Lib.ConvBytes
import Derived.TacticsIn
import Derived.OrdersIn
import Derived.RangeFuncRecord
import Derived.RangeFuncCalls
set_option linter.unusedSimpArgs false
set_option linter.unusedVariables false
set_option linter.unusedSectionVars false
set_option maxHeartbeats 32000000
set_option maxRecDepth 100000
namespace Go.Fi
open Go Go.RowKit
variable[ar]
section
omit [ar]
variable{P:Program}{B:Base}{m:Mm}{w w':World}{H h:aj}{n:Nat}{env:Env}{a:Act}{L:Nat→Prop}
theorem rG{w w':World}{p:PV}(hf:flat p=true){G G':Nat→Prop}{v:Value}(h:Rep G w p v):Rep G' w' p v:=by
 cases h<;>first
  |exact .undef _
  |exact .gj _
  |exact .bool _
  |exact .int _ _
  |exact .str _
  |exact .dP
  |exact .ig
  |(cases hf;done)
theorem An:∀{l:List PV},dE l=true→∀(j:Nat)(x:PV),l[j]?=some x→flat x=true
 |[],_,j,x,h=>by simp at h
 |y::l,hp,j,x,h=>by
  simp only[dE,Bool.and_eq_true] at hp
  cases j with
  |zero=>simp at h;subst h;exact hp.1
  |succ j=>exact An hp.2 j x (by simpa using h)
theorem Aq:∀{l:List AV}{q:List PV},pvs l=some q→l.length=q.length∧∀(j:Nat)(p:PV),q[j]?=some p→∃o f,l[j]?=some (.w o f p)
 |[],q,h=>by injection h with h;subst h;exact⟨rfl,fun j p h=>by simp at h⟩
 |x::l,q,h=>by
  cases x with
  |w o f p=>
   simp only[pvs] at h;split at h
   ·rename_i q' hq
    injection h with h;subst h
    obtain⟨h1,h2⟩:=Aq hq;refine⟨by simp[h1],fun j y hy=>?_⟩
    cases j with
    |zero=>simp at hy;subst hy;exact⟨o,f,rfl⟩
    |succ j=>exact h2 j y (by simpa using hy)
   ·cases h
  |_=>simp[pvs] at h
theorem jM(sz k:Nat)(a0:Option Addr)(cap:Nat)(us:List Value)(hl:us.length=k*sz)(h0:a0=none→k*sz=0)(hc:∀ad,a0=some ad→∀j u,us[j]?=some u→w.cell? (ad.add j)=some u):(Builtin.firstCells sz k (.slice a0 k cap)).run P w=.ok us.toArray w:=by
 cases a0 with
 |none=>
  have:us=[]:=List.eq_nil_of_length_eq_zero (by rw[hl,h0 rfl]);subst this;rfl
 |some ad=>
  have:=run_loadCells_list (P:=P) w ad us (hc ad rfl);rw[hl] at this;simpa[Builtin.firstCells] using this
theorem rH{sz k:Nat}{x:AV}{v:Value}{news:List AV}{c:Prop}(h0:fq h sz x=some (k,news,c))(hc:c)(hs:a9 B H m w)(hlook:∀id cs,aV h id=some cs→(id,cs)∈H)(hx:au B (LB m H) m w x v):∃(ax:Option Addr)(cx:Nat)(us:List Value),v=.slice ax k cx∧us.length=k*sz∧news.length=k*sz∧(∀w'',w''.heap=w.heap→(Builtin.firstCells sz k v).run P w''=.ok us.toArray w'')∧∀(j:Nat)(p:AV)(u:Value),news[j]?=some p→us[j]?=some u→au B (LB m H) m w p u:=by
 unfold fq at h0;split at h0
 ·rename_i id ver z off k';split at h0
  ·rename_i cells hg;simp only[Option.some.injEq,Prod.mk.injEq] at h0;obtain⟨rfl,rfl,rfl⟩:=h0;obtain⟨c1,c2,c3⟩:=hc;subst c2;obtain⟨ax,cx,rfl,hk,hd,_,h3,h4⟩:=hx.j3;rw[vq]
   have hlen:((cells.drop off).take (k'*z)).length=k'*z:=by simp;omega
   rw[←c1] at h3 h4
   cases ha:m.addr id cells.length with
   |none=>
    obtain⟨rfl,h5⟩:=h3 ha
    have hk0:k'=0:=by omega
    subst hk0;exact⟨ax,0,[],rfl,by simp,hlen,fun w'' _=>jM z 0 ax 0 [] (by simp) (fun _=>by simp) (fun _ _ j u hj=>by simp at hj),fun j p u hp hu=>by simp at hu⟩
   |some bc=>
    obtain⟨b,C⟩:=bc;obtain⟨h5,h6,h7⟩:=h4 b C ha;obtain⟨cs,e,hh,hC,hle,_,hcell⟩:=hs.read (hlook id cells hg) hd ha (by omega)
    have hin:∀j,j<k'*z→off+j<cs.size:=by intro j hj;omega
    refine⟨ax,cx,(List.range (k'*z)).map (fun j=>cs.getD (off+j) undef),rfl,by simp,hlen,fun w'' hw=>?_,fun j p u hp hu=>?_⟩
    ·refine jM z k' ax cx _ (by simp) (fun e=>?_) (fun ad e j u hj=>?_)
     ·rcases Nat.eq_zero_or_pos cx with h|h
      ·have:k'=0:=by omega
       simp[this]
      ·rw[h5 h] at e;cases e
     ·obtain⟨y,hy,rfl⟩:=cX hj;obtain⟨hlt,rfl⟩:=List.getElem?_eq_some_iff.1 hy;simp only[List.length_range] at hlt;simp only[List.getElem_range]
      have hcx:0<cx:=by
       rcases Nat.eq_zero_or_pos cx with h|h
       ·have:k'=0:=by omega
        rw[this] at hlt;simp at hlt
       ·exact h
      rw[h5 hcx] at e;injection e with e;subst e
      rw[Addr.fN,jL (by rw[hw];exact hh)];simp[hin j hlt]
    ·obtain⟨y,hy,rfl⟩:=cX hu;obtain⟨hlt,rfl⟩:=List.getElem?_eq_some_iff.1 hy;simp only[List.length_range] at hlt;simp only[List.getElem_range];rw[List.getElem?_take] at hp;rw[if_pos hlt,List.getElem?_drop] at hp;exact hcell _ p _ hp (by simp[hin j hlt])
  ·cases h0
 ·rename_i own f k' cells;simp only[Option.some.injEq,Prod.mk.injEq] at h0;obtain⟨rfl,rfl,rfl⟩:=h0;obtain⟨ax,cx,rfl,hk,_,h1,h2⟩:=hx.j1
  cases hcl:cells with
  |nil=>
   have hkz:k'*sz=0:=by rw[←hc,hcl];rfl
   exact⟨ax,cx,[],rfl,hkz.symm,by simp[hkz],fun w'' _=>jM sz k' ax cx [] hkz.symm (fun _=>hkz) (fun _ _ j u hj=>by simp at hj),fun j p u hp hu=>by simp at hu⟩
  |cons y ys=>
   obtain⟨b,off,vals,rfl,h3,h4,h5⟩:=h2 (by rw[hcl];simp);rw[←hcl];refine⟨_,cx,(List.range cells.length).map vals,rfl,by simp[hc],by simp[hc],fun w'' hw=>?_,fun j p u hp hu=>?_⟩
   ·refine jM sz k' _ cx _ (by simp[hc]) (fun e=>by cases e) (fun ad e j u hj=>?_)
    injection e with e;subst e
    obtain⟨y',hy,rfl⟩:=cX hj;obtain⟨hlt,rfl⟩:=List.getElem?_eq_some_iff.1 hy;simp only[List.length_range] at hlt;simp only[List.getElem_range];rw[Addr.fN];have:=h3 j hlt;simpa[World.cell?,hw] using this
   ·obtain⟨q,hq,rfl⟩:=cX hp;obtain⟨y',hy,rfl⟩:=cX hu;obtain⟨hlt,rfl⟩:=List.getElem?_eq_some_iff.1 hy;simp only[List.getElem_range];exact .w (h5 j q hq) (fun h=>by cases h)
 ·cases h0
theorem vL{t tx e ex sz:Nat}{i:TypeInfo}(ht:P.underlying t=some (.slice e))(htx:P.underlying tx=some (.slice ex))(hi:P.info? e=some i)(hz:i.size=sz)(ty:TypeId)(a0:Option Addr)(k cap k2:Nat)(x:Value)(ax:Option Addr)(cx:Nat)(hx:x=.slice ax k2 cx)(us:List Value)(hn:(Builtin.firstCells sz k2 x).run P w=.ok us.toArray w)(hfit:k+k2≤cap)(w2:World)(hst:∀ad,a0=some ad→(storeCells (ad.add (k*sz)) us).run P w=.ok () w2)(hno:a0=none→w2=w):(Builtin.append_ #[t,tx] ty #[.slice a0 k cap,x]).run P w=.ok (.slice a0 (k+k2) cap) w2:=by
 subst hx
 cases a0 with
 |none=>
  have:=hno rfl;subst this;simp[Builtin.append_,run_underlying ht,run_underlying htx,sizeOf,typeInfo,hi,hz,Builtin.lenOf,hfit,hn]
 |some ad=>
  have:=hst ad rfl;simp[Builtin.append_,run_underlying ht,run_underlying htx,sizeOf,typeInfo,hi,hz,Builtin.lenOf,hfit,hn,this]
theorem vM{t tx e ex sz:Nat}{i:TypeInfo}{z:Value}(ht:P.underlying t=some (.slice e))(htx:P.underlying tx=some (.slice ex))(hi:P.info? e=some i)(hz:i.size=sz)(hzero:i.zero=some z)(ty:TypeId)(a0:Option Addr)(k cap k2:Nat)(x:Value)(ax:Option Addr)(cx:Nat)(hx:x=.slice ax k2 cx)(us os:List Value)(hn:(Builtin.firstCells sz k2 x).run P w.drew=.ok us.toArray w.drew)(ho:(Builtin.firstCells sz k (.slice a0 k cap)).run P w.drew=.ok os.toArray w.drew)(hfit:¬k+k2≤cap)(h1:k+k2≤1000000000)(hby:i.bytes≤100000):∃nc rest,k+k2≤nc∧rest.size=(nc-(k+k2))*z.cells.size∧(Builtin.append_ #[t,tx] ty #[.slice a0 k cap,x]).run P w=.ok (.slice (some ⟨w.heap.size,0,none⟩) (k+k2) nc) (w.drew.alloc (.cells (os.toArray++us.toArray++rest) e)):=by
 subst hx
 have hb:=growslice_fits (need:=k+k2) (old:=cap) (bytes:=i.bytes) (by omega) (by
  have:(k+k2)*i.bytes≤1000000000*100000:=Nat.mul_le_mul h1 hby
  omega)
 have h63':¬(9223372036854775807<((k:Int)+(k2:Int))):=by omega
 have h48':¬(281474976710656<Builtin.nextslicecap (k+k2) cap*i.bytes):=by omega
 refine⟨grownCap w (k+k2) cap e,Builtin.zeroCells z.cells (grownCap w (k+k2) cap e-(k+k2)),grownCap_ge w _ _ e,size_zeroCells _ _,?_⟩;simp[Builtin.append_,run_underlying ht,run_underlying htx,sizeOf,typeInfo,zeroValue,hi,hz,hzero,Builtin.lenOf,hfit,h63',h48',Question.forced,hn,ho,newRow,grownCap];congr 2;apply Array.ext';simp[List.append_assoc]
theorem a9.below(hs:a9 B H m w){w':World}(hb:Bel w.heap.size w w'):a9 B H m w':=by
 refine⟨fun id cells hin hd=>?_,hs.inj⟩;obtain⟨ht,hen⟩:=hs.entry id cells hin hd;refine⟨ht,?_⟩
 rcases hen with h|⟨b,C,cs,e,h1,h2,h3,h4,h5,h6⟩|⟨b,es,clk,h1,h2,h3,h4,h5⟩
 ·exact .inl h
 ·exact .inr (.inl ⟨b,C,cs,e,h1,(hb.block b (cO hs ⟨id,cells,C,hin,hd,h1⟩)).trans h2,h3,h4,h5,fun j p v hp hv=>(h6 j p v hp hv).mono (Mm.le.refl m) (fun _ _ h=>h) (fun b hb' _=>hb.block b hb')⟩)
 ·exact .inr (.inr ⟨b,es,clk,h1,h2,(hb.block b (cO hs ⟨id,cells,0,hin,hd,h1⟩)).trans h3,h4,h5⟩)
theorem Ar(hs:a9 B H m w)(hlook:∀id cs,aV h id=some cs→(id,cs)∈H)(hB:B.n≤w.heap.size){t tx e sz:Nat}{ex:TypeId×Nat}{by_:Nat}{z:List AV}(ht:slE P t=some (e,sz))(htx:slE P tx=some ex)(hby:byE P e=some by_)(hz:cL P e=some z){x s:Value}{xa:AV}{k2:Nat}{news:List AV}{c:Prop}(hsrc:fq h sz xa=some (k2,news,c))(hc:c)(hx:au B (LB m H) m w xa x){q:List PV}(hq:pvs news=some q){own:Bool}{k:Nat}{cells:List PV}(hsr:au B (LB m H) m w (.w own true (.sl k cells)) s)(c1:cells.length=k*sz)(c3:z.length=sz)(c6:k+k2≤1000000000)(c7:by_≤100000)(ty:TypeId):∃v' w',(Builtin.append_ #[t,tx] ty #[s,x]).run P w=.ok v' w'∧Bel w.heap.size w w'∧a9 B H m w'∧au B (LB m H) m w' (.w (dE q&&(own || cells.isEmpty)) false (.sl (k+k2) (cells++q))) v':=by
 obtain⟨ht',i,hi,hsz⟩:=gv ht;obtain⟨htx',_⟩:=gv (e:=ex.1) (z:=ex.2) htx;obtain⟨iz,vz,hiz,hzero,rfl⟩:=mJ hz
 rw[hi] at hiz;injection hiz with hiz;subst hiz
 have hby':i.bytes≤100000:=by
  have:i.bytes=by_:=by simpa[byE,hi] using hby
  omega
 obtain⟨ax,cx,us,rfl,hul,hnl,hfirst,hur⟩:=rH hsrc hc hs hlook hx;obtain⟨a0,cap,rfl,hk,hfull,hnone,hcells⟩:=hsr.j1;have hcap:=hfull rfl;subst hcap;obtain⟨hq1,hq2⟩:=Aq hq
 have hzc:vz.cells.size=sz:=by rw[←c3];simp
 have hgood:∀(w2:World)(j:Nat)(p:PV)(u:Value),q[j]?=some p→us[j]?=some u→(∀b,b<w.heap.size→¬LB m H b→w2.heap[b]?=w.heap[b]?)→Rep (Good B (LB m H) (dE q&&(own || cells.isEmpty))) w2 p u:=by
  intro w2 j p u hp hu hw2;obtain⟨o,f,hn⟩:=hq2 j p hp;have:=hur j _ u hn hu
  cases this with
  |w hr _=>
   cases hfl:dE q with
   |true=>exact rG (An hfl j p hp) hr
   |false=>exact hr.mono (fun b _ hg=>⟨hg.1,(fun h=>by simp at h),hg.2.2⟩) (fun b hb hg=>hw2 b hb hg.1)
 by_cases hk2:k2=0
 ·subst hk2;have hus:us=[]:=List.eq_nil_of_length_eq_zero (by simpa using hul);have hqe:q=[]:=List.eq_nil_of_length_eq_zero (by rw[←hq1,hnl];simp);subst hus;subst hqe;refine⟨_,w,vL ht' htx' hi hsz ty a0 k k 0 _ ax cx rfl [] (hfirst w rfl) (by omega) w (fun ad _=>rfl) (fun _=>rfl),Bel.refl _ _,hs,?_⟩;simp only[List.append_nil,Nat.add_zero,dE,Bool.true_and];refine .w ?_ (fun h=>by cases h)
  cases hsr with
  |w hr _=>
   cases hce:cells with
   |nil=>
    rw[hce] at hr
    cases hr with
    |slnil=>exact .slnil
    |sl vals h1 h2 h3 h4=>exact .slz h1
    |slz h1=>exact .slz h1
   |cons y ys=>
    rw[hce] at hr;simpa using hr
 ·obtain⟨os,hol,hofirst,hor⟩:∃os:List Value,os.length=k*sz∧(Builtin.firstCells sz k (.slice a0 k k)).run P w.drew=.ok os.toArray w.drew∧∀(j:Nat)(p:PV)(v:Value),cells[j]?=some p→os[j]?=some v→Rep (Good B (LB m H) own) w p v:=by
   cases hce:cells with
   |nil=>
    have hkz:k*sz=0:=by rw[←c1,hce];rfl
    exact⟨[],hkz.symm,jM sz k a0 k [] hkz.symm (fun _=>hkz) (fun _ _ j u hj=>by simp at hj),fun j p v hp=>by simp at hp⟩
   |cons y ys=>
    obtain⟨b,off,vals,rfl,h3,h4,h5⟩:=hcells (by rw[hce];simp);rw[←hce];refine⟨(List.range cells.length).map vals,by simp[c1],jM sz k _ k _ (by simp[c1]) (fun e=>by cases e) (fun ad e j u hj=>?_),fun j p v hp hv=>?_⟩
    ·injection e with e;subst e
     obtain⟨y',hy,rfl⟩:=cX hj;obtain⟨hlt,rfl⟩:=List.getElem?_eq_some_iff.1 hy;simp only[List.length_range] at hlt;simp only[List.getElem_range];rw[Addr.fN];exact h3 j hlt
    ·obtain⟨y',hy,rfl⟩:=cX hv;obtain⟨hlt,rfl⟩:=List.getElem?_eq_some_iff.1 hy;simp only[List.getElem_range];exact h5 j p hp
  obtain⟨nc,rest,hnc,hrest,hrun⟩:=vM ht' htx' hi hsz hzero ty a0 k k k2 _ ax cx rfl us os (hfirst w.drew rfl) hofirst (by omega) c6 hby';have hkk:(k+k2)*sz=k*sz+k2*sz:=Nat.add_mul _ _ _;refine⟨_,_,hrun,⟨rfl,rfl,by rw[vE];exact Nat.le_succ _,fun b hb=>fZ w.drew _ hb⟩,hs.below ⟨rfl,rfl,by rw[vE];exact Nat.le_succ _,fun b hb=>fZ w.drew _ hb⟩,.w ?_ (fun h=>by cases h)⟩;have hnew:=rC w.drew (.cells (os.toArray++us.toArray++rest) e)
  have hcell:∀j,j<os.length+us.length→(w.drew.alloc (.cells (os.toArray++us.toArray++rest) e)).cell? ⟨w.heap.size,0+j,none⟩=some ((os++us).getD j undef):=by
   intro j hj;rw[Nat.zero_add,jL (b:=w.heap.size) hnew];rw[Array.getElem?_append,if_pos (by simpa using hj)];simp only[List.append_toArray,List.getElem?_toArray];exact getD_some (by simpa using hj)
  refine .sl (b:=w.heap.size) (off:=0) (fun j=>(os++us).getD j undef) hnc (fun j hj=>hcell j ?_) (fun _=>⟨fun hl=>?_,fun _=>hB,fun hl=>?_⟩) (fun j p hp=>?_)
  ·have hql:q.length=us.length:=by rw[←hq1,hnl,hul]
   have:j<cells.length+q.length:=by simpa using hj
   omega
  ·have:=cO hs hl;omega
  ·omega
  ·rw[List.getElem?_append] at hp;split at hp
   ·rename_i hj
    have hj':j<os.length:=by omega
    have hv:(os++us).getD j undef=os[j]:=by simp[List.getD,List.getElem?_append_left hj',List.getElem?_eq_getElem hj']
    rw[hv];have hr:=hor j p _ hp (List.getElem?_eq_getElem hj');refine hr.mono (fun b _ hg=>⟨hg.1,fun hf=>?_,hg.2.2⟩) (fun b hb hg=>fZ w.drew _ hb)
    cases own with
    |true=>exact hg.2.1 rfl
    |false=>
     have hne:cells≠[]:=by rintro rfl;simp at hj
     have:cells.isEmpty=false:=by cases cells<;>simp_all
     simp[this] at hf
   ·rename_i hj;have hjq:j-cells.length<q.length:=(List.getElem?_eq_some_iff.1 hp).1
    have hju:j-os.length<us.length:=by
     have hql:q.length=us.length:=by rw[←hq1,hnl,hul]
     omega
    have hv:(os++us).getD j undef=us[j-os.length]:=by simp[List.getD,List.getElem?_append_right (show os.length≤j by omega),List.getElem?_eq_getElem hju]
    rw[hv]
    have e1:j-cells.length=j-os.length:=by omega
    rw[e1] at hp;exact hgood _ (j-os.length) p _ hp (List.getElem?_eq_getElem hju) (fun b hb _=>fZ w.drew _ hb)
theorem GB(args:Array Operand)(tys:Array TypeId)(o:Oper)(ho:o.op=.call { callee:=.builtin .append,args:=args,argTypes:=tys }){c:Prop}{v:AV}{E:List (List AV)}(h0:aOp P h n (ev env) (.call { callee:=.builtin .append,args:=args,argTypes:=tys })=some (c,v,E))(hc:c)(hs:a9 B H m w)(hB:B.n≤w.heap.size)(hlook:∀id cs,aV h id=some cs→(id,cs)∈H)(hargs:∀x∈args.toList,au B (LB m H) m w (ev env x) (a.eval x)):QOk P B H m w n E.length (execOp a.eval o) v:=by
 simp only[aOp] at h0
 match hA:args.toList,hT:tys.toList with
 |[s,x],[t,tx]=>
  rw[hA,hT] at h0;simp only[List.map_cons,List.map_nil,jZ,yG] at h0;split at h0
  ·rename_i e sz _ ht htx;split at h0
   ·rename_i by_ z k2 news c0 hby hz hsrc;split at h0
    ·rename_i own k cells es;split at h0
     ·rename_i q hq;simp only[Option.some.injEq,Prod.mk.injEq] at h0;obtain⟨rfl,rfl,rfl⟩:=h0;obtain⟨c0',c1,c3,_,c6,c7⟩:=hc;have h1:=hargs s (by rw[hA];simp);have h2:=hargs x (by rw[hA];simp);rw[es] at h1;obtain⟨v',w',hrun,hb,hs',hv⟩:=Ar hs hlook hB ht htx hby hz hsrc c0' h2 hq h1 c1 c3 c6 c7 o.type;refine⟨v',w',m,?_,Mm.le.refl m,fun i=>⟨.inl,fun h=>h.elim id fun h=>by simp at h;omega⟩,hb,hs',fun b hb=>.inl hb,hv⟩
      have ha:args=#[s,x]:=by rw[←Array.toArray_toList (xs:=args),hA]
      have hty:tys=#[t,tx]:=by rw[←Array.toArray_toList (xs:=tys),hT]
      subst ha hty;simp[execOp,ho,resolve,invoke,builtin,hrun]
     ·cases h0
    ·cases h0
   ·cases h0
  ·cases h0
 |[],_=>rw[hA] at h0;simp[jZ] at h0
 |[_],_=>rw[hA] at h0;simp[jZ] at h0
 |_::_::_::_,_=>rw[hA] at h0;simp[jZ] at h0
 |[_,_],[]=>rw[hA,hT] at h0;simp[jZ] at h0
 |[_,_],[_]=>rw[hA,hT] at h0;simp[jZ] at h0
 |[_,_],_::_::_::_=>rw[hA,hT] at h0;simp[jZ] at h0
end
section
variable{P:Program}{B:Base}{m:Mm}{w:World}{H h:aj}{n:Nat}{env:Env}{a:Act}{L:Nat→Prop}
omit [ar] in
theorem dt{r:Sem Next}{v:AV}{E:List (List AV)}(hs:a9 B H m w)(hv:E=[]∧dk P B H m w r v):QOk P B H m w n E.length r v:=by
 obtain⟨rfl,hv⟩:=hv;exact hv.q hs
omit [ar] in
theorem GC(o:Oper){c:Prop}{v:AV}{E:List (List AV)}(h0:aOp P h n (ev env) o.op=some (c,v,E))(hc:c)(hs:a9 B H m w)(hB:B.n≤w.heap.size)(hlook:∀id cs,aV h id=some cs→(id,cs)∈H)(hE:∀k cs,E[k]?=some cs→(n+k,cs)∈H)(hnd:∀k,k<E.length→¬m.dom (n+k))(hx:∀x,x∈o.op.operands→au B (LB m H) m w (ev env x) (a.eval x)):QOk P B H m w n E.length (execOp a.eval o) v:=by
 cases ho:o.op with
 |move x=>
  rw[ho] at h0 hx;simp only[aOp,Option.some.injEq,Prod.mk.injEq] at h0;obtain⟨rfl,rfl,rfl⟩:=h0;exact dt hs ⟨rfl,_,by simp[execOp,ho],hx x (by simp[Op.operands])⟩
 |assign x=>
  rw[ho] at h0 hx;simp only[aOp,Option.some.injEq,Prod.mk.injEq] at h0;obtain⟨rfl,rfl,rfl⟩:=h0;exact dt hs ⟨rfl,_,by simp[execOp,ho],hx x (by simp[Op.operands])⟩
 |pick x y z=>rw[ho] at h0 hx;exact dt hs (F6 x y z o ho h0 (hx x (by simp[Op.operands])) (hx y (by simp[Op.operands])) (hx z (by simp[Op.operands])))
 |alloc t=>rw[ho] at h0;exact Gu t o ho h0 hs hB hE hnd
 |box t x=>rw[ho] at h0 hx;exact Gv t x o ho h0 hc hs hB hE hnd (hx x (by simp[Op.operands]))
 |build t ps=>rw[ho] at h0 hx;exact dt hs (Gt t ps o ho h0 (fun x hm=>hx x (by simpa[Op.operands] using hm)))
 |buildSlice t l ps=>rw[ho] at h0 hx;exact Gw t l ps o ho h0 hc hs hB hE hnd (fun x hm=>hx x (by simpa[Op.operands] using hm))
 |load t x=>rw[ho] at h0 hx;exact dt hs (z9 t x o ho h0 hc hs hlook (hx x (by simp[Op.operands])))
 |nilCheck x=>rw[ho] at h0 hx;exact dt hs (Gk x o ho h0 (hx x (by simp[Op.operands])))
 |binOp op t x y yt=>
  rw[ho] at h0 hx;have h1:=hx x (by simp[Op.operands]);have h2:=hx y (by simp[Op.operands]);simp only[aOp] at h0;split at h0
  ·rename_i k hk;split at h0
   ·rename_i r hr;split at h0
    ·simp only[Option.some.injEq,Prod.mk.injEq] at h0;obtain⟨rfl,rfl,rfl⟩:=h0;exact dt hs ⟨rfl,zZ .eql (.inl rfl) t x y yt hk hr h1 h2 hc.1 hc.2 o ho⟩
    ·simp only[Option.some.injEq,Prod.mk.injEq] at h0;obtain⟨rfl,rfl,rfl⟩:=h0;exact dt hs ⟨rfl,zZ .neq (.inr rfl) t x y yt hk hr h1 h2 hc.1 hc.2 o ho⟩
    ·cases h0
   ·cases h0
  ·split at h0
   ·rename_i ox fx p oy fy q ex ey;split at h0
    ·rename_i c' v' hb;simp only[Option.some.injEq,Prod.mk.injEq] at h0;obtain⟨rfl,rfl,rfl⟩:=h0;exact dt hs ⟨rfl,F3 op t x y yt ex ey hb hc h1 h2 o ho⟩
    ·cases h0
   ·cases h0
 |unOp op t x=>rw[ho] at h0 hx;exact dt hs (Mg op t x o ho h0 hc (hx x (by simp[Op.operands])))
 |convert s d x=>rw[ho] at h0 hx;exact dt hs (F5 s d x o ho h0 hc (hx x (by simp[Op.operands])))
 |makeInterface t x=>rw[ho] at h0 hx;exact dt hs (F4 t x o ho h0 (hx x (by simp[Op.operands])))
 |makeFunc f fs cs=>rw[ho] at h0 hx;exact dt hs (Gl f fs cs o ho h0 (fun x hm=>hx x (by simp[Op.operands,Array.mem_toList_iff.1 hm])))
 |makeSlice t x y=>rw[ho] at h0 hx;exact Gx t x y o ho h0 hc hs hB hE hnd (hx x (by simp[Op.operands])) (hx y (by simp[Op.operands]))
 |slice t x lo hi mx=>
  rw[ho] at h0 hx;exact dt hs (Gp t x lo hi mx o ho h0 hc (hx x (by simp[Op.operands])) (fun y e=>hx y (by simp[Op.operands,e])) (fun y e=>hx y (by simp[Op.operands,e])) (fun y e=>hx y (by simp[Op.operands,e])))
 |fieldAddr s x f=>rw[ho] at h0 hx;exact dt hs (F7 s x f o ho h0 (hx x (by simp[Op.operands])))
 |field s x f=>rw[ho] at h0 hx;exact dt hs (Gb s x f o ho h0 hc (hx x (by simp[Op.operands])))
 |indexAddr t x i=>rw[ho] at h0 hx;exact dt hs (Ge t x i o ho h0 hc (hx x (by simp[Op.operands])) (hx i (by simp[Op.operands])))
 |index t x i=>rw[ho] at h0 hx;exact dt hs (Gf t x i o ho h0 hc (hx x (by simp[Op.operands])) (hx i (by simp[Op.operands])))
 |lookup t x k c0=>rw[ho] at h0 hx;exact dt hs (GA t x k c0 o ho h0 hc hs hlook (hx x (by simp[Op.operands])) (hx k (by simp[Op.operands])))
 |extract x i=>rw[ho] at h0 hx;exact dt hs (Gg x i o ho h0 (hx x (by simp[Op.operands])))
 |call cl=>
  rw[ho] at h0 hx;obtain⟨callee,args,tys⟩:=cl
  cases callee with
  |builtin b=>
   have hargs:∀x∈args.toList,au B (LB m H) m w (ev env x) (a.eval x):=fun x hm=>hx x (by simp[Op.operands,Call.operands,Array.mem_toList_iff.1 hm])
   cases b with
   |len=>exact dt hs (Gh args tys o ho h0 hargs)
   |max=>exact dt hs (Gi args tys o ho h0 hargs)
   |min=>exact dt hs (Gj args tys o ho h0 hargs)
   |append=>exact GB args tys o ho h0 hc hs hB hlook hargs
   |_=>simp[aOp] at h0
  |_=>simp[aOp] at h0
 |_=>rw[ho] at h0;simp[aOp] at h0
end
def yJ(P:Program)(f:FuncId):Prop:=∃fn,P.funcs[f]?=some fn∧(fn.name == "runtime.NumGoroutine")=false∧fn.body.isNone=false
def aA(P:Program)(f:FuncId)(args:List PV)(res:PV)(fr:Bool):Prop:=
 yJ P f∧∀(G:Nat→Prop)(w:World)(vs:Array Value),ar.ok w→args.length=vs.size→(∀(j:Nat)(p:PV)(v:Value),args[j]?=some p→vs[j]?=some v→Rep G w p v) →
  gF P f vs w fun e w'=>∃v,e=.returned v∧Bel w.heap.size w w'∧Rep (fun b=>(b<w.heap.size→G b)∧(fr=true→w.heap.size≤b)) w' res v
def isW:AV→Bool
 |.w _ _ _=>true
 |_=>false
def oF:List AV→Bool
 |[]=>true
 |x::r=>isW x&&oF r
def uh:AV→Bool
 |.w _ _ _=>true
 |.agg cs=>oF cs
 |.fn _ cs=>oF cs
 |_=>false
def js:List AV→Bool
 |[]=>true
 |x::r=>uh x&&js r
section
variable{P:Program}{B:Base}{m:Mm}{w:World}{H h:aj}{n:Nat}{env:Env}{a:Act}{L:Nat→Prop}
omit [ar] in
theorem gw{α β:Type}{f:α→Option β}:∀{l:List α}{r:List β},l.mapM f=some r→l.length=r.length∧∀(j:Nat)(y:β),r[j]?=some y→∃x,l[j]?=some x∧f x=some y
 |[],r,h=>by simp at h;subst h;exact⟨rfl,fun j y h=>by simp at h⟩
 |x::l,r,h=>by
  simp only[List.mapM_cons] at h
  cases hx:f x with
  |none=>simp[hx] at h
  |some y=>
   simp only[hx,Option.bind_eq_bind,Option.bind_some] at h
   cases hr:l.mapM f with
   |none=>simp[hr] at h
   |some r'=>
    simp only[hr,Option.bind_some] at h
    injection h with h;subst h
    obtain⟨h1,h2⟩:=gw hr;refine⟨by simp[h1],fun j z hz=>?_⟩
    cases j with
    |zero=>simp at hz;subst hz;exact⟨x,rfl,hx⟩
    |succ j=>exact h2 j z (by simpa using hz)
def db(h:aj):Nat→AV→Bool
 |_,.w own _ p=>own || flat p
 |0,_=>false
 |d+1,.ptr id _ _=>match aV h id with
  |some cells=>cells.all (db h d)
  |none=>false
 |d+1,.msl id _ _ _ _=>match aV h id with
  |some cells=>cells.all (db h d)
  |none=>false
 |d+1,.agg cs=>cs.all (db h d)
 |d+1,.tup cs=>cs.all (db h d)
 |d+1,.fn _ c=>c.all (db h d)
 |_+1,.mp _=>false
omit [ar] in
theorem jd{α:Type}{f:α→Bool}{l:List α}(h:l.all f=true){j:Nat}{x:α}(hx:l[j]?=some x):f x=true:=List.all_eq_true.1 h x (List.mem_of_getElem? hx)
omit [ar] in
theorem jN(hs:a9 B H m w)(hlook:∀id cs,aV h id=some cs→(id,cs)∈H){G':Nat→Prop}(fr:Bool)(hG1:∀b,B.n≤b→G' b)(hG2:fr=false→∀b,Good B (LB m H) false b→G' b):∀(d:Nat)(x:AV)(p:PV)(v:Value),frz h d x=some p→(fr=true→db h d x=true)→au B (LB m H) m w x v→Rep G' w p v
 |d,.w o f q,p,v,hf,hfr,hr=>by
  have:q=p:=by cases d<;>(simp[frz] at hf;exact hf)
  subst this
  cases hr with
  |w hr _=>
   cases hfv:fr with
   |false=>exact hr.imp fun b hg=>hG2 hfv b ⟨hg.1,(fun h=>by cases h),hg.2.2⟩
   |true=>
    have h1:=hfr hfv
    have h2:(o || flat q)=true:=by cases d<;>exact h1
    cases o with
    |true=>exact hr.imp fun b hg=>hG1 b (hg.2.1 rfl)
    |false=>exact rG (by simpa using h2) hr
 |0,.ptr ..,_,_,hf,_,_=>by simp[frz] at hf
 |0,.msl ..,_,_,hf,_,_=>by simp[frz] at hf
 |0,.agg _,_,_,hf,_,_=>by simp[frz] at hf
 |0,.tup _,_,_,hf,_,_=>by simp[frz] at hf
 |0,.fn _ _,_,_,hf,_,_=>by simp[frz] at hf
 |0,.mp _,_,_,hf,_,_=>by simp[frz] at hf
 |_+1,.mp _,_,_,hf,_,_=>by simp[frz] at hf
 |d+1,.ptr id ver off,p,v,hf,hfr,hr=>by
  simp only[frz] at hf;split at hf
  ·rename_i cells hg;split at hf
   ·rename_i hver
    cases hm:cells.mapM (frz h d) with
    |none=>simp[hm] at hf
    |some r=>
     simp only[hm,Option.map_some,Option.some.injEq] at hf;subst hf;obtain⟨h1,h2⟩:=gw hm;obtain⟨b,C,rfl,hd,hvC,ha⟩:=hr.lT;rw[←hver] at ha hvC;obtain⟨cs,e,hh,hC,hle,hbB,hcell⟩:=hs.read (hlook id cells hg) hd ha hvC.2
     have:=Rep.ip (G:=G') (w:=w) (o:=off) (b:=b) (off:=0) (cells:=r) (fun j=>cs.getD j undef) (fun j hj=>by
      have:j<cs.size:=by omega
      rw[Nat.zero_add,jL hh];simp[this]) (fun _=>hG1 b hbB) (fun j q hq=>by
      obtain⟨x,hx,hxq⟩:=h2 j q hq
      have hj:j<cs.size:=by have:=(List.getElem?_eq_some_iff.1 hx).1;omega
      exact jN hs hlook fr hG1 hG2 d x q _ hxq (fun e=>by have:=hfr e;simp only[db,hg] at this;exact jd this hx) (hcell j x _ hx (by simp[hj])))
     rw[Nat.zero_add] at this;exact this
   ·cases hf
  ·cases hf
 |d+1,.msl id ver sz off k,p,v,hf,hfr,hr=>by
  simp only[frz] at hf;split at hf
  ·rename_i cells hg;split at hf
   ·rename_i hver
    cases hm:cells.mapM (frz h d) with
    |none=>simp[hm] at hf
    |some r=>
     simp only[hm,Option.map_some,Option.some.injEq,vq] at hf;subst hf;obtain⟨h1,h2⟩:=gw hm;obtain⟨a0,cap,rfl,hk,hd,_,h3,h4⟩:=hr.j3;rw[←hver] at h3 h4
     cases ha:m.addr id cells.length with
     |none=>
      obtain⟨rfl,h5⟩:=h3 ha;have hr0:r=[]:=List.eq_nil_of_length_eq_zero (by omega);subst hr0
      have:k=0:=by omega
      subst this
      cases a0 with
      |none=>simpa using Rep.slnil
      |some a1=>simpa using Rep.slz (Nat.le_refl _)
     |some bc=>
      obtain⟨b,C⟩:=bc;obtain⟨h5,h6,h7⟩:=h4 b C ha;obtain⟨cs,e,hh,hC,hle,hbB,hcell⟩:=hs.read (hlook id cells hg) hd ha (by omega)
      cases hL:(r.drop off).take (k*sz) with
      |nil=>
       cases a0 with
       |none=>
        have hcap:cap=0:=by
         rcases Nat.eq_zero_or_pos cap with h|h
         ·exact h
         ·cases h5 h
        subst hcap
        have:k=0:=by omega
        subst this;exact .slnil
       |some a1=>exact .slz hk
      |cons x xs=>
       have hcap:0<cap:=by
        rcases Nat.eq_zero_or_pos cap with h|h
        ·have:k=0:=by omega
         rw[this] at hL;simp at hL
        ·exact h
       rw[h5 hcap,←hL];refine .sl (fun j=>cs.getD (off+j) undef) hk (fun j hj=>?_) (fun _=>hG1 b hbB) (fun j q hq=>?_)
       ·rw[List.length_take,List.length_drop] at hj
        have:off+j<cs.size:=by omega
        rw[jL hh];simp[this]
       ·rw[List.getElem?_take] at hq;split at hq
        ·rw[List.getElem?_drop] at hq;obtain⟨x,hx,hxq⟩:=h2 _ q hq
         have hj:off+j<cs.size:=by have:=(List.getElem?_eq_some_iff.1 hx).1;omega
         exact jN hs hlook fr hG1 hG2 d x q _ hxq (fun e=>by have:=hfr e;simp only[db,hg] at this;exact jd this hx) (hcell _ x _ hx (by simp[hj]))
        ·cases hq
   ·cases hf
  ·cases hf
 |d+1,.agg cs,p,v,hf,hfr,hr=>by
  simp only[frz] at hf
  cases hm:cs.mapM (frz h d) with
  |none=>simp[hm] at hf
  |some r=>
   simp only[hm,Option.map_some,Option.some.injEq] at hf;subst hf;obtain⟨h1,h2⟩:=gw hm;obtain⟨vs,rfl,hl,hc⟩:=hr.Er
   exact .agg (by omega) (fun j q u hq hu=>by
    obtain⟨x,hx,hxq⟩:=h2 j q hq
    exact jN hs hlook fr hG1 hG2 d x q u hxq (fun e=>by have:=hfr e;simp only[db] at this;exact jd this hx) (hc j x u hx hu))
 |d+1,.tup cs,p,v,hf,hfr,hr=>by
  simp only[frz] at hf
  cases hm:cs.mapM (frz h d) with
  |none=>simp[hm] at hf
  |some r=>
   simp only[hm,Option.map_some,Option.some.injEq] at hf;subst hf;obtain⟨h1,h2⟩:=gw hm;obtain⟨vs,rfl,hl,hc⟩:=hr.ua
   exact .tup (by omega) (fun j q u hq hu=>by
    obtain⟨x,hx,hxq⟩:=h2 j q hq
    exact jN hs hlook fr hG1 hG2 d x q u hxq (fun e=>by have:=hfr e;simp only[db] at this;exact jd this hx) (hc j x u hx hu))
 |d+1,.fn g cs,p,v,hf,hfr,hr=>by
  simp only[frz] at hf
  cases hm:cs.mapM (frz h d) with
  |none=>simp[hm] at hf
  |some r=>
   simp only[hm,Option.map_some,Option.some.injEq] at hf;subst hf;obtain⟨h1,h2⟩:=gw hm
   cases hr with
   |fn hl hc=>
    exact .fn (by omega) (fun j q u hq hu=>by
     obtain⟨x,hx,hxq⟩:=h2 j q hq
     exact jN hs hlook fr hG1 hG2 d x q u hxq (fun e=>by have:=hfr e;simp only[db] at this;exact jd this hx) (hc j x u hx hu))
end
def il(h:aj):List AV→Option (List PV)
 |[]=>some []
 |x::r=>match frz h 6 x with
  |some p=>match il h r with
   |some q=>some (p::q)
   |none=>none
  |none=>none
inductive Mark{α:Type}(a:α):Type where
 |it
def lW(fr:Bool)(p:PV):Bool:=fr && !flat p
def AV.sh(n:Nat):AV→AV
 |.w o f p=>.w o f p
 |.ptr id v off=>.ptr (id+n) v off
 |.msl id v sz off k=>.msl (id+n) v sz off k
 |.mp id=>.mp (id+n)
 |.agg cs=>.agg (shL n cs)
 |.tup cs=>.tup (shL n cs)
 |.fn f cs=>.fn f (shL n cs)
where shL (n:Nat):List AV→List AV
 |[]=>[]
 |x::r=>x.sh n::shL n r
def AV.frs:AV→Bool
 |.w o _ p=>o || flat p
 |.ptr _ _ _=>true
 |.msl _ _ _ _ _=>true
 |.mp _=>true
 |.agg cs=>im cs
 |.tup cs=>im cs
 |.fn _ cs=>im cs
where im:List AV→Bool
 |[]=>true
 |x::r=>x.frs&&im r
section
omit [ar]
theorem As{n:Nat}{c:List AV}:gk (AV.sh.shL n c)=gk c:=by
 match c with
 |[]=>rfl
 |[x]=>cases x<;>simp[AV.sh.shL,AV.sh,gk]
 |x::y::r=>simp[AV.sh.shL,gk]
theorem GD{n:Nat}{c:List AV}{l:List (PV×PV)}(h:cN (AV.sh.shL n c)=some l):cN c=some l:=by
 match c with
 |[]=>simp[AV.sh.shL,cN] at h
 |[x]=>
  cases x with
  |w o f p=>simpa[AV.sh.shL,AV.sh] using h
  |_=>simp[AV.sh.shL,AV.sh,cN] at h
 |x::y::r=>simp[AV.sh.shL,cN] at h
theorem GF{n:Nat}{c:List AV}{l:List (PV×PV)}(h:cN c=some l):cN (AV.sh.shL n c)=some l:=by
 match c with
 |[]=>simp[cN] at h
 |[x]=>
  cases x with
  |w o f p=>simpa[AV.sh.shL,AV.sh] using h
  |_=>simp[cN] at h
 |x::y::r=>simp[cN] at h
end
def ba(h:aj)(n:Nat):List (List AV)→aj
 |[]=>h
 |c::E=>(n,c)::ba h (n+1) E
def j4(P:Program)(f:FuncId)(args:List PV)(E:List (List AV))(v:AV):Prop:=
 yJ P f∧v.frs=true∧(∀c∈E,AV.frs.im c=true)∧∀(G:Nat→Prop)(w:World)(vs:Array Value),ar.ok w→args.length=vs.size→(∀(j:Nat)(p:PV)(v:Value),args[j]?=some p→vs[j]?=some v→Rep G w p v) →
  gF P f vs w fun e w'=>∃u mm,e=.returned u∧Bel w.heap.size w w'∧(∀i,mm.dom i↔i<E.length)∧a9 ⟨w.heap.size,G⟩ (ba [] 0 E) mm w'∧au ⟨w.heap.size,G⟩ (LB mm (ba [] 0 E)) mm w' v u
def CW(P:Program)(g:FuncId)(args:List PV)(K:PV→Bool→Prop)(K2:List (List AV)→AV→Prop)(_:Mark (K,K2)):Prop:=(∃res fr,aA P g args res fr∧K res fr)∨∃E v,j4 P g args E v∧K2 E v
def oG(P:Program)(h:aj)(n:Nat)(g:FuncId)(args:List AV)(K:AV→List (List AV)→Prop):Prop:=
 match il h args with
 |some pvs=>CW P g pvs (fun res fr=>(fr=true∨js args=true)∧K (.w (lW fr res) false res) []) (fun E v=>K (v.sh n) (E.map (AV.sh.shL n))) .it
 |none=>False
def du:AV→Option (FuncId×List AV)
 |.fn g aE=>some (g,aE)
 |.w own _ (.fn g aE)=>some (g,aE.map (AV.w own false))
 |_=>none
def bm(P:Program)(env:Env)(h:aj)(n:Nat)(op:Op)(K:AV→List (List AV)→Prop):Prop:=
 match op with
 |.call { callee:=.value f,args:=args,argTypes:=_ } =>
  match du (ev env f) with
  |some (g,aE)=>oG P h n g (args.toList.map (ev env)++aE) K
  |none=>False
 |op=>match aOp P h n (ev env) op with
  |some (c,v,E)=>c∧K v E
  |none=>False
def fO(B:Base)(H:aj)(m:Mm)(w:World)(n k:Nat)(v:AV)(v':Value)(w':World)(m':Mm):Prop:=
 m.le m'∧(∀i,m'.dom i↔m.dom i∨(n≤i∧i<n+k))∧Bel w.heap.size w w'∧a9 B H m' w'∧(∀b,LB m' H b→LB m H b∨w.heap.size≤b)∧au B (LB m' H) m' w' v v'
omit [ar] in
theorem GG{fr:Bool}{p:PV}(h:lW fr p=true):fr=true:=by
 unfold lW at h;simp at h;exact h.1
section
variable{P:Program}{B:Base}{m:Mm}{w:World}{H h:aj}{n:Nat}{env:Env}{a:Act}{L:Nat→Prop}
section
omit [ar]
theorem vN:∀{l:List AV}{r:List PV},il h l=some r→l.length=r.length∧∀(j:Nat)(p:PV),r[j]?=some p→∃x,l[j]?=some x∧frz h 6 x=some p
 |[],r,e=>by simp[il] at e;subst e;exact⟨rfl,fun j p h=>by simp at h⟩
 |x::l,r,e=>by
  simp only[il] at e;split at e
  ·rename_i p hp;split at e
   ·rename_i q hq
    injection e with e;subst e
    obtain⟨h1,h2⟩:=vN hq;refine⟨by simp[h1],fun j y hy=>?_⟩
    cases j with
    |zero=>simp at hy;subst hy;exact⟨x,rfl,hp⟩
    |succ j=>exact h2 j y (by simpa using hy)
   ·cases e
  ·cases e
theorem At:∀{l:List AV},js l=true→∀(j:Nat)(x:AV),l[j]?=some x→uh x=true
 |[],_,j,x,h=>by simp at h
 |y::l,hp,j,x,h=>by
  simp only[js,Bool.and_eq_true] at hp
  cases j with
  |zero=>simp at h;subst h;exact hp.1
  |succ j=>exact At hp.2 j x (by simpa using h)
theorem vO:∀{l:List AV},oF l=true→∀(j:Nat)(x:AV),l[j]?=some x→isW x=true
 |[],_,j,x,h=>by simp at h
 |y::l,hp,j,x,h=>by
  simp only[oF,Bool.and_eq_true] at hp
  cases j with
  |zero=>simp at h;subst h;exact hp.1
  |succ j=>exact vO hp.2 j x (by simpa using h)
end
theorem GH(hO:ar.ok w)(hs:a9 B H m w)(hB:B.n≤w.heap.size)(hlook:∀id cs,aV h id=some cs→(id,cs)∈H)(o:Oper)(f:Operand)(args:Array Operand)(tys:Array TypeId)(ho:o.op=.call { callee:=.value f,args:=args,argTypes:=tys })(hx:∀x,x∈o.op.operands→au B (LB m H) m w (ev env x) (a.eval x)){g:FuncId}{aE:List AV}(hf:du (ev env f)=some (g,aE)){pvs:List PV}(hp:il h (args.toList.map (ev env)++aE)=some pvs){res:PV}{fr:Bool}(hc:aA P g pvs res fr)(hfr:fr=true∨js (args.toList.map (ev env)++aE)=true)(K:Act→World→Prop)(Q:Exit→Act→World→Prop)(hK:∀v' w' m',fO B H m w n 0 (.w (lW fr res) false res) v' w' m'→K (a.put o.dst v') w'):o.wpt P a w K Q:=by
 obtain⟨⟨fn,hfn,hname,hbody⟩,hcall⟩:=hc;have hxf:au B (LB m H) m w (ev env f) (a.eval f):=hx f (by rw[ho];simp[Op.operands,Call.operands])
 have hxa:∀x∈args.toList,au B (LB m H) m w (ev env x) (a.eval x):=fun x hm=>hx x (by rw[ho];simp[Op.operands,Call.operands,Array.mem_toList_iff.1 hm])
 have hfv:∃cv:Array Value,a.eval f=.func (.func g) #[] cv∧aE.length=cv.size∧∀(j:Nat)(p:AV)(v:Value),aE[j]?=some p→cv[j]?=some v→au B (LB m H) m w p v:=by
  unfold du at hf;split at hf
  ·rename_i g' caps' e
   injection hf with hf;injection hf with h1 h2;subst h1;subst h2
   rw[e] at hxf;generalize hv:a.eval f=vf at hxf
   cases hxf with|fn h1 h2=>exact⟨_,rfl,h1,h2⟩
  ·rename_i own f' g' caps' e
   injection hf with hf;injection hf with h1 h2;subst h1;subst h2
   rw[e] at hxf;generalize hv:a.eval f=vf at hxf
   cases hxf with
   |w h1 _=>
    cases h1 with
    |fn h1 h2=>
     refine⟨_,rfl,by simpa using h1,fun j p v hp hv=>?_⟩;obtain⟨q,hq,rfl⟩:=cX hp;exact .w (h2 j q v hq hv) (fun h=>by cases h)
  ·cases hf
 obtain⟨cv,hfe,hcl,hcr⟩:=hfv
 have hvs:∀(j:Nat)(x:AV)(v:Value),(args.toList.map (ev env)++aE)[j]?=some x→(args.map a.eval++cv)[j]?=some v→au B (LB m H) m w x v:=by
  intro j x v hj hv;by_cases hlt:j<args.size
  ·rw[List.getElem?_append_left (by simpa using hlt)] at hj;rw[Array.getElem?_append_left (by simpa using hlt)] at hv;obtain⟨y,hy,rfl⟩:=cX hj;rw[Array.getElem?_map] at hv
   have:args[j]?=some y:=by rw[←Array.getElem?_toList];exact hy
   rw[this] at hv;injection hv with hv;subst hv
   exact hxa y (List.mem_of_getElem? hy)
  ·rw[List.getElem?_append_right (by simp;omega)] at hj;rw[Array.getElem?_append_right (by simp;omega)] at hv;simp only[List.length_map,Array.length_toList,Array.size_map] at hj hv;exact hcr _ x v hj hv
 obtain⟨hl1,hl2⟩:=vN hp
 have hlen:pvs.length=(args.map a.eval++cv).size:=by rw[←hl1];simp[hcl]
 have hrun:(execOp a.eval o).run P w=.ok (.enter g (args.map a.eval++cv)) w:=by
  have hn':¬fn.name = "runtime.NumGoroutine" := by simpa using hname
  have hb':¬fn.body=none:=by intro h;simp[h] at hbody
  simp[execOp,ho,resolve,hfe,Deferred.ofValue,invoke,callFunc,hfn,hn',hb']
 unfold Oper.wpt;rw[hrun,Oper.yA]
 rcases hfr with hfr|hpure
 ·subst hfr
  refine (hcall (fun _=>True) w _ hO hlen (fun j p v hp hv=>by
   obtain⟨x,hx,hxp⟩:=hl2 j p hp
   exact jN hs hlook false (fun _ _=>trivial) (fun _ _ _=>trivial) 6 x p v hxp (fun e=>by cases e) (hvs j x v hx hv))).mono ?_
  rintro e w' ⟨v,rfl,hb,hr⟩
  refine hK v w' m ⟨Mm.le.refl m,fun i=>⟨.inl,fun h=>h.elim id fun h=>by omega⟩,hb,hs.below hb,fun b h=>.inl h,.w (hr.imp fun b hg=>?_) (fun h=>by cases h)⟩;have hb':=hg.2 rfl;exact⟨fun hl=>by have:=cO hs hl;omega,fun _=>by omega,fun h=>by omega⟩
 ·refine (hcall (Good B (LB m H) false) w _ hO hlen (fun j p v hp hv=>by
   obtain⟨x,hx,hxp⟩:=hl2 j p hp;have hpa:=At hpure j x hx;have hr:=hvs j x v hx hv
   cases x with
   |w o f q=>
    have:q=p:=by simpa[frz] using hxp
    subst this
    cases hr with|w hr _=>exact hr.imp fun b hg=>⟨hg.1,(fun h=>by cases h),hg.2.2⟩
   |agg cs=>
    cases hm:cs.mapM (frz h 5) with
    |none=>simp[frz,hm] at hxp
    |some r=>
     simp only[frz,hm,Option.map_some,Option.some.injEq] at hxp;subst hxp;obtain⟨h1,h2⟩:=gw hm
     cases hr with
     |agg hl hcell=>
      refine .agg (by omega) (fun i q u hq hu=>?_);obtain⟨y,hy,hyq⟩:=h2 i q hq;have hyw:isW y=true:=vO hpa i y hy;have hyr:=hcell i y u hy hu
      cases y with
      |w o f q'=>
       have:q'=q:=by simpa[frz] using hyq
       subst this
       cases hyr with|w hr _=>exact hr.imp fun b hg=>⟨hg.1,(fun h=>by cases h),hg.2.2⟩
      |_=>cases hyw
   |fn gg cs=>
    cases hm:cs.mapM (frz h 5) with
    |none=>simp[frz,hm] at hxp
    |some r=>
     simp only[frz,hm,Option.map_some,Option.some.injEq] at hxp;subst hxp;obtain⟨h1,h2⟩:=gw hm
     cases hr with
     |fn hl hcell=>
      refine .fn (by omega) (fun i q u hq hu=>?_);obtain⟨y,hy,hyq⟩:=h2 i q hq;have hyw:isW y=true:=vO hpa i y hy;have hyr:=hcell i y u hy hu
      cases y with
      |w o f q'=>
       have:q'=q:=by simpa[frz] using hyq
       subst this
       cases hyr with|w hr _=>exact hr.imp fun b hg=>⟨hg.1,(fun h=>by cases h),hg.2.2⟩
      |_=>cases hyw
   |_=>cases hpa)).mono ?_
  rintro e w' ⟨v,rfl,hb,hr⟩
  refine hK v w' m ⟨Mm.le.refl m,fun i=>⟨.inl,fun h=>h.elim id fun h=>by omega⟩,hb,hs.below hb,fun b h=>.inl h,.w (hr.imp fun b hg=>?_) (fun h=>by cases h)⟩
  rcases Nat.lt_or_ge b w.heap.size with hlt|hge
  ·have hg1:=hg.1 hlt;exact⟨hg1.1,fun h=>by have:=hg.2 (GG h);omega,hg1.2.2⟩
  ·exact⟨fun hl=>by have:=cO hs hl;omega,fun _=>by omega,fun h=>by omega⟩
section
omit [ar]
theorem eu(n:Nat):∀cs:List AV,AV.sh.shL n cs=cs.map (AV.sh n)
 |[]=>rfl
 |x::r=>by simp[AV.sh.shL,eu n r]
theorem pz:∀{cs:List AV},AV.frs.im cs=true→∀(j:Nat)(x:AV),cs[j]?=some x→x.frs=true
 |[],_,j,x,h=>by simp at h
 |y::l,hp,j,x,h=>by
  simp only[AV.frs.im,Bool.and_eq_true] at hp
  cases j with
  |zero=>simp at h;subst h;exact hp.1
  |succ j=>exact pz hp.2 j x (by simpa using h)
theorem au.up{B1:Base}{L1 L2:Nat→Prop}{mm m':Mm}{w':World}{n:Nat}{x:AV}{v:Value}(h:au B1 L1 mm w' x v)(hd:∀i,mm.dom i→m'.dom (i+n))(ht:∀i,mm.dom i→m'.top (i+n)=mm.top i)(ha:∀i ver,mm.dom i→m'.addr (i+n) ver=mm.addr i ver)(hG:∀b,B1.n≤b→¬L1 b→Good B L2 true b)(hfr:x.frs=true):au B L2 m' w' (x.sh n) v:=by
 induction h with
 |@w own full p v hr hf=>
  refine .w ?_ hf
  cases own with
  |true=>exact hr.imp fun b hg=>hG b (hg.2.1 rfl) hg.1
  |false=>exact rG (by simpa[AV.frs] using hfr) hr
 |ptr hd' ht' ha' hC=>exact .ptr (hd _ hd') (by rw[ht _ hd'];exact ht') ((ha _ _ hd').trans ha') hC
 |mp hd' ht' ha'=>exact .mp (hd _ hd') (by rw[ht _ hd'];exact ht') ((ha _ _ hd').trans ha')
 |msl hd' ht' hn h0 h1=>exact .msl (hd _ hd') (by rw[ht _ hd'];exact ht') hn (fun e=>h0 ((ha _ _ hd').symm.trans e)) (fun b C e=>h1 b C ((ha _ _ hd').symm.trans e))
 |@agg cs vs hl _ ih=>
  rw[AV.sh,eu];refine .agg (by simpa using hl) (fun j p v hp hv=>?_);obtain⟨q,hq,rfl⟩:=cX hp;exact ih j q v hq hv (pz hfr j q hq)
 |@tup cs vs hl _ ih=>
  rw[AV.sh,eu];refine .tup (by simpa using hl) (fun j p v hp hv=>?_);obtain⟨q,hq,rfl⟩:=cX hp;exact ih j q v hq hv (pz hfr j q hq)
 |@fn f cs vs hl _ ih=>
  rw[AV.sh,eu];refine .fn (by simpa using hl) (fun j p v hp hv=>?_);obtain⟨q,hq,rfl⟩:=cX hp;exact ih j q v hq hv (pz hfr j q hq)
end
def Mm.glue(m mm:Mm)(n len:Nat):Mm:=
 ⟨fun i ver=>if n≤i∧i<n+len then mm.addr (i-n) ver else m.addr i ver,fun i=>if n≤i∧i<n+len then mm.top (i-n) else m.top i,fun i=>m.dom i∨(n≤i∧i<n+len)⟩
section
omit [ar]
theorem vP:∀(E:List (List AV))(h:aj)(n:Nat)(id:Nat)(c:List AV),(id,c)∈ba h n E↔(id,c)∈h∨∃k,E[k]?=some c∧id=n+k
 |[],h,n,id,c=>by simp[ba]
 |x::E,h,n,id,c=>by
  simp only[ba,List.mem_cons,Prod.mk.injEq,vP E h (n+1) id c];constructor
  ·rintro (⟨rfl,rfl⟩|h1|⟨k,h1,rfl⟩)
   ·exact .inr ⟨0,rfl,rfl⟩
   ·exact .inl h1
   ·exact .inr ⟨k+1,by simpa using h1,by omega⟩
  ·rintro (h1|⟨k,h1,rfl⟩)
   ·exact .inr (.inl h1)
   ·cases k with
    |zero=>simp at h1;exact .inl ⟨rfl,h1.symm⟩
    |succ k=>exact .inr (.inr ⟨k,by simpa using h1,by omega⟩)
theorem GJ{α:Type}{R:α→α→Prop}{l:List α}(h:l.Pairwise R)(hs:∀a b,R a b→R b a){x y:α}(hx:x∈l)(hy:y∈l):x=y∨R x y:=by
 rw[List.pairwise_iff_getElem] at h;obtain⟨p,hp,ep⟩:=List.getElem_of_mem hx;obtain⟨q,hq,eq⟩:=List.getElem_of_mem hy
 rcases Nat.lt_trichotomy p q with e|e|e
 ·have:=h p q hp hq e;rw[ep,eq] at this;exact .inr this
 ·subst e;rw[ep] at eq;exact .inl eq
 ·have:=h q p hq hp e;rw[ep,eq] at this;exact .inr (hs _ _ this)
theorem GK(hs:a9 B H m w)(hB:B.n≤w.heap.size){E:List (List AV)}{v:AV}(hv:v.frs=true)(hEf:∀c∈E,AV.frs.im c=true)(hE:∀k cs,(E.map (AV.sh.shL n))[k]?=some cs→(n+k,cs)∈H)(hnd:∀k,k<E.length→¬m.dom (n+k)){G:Nat→Prop}{w':World}{u:Value}{mm:Mm}(hb:Bel w.heap.size w w')(hdm:∀i,mm.dom i↔i<E.length)(hsm:a9 ⟨w.heap.size,G⟩ (ba [] 0 E) mm w')(hr:au ⟨w.heap.size,G⟩ (LB mm (ba [] 0 E)) mm w' v u):fO B H m w n E.length (v.sh n) u w' (m.glue mm n E.length):=by
 have hold:∀i,m.dom i→¬(n≤i∧i<n+E.length):=fun i hd hi=>by
  have:=hnd (i-n) (by omega);rw[show n+(i-n)=i by omega] at this;exact this hd
 have hle:m.le (m.glue mm n E.length):=⟨fun i hd=>.inl hd,fun i hd=>by simp only[Mm.glue,if_neg (hold i hd)];exact Nat.le_refl _,fun i ver hd _=>by simp only[Mm.glue,if_neg (hold i hd)]⟩
 have hnewm:∀k c,E[k]?=some c→(k,c)∈ba [] 0 E:=fun k c hk=>(vP E [] 0 k c).2 (.inr ⟨k,hk,by omega⟩)
 have hnew:∀k c,(n+k,c)∈H→k<E.length→∃c0,E[k]?=some c0∧c=AV.sh.shL n c0:=fun k c hin hk=>by
  have h1:=List.getElem?_eq_getElem hk;refine⟨E[k],h1,?_⟩;have h2:=hE k (AV.sh.shL n E[k]) (by rw[List.getElem?_map,h1];rfl);exact hs.key hin h2
 have hLB:∀b,LB (m.glue mm n E.length) H b→LB m H b∨LB mm (ba [] 0 E) b:=by
  rintro b ⟨id,c,C,hin,hd,ha⟩
  by_cases hi:n≤id∧id<n+E.length
  ·obtain⟨c0,h1,h2⟩:=hnew (id-n) c (by rw[show n+(id-n)=id by omega];exact hin) (by omega);simp only[Mm.glue,if_pos hi] at ha;rw[h2,eu,List.length_map] at ha;exact .inr ⟨id-n,c0,C,hnewm _ _ h1,(hdm _).2 (by omega),ha⟩
  ·have hd':m.dom id:=by
    rcases hd with hd|hd
    ·exact hd
    ·exact absurd hd hi
   simp only[Mm.glue,if_neg hi] at ha;exact .inl ⟨id,c,C,hin,hd',ha⟩
 have hmmB:∀b,LB mm (ba [] 0 E) b→w.heap.size≤b:=by
  rintro b ⟨id,c,C,hin,hd,ha⟩
  exact (hsm.block hin hd ha).2
 have hG:∀b,w.heap.size≤b→¬LB mm (ba [] 0 E) b→Good B (LB (m.glue mm n E.length) H) true b:=fun b hb1 hb2=>⟨fun hl=>by
  rcases hLB b hl with h1|h1
  ·have:=cO hs h1;omega
  ·exact hb2 h1,fun _=>by omega,fun h=>by omega⟩
 have hup:∀x u,au ⟨w.heap.size,G⟩ (LB mm (ba [] 0 E)) mm w' x u→x.frs=true→au B (LB (m.glue mm n E.length) H) (m.glue mm n E.length) w' (x.sh n) u:=fun x u h hf=>
  h.up (fun i hd=>.inr ⟨by omega,by have:=(hdm i).1 hd;omega⟩) (fun i hd=>by have:=(hdm i).1 hd;simp only[Mm.glue];rw[if_pos ⟨by omega,by omega⟩,Nat.add_sub_cancel])
   (fun i ver hd=>by have:=(hdm i).1 hd;simp only[Mm.glue];rw[if_pos ⟨by omega,by omega⟩,Nat.add_sub_cancel]) hG hf
 have hmono:∀x u,au B (LB m H) m w x u→au B (LB (m.glue mm n E.length) H) (m.glue mm n E.length) w' x u:=fun x u h=>
  h.mono hle (fun b hb1 hb2 hl=>by
   rcases hLB b hl with h1|h1
   ·exact hb2 h1
   ·have:=hmmB b h1;omega) (fun b hb1 _=>hb.block b hb1)
 refine⟨hle,fun i=>Iff.rfl,hb,⟨fun id c hin hd=>?_,?_⟩,fun b hl=>?_,hup v u hr hv⟩
 ·by_cases hi:n≤id∧id<n+E.length
  ·obtain⟨c0,h1,h2⟩:=hnew (id-n) c (by rw[show n+(id-n)=id by omega];exact hin) (by omega)
   have hlen:c.length=c0.length:=by rw[h2,eu,List.length_map]
   obtain⟨e1,e2⟩:=hsm.entry (id-n) c0 (hnewm _ _ h1) ((hdm _).2 (by omega));refine⟨by simp only[Mm.glue,if_pos hi];rw[e1,hlen],?_⟩
   rcases e2 with ⟨e3,e4⟩|⟨b,C,cs,e,f1,f2,f3,f4,f5,f6⟩|⟨b,es,clk,f1,f2,f3,f4,f5⟩
   ·exact .inl ⟨by simp only[Mm.glue,if_pos hi];rw[hlen];exact e3,by rw[h2,e4];rfl⟩
   rotate_left
   ·exact .inr (.inr ⟨b,es,clk,by simp only[Mm.glue,if_pos hi];rw[hlen];exact f1,by rw[h2,As];exact f2,f3,by simp only at f4;omega,fun l hl=>f5 l (GD (by rw[←h2];exact hl))⟩)
   ·refine .inr (.inl ⟨b,C,cs,e,by simp only[Mm.glue,if_pos hi];rw[hlen];exact f1,f2,f3,by omega,by simp only at f5;omega,fun j p u hp hu=>?_⟩);rw[h2,eu] at hp;obtain⟨q,hq,rfl⟩:=cX hp;exact hup q u (f6 j q u hq hu) (pz (hEf c0 (List.mem_of_getElem? h1)) j q hq)
  ·have hd':m.dom id:=by
    rcases hd with hd|hd
    ·exact hd
    ·exact absurd hd hi
   obtain⟨e1,e2⟩:=hs.entry id c hin hd';refine⟨by simp only[Mm.glue,if_neg hi];exact e1,?_⟩
   rcases e2 with ⟨e3,e4⟩|⟨b,C,cs,e,f1,f2,f3,f4,f5,f6⟩|⟨b,es,clk,f1,f2,f3,f4,f5⟩
   ·exact .inl ⟨by simp only[Mm.glue,if_neg hi];exact e3,e4⟩
   rotate_left
   ·have hblt:b<w.heap.size:=cO hs ⟨id,c,0,hin,hd',f1⟩;exact .inr (.inr ⟨b,es,clk,by simp only[Mm.glue,if_neg hi];exact f1,f2,(hb.block b hblt).trans f3,f4,f5⟩)
   ·have hblt:b<w.heap.size:=cO hs ⟨id,c,C,hin,hd',f1⟩;exact .inr (.inl ⟨b,C,cs,e,by simp only[Mm.glue,if_neg hi];exact f1,(hb.block b hblt).trans f2,f3,f4,f5,fun j p u hp hu=>hmono p u (f6 j p u hp hu)⟩)
 ·refine List.Pairwise.imp_of_mem ?_ hs.inj;intro x y hx hy ⟨hne,hxy⟩;refine⟨hne,fun b C C' hdx hdy hax hay=>?_⟩
  have key:∀z:Nat×List AV,z∈H→(m.glue mm n E.length).dom z.1→∀C,(m.glue mm n E.length).addr z.1 z.2.length=some (b,C)→(¬(n≤z.1∧z.1<n+E.length)∧m.dom z.1∧m.addr z.1 z.2.length=some (b,C)) ∨
   ((n≤z.1∧z.1<n+E.length)∧∃c0,(z.1-n,c0)∈ba [] 0 E∧mm.addr (z.1-n) c0.length=some (b,C)):=by
   intro z hz hdz C ha;by_cases hi:n≤z.1∧z.1<n+E.length
   ·obtain⟨c0,h1,h2⟩:=hnew (z.1-n) z.2 (by rw[show n+(z.1-n)=z.1 by omega];exact hz) (by omega);simp only[Mm.glue,if_pos hi] at ha;rw[h2,eu,List.length_map] at ha;exact .inr ⟨hi,c0,hnewm _ _ h1,ha⟩
   ·simp only[Mm.glue,if_neg hi] at ha
    rcases hdz with hdz|hdz
    ·exact .inl ⟨hi,hdz,ha⟩
    ·exact absurd hdz hi
  rcases key x hx hdx C hax with ⟨_,dx,ax⟩|⟨ix,cx,mx,ax⟩
  ·rcases key y hy hdy C' hay with ⟨_,dy,ay⟩|⟨iy,cy,my,ay⟩
   ·exact hxy b C C' dx dy ax ay
   ·have h1:b<w.heap.size:=cO hs ⟨x.1,x.2,C,hx,dx,ax⟩;have h2:=hmmB b ⟨y.1-n,cy,C',my,(hdm _).2 (by omega),ay⟩;omega
  ·rcases key y hy hdy C' hay with ⟨_,dy,ay⟩|⟨iy,cy,my,ay⟩
   ·have h1:b<w.heap.size:=cO hs ⟨y.1,y.2,C',hy,dy,ay⟩;have h2:=hmmB b ⟨x.1-n,cx,C,mx,(hdm _).2 (by omega),ax⟩;omega
   ·rcases GJ hsm.inj (fun a c hac=>⟨fun e=>hac.1 e.symm,fun b C C' d1 d2 a1 a2=>hac.2 b C' C d2 d1 a2 a1⟩) mx my with h1|h1
    ·injection h1 with h1 _
     exact hne (by omega)
    ·exact h1.2 b C C' ((hdm _).2 (by omega)) ((hdm _).2 (by omega)) ax ay
 ·rcases hLB b hl with h1|h1
  ·exact .inl h1
  ·exact .inr (hmmB b h1)
end
theorem GM(hO:ar.ok w)(hs:a9 B H m w)(hB:B.n≤w.heap.size)(hlook:∀id cs,aV h id=some cs→(id,cs)∈H)(o:Oper)(f:Operand)(args:Array Operand)(tys:Array TypeId)(ho:o.op=.call { callee:=.value f,args:=args,argTypes:=tys })(hx:∀x,x∈o.op.operands→au B (LB m H) m w (ev env x) (a.eval x)){g:FuncId}{aE:List AV}(hf:du (ev env f)=some (g,aE)){pvs:List PV}(hp:il h (args.toList.map (ev env)++aE)=some pvs){E:List (List AV)}{v:AV}(hE:∀k cs,(E.map (AV.sh.shL n))[k]?=some cs→(n+k,cs)∈H)(hnd:∀k,k<E.length→¬m.dom (n+k))(hc:j4 P g pvs E v)(K:Act→World→Prop)(Q:Exit→Act→World→Prop)(hK:∀v' w' m',fO B H m w n E.length (v.sh n) v' w' m'→K (a.put o.dst v') w'):o.wpt P a w K Q:=by
 obtain⟨⟨fn,hfn,hname,hbody⟩,hv,hEf,hcall⟩:=hc;have hxf:au B (LB m H) m w (ev env f) (a.eval f):=hx f (by rw[ho];simp[Op.operands,Call.operands])
 have hxa:∀x∈args.toList,au B (LB m H) m w (ev env x) (a.eval x):=fun x hm=>hx x (by rw[ho];simp[Op.operands,Call.operands,Array.mem_toList_iff.1 hm])
 have hfv:∃cv:Array Value,a.eval f=.func (.func g) #[] cv∧aE.length=cv.size∧∀(j:Nat)(p:AV)(v:Value),aE[j]?=some p→cv[j]?=some v→au B (LB m H) m w p v:=by
  unfold du at hf;split at hf
  ·rename_i g' caps' e
   injection hf with hf;injection hf with h1 h2;subst h1;subst h2
   rw[e] at hxf;generalize hv:a.eval f=vf at hxf
   cases hxf with|fn h1 h2=>exact⟨_,rfl,h1,h2⟩
  ·rename_i own f' g' caps' e
   injection hf with hf;injection hf with h1 h2;subst h1;subst h2
   rw[e] at hxf;generalize hv:a.eval f=vf at hxf
   cases hxf with
   |w h1 _=>
    cases h1 with
    |fn h1 h2=>
     refine⟨_,rfl,by simpa using h1,fun j p v hp hv=>?_⟩;obtain⟨q,hq,rfl⟩:=cX hp;exact .w (h2 j q v hq hv) (fun h=>by cases h)
  ·cases hf
 obtain⟨cv,hfe,hcl,hcr⟩:=hfv
 have hvs:∀(j:Nat)(x:AV)(v:Value),(args.toList.map (ev env)++aE)[j]?=some x→(args.map a.eval++cv)[j]?=some v→au B (LB m H) m w x v:=by
  intro j x v hj hv;by_cases hlt:j<args.size
  ·rw[List.getElem?_append_left (by simpa using hlt)] at hj;rw[Array.getElem?_append_left (by simpa using hlt)] at hv;obtain⟨y,hy,rfl⟩:=cX hj;rw[Array.getElem?_map] at hv
   have:args[j]?=some y:=by rw[←Array.getElem?_toList];exact hy
   rw[this] at hv;injection hv with hv;subst hv
   exact hxa y (List.mem_of_getElem? hy)
  ·rw[List.getElem?_append_right (by simp;omega)] at hj;rw[Array.getElem?_append_right (by simp;omega)] at hv;simp only[List.length_map,Array.length_toList,Array.size_map] at hj hv;exact hcr _ x v hj hv
 obtain⟨hl1,hl2⟩:=vN hp
 have hlen:pvs.length=(args.map a.eval++cv).size:=by rw[←hl1];simp[hcl]
 have hrun:(execOp a.eval o).run P w=.ok (.enter g (args.map a.eval++cv)) w:=by
  have hn':¬fn.name = "runtime.NumGoroutine" := by simpa using hname
  have hb':¬fn.body=none:=by intro h;simp[h] at hbody
  simp[execOp,ho,resolve,hfe,Deferred.ofValue,invoke,callFunc,hfn,hn',hb']
 unfold Oper.wpt;rw[hrun,Oper.yA]
 refine (hcall (fun _=>True) w _ hO hlen (fun j p v hp hv=>by
  obtain⟨x,hx,hxp⟩:=hl2 j p hp
  exact jN hs hlook false (fun _ _=>trivial) (fun _ _ _=>trivial) 6 x p v hxp (fun e=>by cases e) (hvs j x v hx hv))).mono ?_
 rintro e w' ⟨u,mm,rfl,hb,hdm,hsm,hr⟩
 exact hK u w' _ (GK hs hB hv hEf hE hnd hb hdm hsm hr)
def QF(P:Program)(env:Env)(h:aj)(n:Nat)(op:Op)(v:AV)(E:List (List AV)):Prop:=
 (∃c,aOp P h n (ev env) op=some (c,v,E)∧c) ∨
 ∃f args tys g aE pvs res fr,op=.call { callee:=.value f,args:=args,argTypes:=tys }∧du (ev env f)=some (g,aE)∧il h (args.toList.map (ev env)++aE)=some pvs ∧
  ((aA P g pvs res fr∧(fr=true∨js (args.toList.map (ev env)++aE)=true)∧v=.w (lW fr res) false res∧E=[]) ∨
    ∃E0 v0,j4 P g pvs E0 v0∧v=v0.sh n∧E=E0.map (AV.sh.shL n))
theorem bm.qf{op:Op}{K:AV→List (List AV)→Prop}(hq:bm P env h n op K):∃v E,QF P env h n op v E∧K v E:=by
 unfold bm at hq;split at hq
 ·rename_i f args tys;split at hq
  ·rename_i g aE hf;unfold oG at hq;split at hq
   ·rename_i pvs hp
    rcases hq with ⟨res,fr,hc,hfr,hk⟩|⟨E,v,hc,hk⟩
    ·exact⟨_,_,.inr ⟨f,args,tys,g,aE,pvs,res,fr,rfl,hf,hp,.inl ⟨hc,hfr,rfl,rfl⟩⟩,hk⟩
    ·exact⟨_,_,.inr ⟨f,args,tys,g,aE,pvs,.undef,true,rfl,hf,hp,.inr ⟨E,v,hc,rfl,rfl⟩⟩,hk⟩
   ·exact hq.elim
  ·exact hq.elim
 ·split at hq
  ·rename_i c v E he;exact⟨v,E,.inl ⟨c,he,hq.1⟩,hq.2⟩
  ·exact hq.elim
theorem QF.sound(o:Oper){v:AV}{E:List (List AV)}(hq:QF P env h n o.op v E)(hO:ar.ok w)(hs:a9 B H m w)(hB:B.n≤w.heap.size)(hlook:∀id cs,aV h id=some cs→(id,cs)∈H)(hE:∀k cs,E[k]?=some cs→(n+k,cs)∈H)(hnd:∀k,k<E.length→¬m.dom (n+k))(hx:∀x,x∈o.op.operands→au B (LB m H) m w (ev env x) (a.eval x))(K:Act→World→Prop)(Q:Exit→Act→World→Prop)(hK:∀v' w' m',fO B H m w n E.length v v' w' m'→K (a.put o.dst v') w'):o.wpt P a w K Q:=by
 rcases hq with ⟨c,h0,hc⟩|⟨f,args,tys,g,aE,pvs,res,fr,ho,hf,hp,⟨hc,hfr,rfl,rfl⟩|⟨E0,v0,hc,rfl,rfl⟩⟩
 ·obtain⟨v',w',m',hrun,h1,h2,h3,h4,h5,h6⟩:=GC o h0 hc hs hB hlook hE hnd hx;unfold Oper.wpt;rw[hrun,Oper.lO];exact hK v' w' m' ⟨h1,h2,h3,h4,h5,h6⟩
 ·exact GH hO hs hB hlook o f args tys ho hx hf hp hc hfr K Q hK
 ·rw[List.length_map] at hnd hK;exact GM hO hs hB hlook o f args tys ho hx hf hp hE hnd hc K Q hK
end
end Go.Fi
namespace Go.Fi
open Go Go.RowKit
def dg(w:World)(b:Nat)(cs:Array Value)(e:TypeId):World:={ w with heap:=w.heap.setIfInBounds b (.cells cs e (0,0))}
theorem GN(w:World)(b:Nat)(cs:Array Value)(e:TypeId):(dg w b cs e).heap.size=w.heap.size:=by simp[dg]
theorem rJ(w:World)(b:Nat)(cs:Array Value)(e:TypeId){k:Nat}(h:k≠b):(dg w b cs e).heap[k]?=w.heap[k]?:=by
 simp only[dg];rw[Array.getElem?_setIfInBounds];simp[Ne.symm h]
theorem rK(w:World)(b:Nat)(cs:Array Value)(e:TypeId)(h:b<w.heap.size):(dg w b cs e).heap[b]?=some (.cells cs e (0,0)):=by
 simp only[dg];rw[Array.getElem?_setIfInBounds];simp[h]
theorem GO(w:World)(b:Nat)(cs cs':Array Value)(e:TypeId):dg (dg w b cs e) b cs' e=dg w b cs' e:=by
 simp[dg]
theorem pA(w:World)(b:Nat)(cs:Array Value)(e:TypeId)(h:w.heap[b]?=some (.cells cs e (0,0))):dg w b cs e=w:=by
 have:w.heap.setIfInBounds b (.cells cs e (0,0))=w.heap:=by
  apply Array.ext
  ·simp
  ·intro i h1 h2;rw[Array.getElem_setIfInBounds];split
   ·rename_i hi;subst hi;rw[Array.getElem?_eq_getElem h2] at h
    injection h with h;exact h.symm
   ·rfl
 unfold dg;rw[this]
def dh(cs:Array Value)(off:Nat):List Value→Array Value
 |[]=>cs
 |v::r=>dh (cs.setIfInBounds off v) (off+1) r
theorem rL:∀(vs:List Value)(off:Nat)(cs:Array Value),(dh cs off vs).size=cs.size
 |[],_,_=>rfl
 |v::r,off,cs=>by rw[dh,rL r];simp
theorem GP{w:World}{b:Nat}{cs:Array Value}{e:TypeId}(h:w.heap[b]?=some (.cells cs e (0,0)))(off:Nat)(v:Value):w.setCell ⟨b,off,none⟩ v=dg w b (cs.setIfInBounds off v) e:=by
 unfold World.setCell dg;congr 1
 have hb:b<w.heap.size:=by
  rcases Nat.lt_or_ge b w.heap.size with h'|h'
  ·exact h'
  ·rw[Array.getElem?_eq_none h'] at h;cases h
 have hg:w.heap[b]=.cells cs e (0,0):=by rw[Array.getElem?_eq_getElem hb] at h;injection h
 apply Array.ext
 ·simp
 ·intro i h1 h2;rw[Array.getElem_modify,Array.getElem_setIfInBounds];split
  ·rename_i hi;subst hi;simp[hg]
  ·rfl
section
variable{P:Program}
theorem rM(b off:Nat)(e:TypeId):∀(vs:List Value)(i:Nat)(w:World)(cs:Array Value),w.heap[b]?=some (.cells cs e (0,0))→off+i+vs.length≤cs.size→(∀v∈vs,v.oneCell'=true)→(storeCells ⟨b,off,none⟩ vs i).run P w=.ok () (dg w b (dh cs (off+i) vs) e)
 |[],i,w,cs,h,_,_=>by
  simp only[storeCells,dh];rw[pA w b cs e h];rfl
 |v::r,i,w,cs,h,hle,h1=>by
  have hlt:off+i<cs.size:=by simp at hle;omega
  have hb:b<w.heap.size:=by
   rcases Nat.lt_or_ge b w.heap.size with h'|h'
   ·exact h'
   ·rw[Array.getElem?_eq_none h'] at h;cases h
  have hst:(store ((⟨b,off,none⟩:Addr).add i) v).run P w=.ok () (dg w b (cs.setIfInBounds (off+i) v) e):=by
   rw[Addr.fN,run_store P w _ v _ (h1 v (by simp))]
   have hc:w.cell? ⟨b,off+i,none⟩=some cs[off+i]:=by rw[jL h];simp[hlt]
   have hf:w.frozen? ⟨b,off+i,none⟩=false:=by simp[World.frozen?,h]
   simp[hc,hf,GP h]
  have ih:=rM b off e r (i+1) (dg w b (cs.setIfInBounds (off+i) v) e) (cs.setIfInBounds (off+i) v) (rK w b _ e hb) (by simp at hle ⊢;omega) (fun x hx=>h1 x (by simp[hx]));simp only[storeCells,Sem.run_bind,hst,Result.andThen_ok,ih,GO,dh];rw[show off+(i+1)=off+i+1 by omega]
end
section
variable{P:Program}{B:Base}{m:Mm}{w:World}{H h:aj}{n:Nat}{env:Env}{a:Act}{L:Nat→Prop}
theorem Ax:∀{l:List AV},bV l=true→∀(j:Nat)(x:AV),l[j]?=some x→x.one=true
 |[],_,j,x,h=>by simp at h
 |y::l,hp,j,x,h=>by
  simp only[bV,Bool.and_eq_true] at hp
  cases j with
  |zero=>simp at h;subst h;exact hp.1
  |succ j=>exact Ax hp.2 j x (by simpa using h)
theorem GQ{x:AV}{v:Value}(h1:x.one=true)(h:au B L m w x v):v.oneCell'=true:=by
 cases h with
 |w hr _=>cases hr<;>first|rfl|(cases h1;done)
 |agg _ _=>cases h1
 |tup _ _=>cases h1
 |_=>rfl
def qC(B:Base)(L:Nat→Prop)(m:Mm)(w:World)(cs:List AV)(vs:Array Value):Prop:=
 cs.length≤vs.size∧∀(j:Nat)(p:AV)(v:Value),cs[j]?=some p→vs[j]?=some v→au B L m w p v
theorem qC.set{cs:List AV}{vs:Array Value}(h:qC B L m w cs vs)(i:Nat){p:AV}{v:Value}(hp:au B L m w p v):qC B L m w (cs.set i p) (vs.setIfInBounds i v):=by
 refine⟨by simpa using h.1,fun j q u hq hu=>?_⟩;rw[List.getElem?_set] at hq;rw[Array.getElem?_setIfInBounds] at hu;by_cases hij:i=j
 ·subst hij;simp only[if_true] at hq hu;split at hq
  ·split at hu
   ·injection hq with hq;injection hu with hu;subst hq;subst hu;exact hp
   ·cases hu
  ·cases hq
 ·simp only[hij,if_false] at hq hu;exact h.2 j q u hq hu
theorem vQ:∀(ps:List AV)(us:List Value)(off:Nat)(cs:List AV)(vs:Array Value),qC B L m w cs vs→ps.length=us.length→(∀(j:Nat)(p:AV)(v:Value),ps[j]?=some p→us[j]?=some v→au B L m w p v)→qC B L m w (setAt cs off ps) (dh vs off us)
 |[],us,off,cs,vs,h,hl,_=>by
  cases us with
  |nil=>exact h
  |cons u us=>cases hl
 |p::ps,us,off,cs,vs,h,hl,hr=>by
  cases us with
  |nil=>cases hl
  |cons u us=>
   simp only[setAt,dh];exact vQ ps us (off+1) _ _ (h.set off (hr 0 p u rfl rfl)) (by simpa using hl) (fun j q v hq hv=>hr (j+1) q v (by simpa using hq) (by simpa using hv))
theorem pB(h:aj)(id:Nat)(x:List AV)(hn:h.Pairwise fun p q=>p.1≠q.1):br h id x=h.map fun p=>if p.1=id then (p.1,x) else p:=by
 induction hn with
 |nil=>rfl
 |@cons y r hy _ ih=>
  obtain⟨k,v⟩:=y;simp only[br,List.map_cons];split
  ·rename_i hk;subst hk;congr 1;rw[List.map_congr_left (g:=fun p=>p)]
   ·simp
   ·intro p hp;rw[if_neg (fun e=>hy p hp e.symm)]
  ·rw[ih]
end
def Mm.up(m:Mm)(id len:Nat)(bc:Option (Nat×Nat)):Mm:=
 { addr:=fun i v=>if i=id∧v=len then bc else m.addr i v,top:=fun i=>if i=id then len else m.top i,dom:=m.dom }
def fU(h:aj)(id:Nat)(x:List AV):aj:=h.map fun p=>if p.1=id then (p.1,x) else p
section
variable{P:Program}{B:Base}{m:Mm}{w w':World}{H h:aj}{n:Nat}{env:Env}{a:Act}{L:Nat→Prop}
theorem Ay{id i:Nat}{x c:List AV}(hin:(i,c)∈fU h id x):(i≠id∧(i,c)∈h)∨(i=id∧c=x):=by
 unfold fU at hin;obtain⟨p,hp,e⟩:=List.mem_map.1 hin;split at e
 ·rename_i hk;injection e with e1 e2;exact .inr ⟨by rw[←e1];exact hk,e2.symm⟩
 ·rename_i hk;subst e;exact .inl ⟨hk,hp⟩
theorem Mi{id len:Nat}{bc:Option (Nat×Nat)}(hle:m.top id≤len)(hsame:len≤m.top id→bc=m.addr id len):m.le (m.up id len bc):=by
 refine⟨fun i hi=>hi,fun i hi=>?_,fun i v hi hv=>?_⟩
 ·simp only[Mm.up];split
  ·rename_i e;subst e;exact hle
  ·exact Nat.le_refl _
 ·simp only[Mm.up];split
  ·rename_i e;obtain⟨rfl,rfl⟩:=e;exact hsame hv
  ·rfl
theorem Az(hs:a9 B h m w){id:Nat}{cells cells':List AV}(hin:(id,cells)∈h)(hd:m.dom id)(hlen:cells.length≤cells'.length){b' C':Nat}(hsame:cells'.length=cells.length→m.addr id cells.length=some (b',C'))(hb':w.heap.size≤b'∨∃C,m.addr id cells.length=some (b',C))(hoth:∀k,k<w.heap.size→(∀C,m.addr id cells.length≠some (k,C))→w'.heap[k]?=w.heap[k]?)(hnew:(∃cs e,w'.heap[b']?=some (.cells cs e (0,0))∧cs.size=C'∧cells'.length≤C'∧B.n≤b'∧∀(j:Nat)(p:AV)(v:Value),cells'[j]?=some p→cs[j]?=some v→au B (LB m h) m w p v)∨(C'=0∧∃es clk l,w'.heap[b']?=some (.map es clk)∧cells'=[dQ l]∧B.n≤b'∧j0 es l)):a9 B (fU h id cells') (m.up id cells'.length (some (b',C'))) w'∧m.le (m.up id cells'.length (some (b',C')))∧(∀b,b<w.heap.size→¬LB m h b→¬LB (m.up id cells'.length (some (b',C'))) (fU h id cells') b)∧(∀b,b<w.heap.size→¬LB m h b→w'.heap[b]?=w.heap[b]?):=by
 have htop:m.top id=cells.length:=(hs.entry id cells hin hd).1
 have hle:m.le (m.up id cells'.length (some (b',C'))):=Mi (by rw[htop];exact hlen) (fun hh=>by
  have:cells'.length=cells.length:=by omega
  rw[this];exact (hsame this).symm)
 have hL0:∀b,LB (m.up id cells'.length (some (b',C'))) (fU h id cells') b→(∃i c C,(i,c)∈h∧i≠id∧m.dom i∧m.addr i c.length=some (b,C))∨b=b':=by
  rintro b ⟨i,c,C,h1,h2,h3⟩
  rcases Ay h1 with ⟨hi,h4⟩|⟨rfl,rfl⟩
  ·simp only[Mm.up,hi,false_and,if_false] at h3;exact .inl ⟨i,c,C,h4,hi,h2,h3⟩
  ·simp only[Mm.up,and_self,if_true] at h3
   injection h3 with h3;injection h3 with h3 _;exact .inr h3.symm
 have hL:∀b,b<w.heap.size→¬LB m h b→¬LB (m.up id cells'.length (some (b',C'))) (fU h id cells') b:=by
  intro b hb hn hl
  rcases hL0 b hl with ⟨i,c,C,h1,_,h2,h3⟩|rfl
  ·exact hn ⟨i,c,C,h1,h2,h3⟩
  ·rcases hb' with h|⟨C,h⟩
   ·omega
   ·exact hn ⟨id,cells,C,hin,hd,h⟩
 have hW:∀b,b<w.heap.size→¬LB m h b→w'.heap[b]?=w.heap[b]?:=fun b hb hn=>hoth b hb (fun C hC=>hn ⟨id,cells,C,hin,hd,hC⟩)
 have hmono:∀p v,au B (LB m h) m w p v→au B (LB (m.up id cells'.length (some (b',C'))) (fU h id cells')) (m.up id cells'.length (some (b',C'))) w' p v:=fun p v hp=>hp.mono hle hL hW
 refine⟨⟨fun i c hic hdi=>?_,?_⟩,hle,hL,hW⟩
 ·rcases Ay hic with ⟨hi,h4⟩|⟨rfl,rfl⟩
  ·obtain⟨ht,hen⟩:=hs.entry i c h4 hdi;refine⟨by simp[Mm.up,hi,ht],?_⟩
   have hpw:∀(x y:Nat×List AV),x∈h→y∈h→x.1≠y.1→∀b C C',m.dom x.1→m.dom y.1→m.addr x.1 x.2.length=some (b,C)→m.addr y.1 y.2.length≠some (b,C'):=by
    intro x y hx hy hne b C C' hdx hdy hax hay;have:=hs.inj;rw[List.pairwise_iff_getElem] at this;obtain⟨p,hp,rfl⟩:=List.getElem_of_mem hx;obtain⟨q,hq,rfl⟩:=List.getElem_of_mem hy
    rcases Nat.lt_trichotomy p q with hpq|hpq|hpq
    ·exact (this p q hp hq hpq).2 b C C' hdx hdy hax hay
    ·subst hpq;exact hne rfl
    ·exact (this q p hq hp hpq).2 b C' C hdy hdx hay hax
   rcases hen with ⟨h1,h2⟩|⟨b,C,cs,e,h1,h2,h3,h5,h6,h7⟩|⟨b,es,clk,h1,h2,h3,h5,h6⟩
   ·exact .inl ⟨by simp[Mm.up,hi,h1],h2⟩
   ·exact .inr (.inl ⟨b,C,cs,e,by simp[Mm.up,hi,h1],(hoth b (cO hs ⟨i,c,C,h4,hdi,h1⟩) (fun C2 h8=>hpw (i,c) (id,cells) h4 hin hi b C C2 hdi hd h1 h8)).trans h2,h3,h5,h6,fun j p v hp hv=>hmono p v (h7 j p v hp hv)⟩)
   ·exact .inr (.inr ⟨b,es,clk,by simp[Mm.up,hi,h1],h2,(hoth b (cO hs ⟨i,c,0,h4,hdi,h1⟩) (fun C2 h8=>hpw (i,c) (id,cells) h4 hin hi b 0 C2 hdi hd h1 h8)).trans h3,h5,h6⟩)
  ·refine⟨by simp[Mm.up],.inr ?_⟩
   rcases hnew with ⟨cs,e,h1,h2,h3,h5,h6⟩|⟨rfl,es,clk,l,h1,rfl,h3,h5⟩
   ·exact .inl ⟨b',C',cs,e,by simp[Mm.up],h1,h2,h3,h5,fun j p v hp hv=>hmono p v (h6 j p v hp hv)⟩
   ·exact .inr ⟨b',es,clk,by simp[Mm.up],rfl,h1,h3,zT h5⟩
 ·unfold fU;rw[List.pairwise_map];refine List.Pairwise.imp_of_mem ?_ hs.inj;intro x y hx hy ⟨hne,hxy⟩
  have hfst:∀p:Nat×List AV,(if p.1=id then (p.1,cells') else p).1=p.1:=by intro p;split<;>rfl
  refine⟨by rw[hfst,hfst];exact hne,fun b C D hdx hdy hax hay=>?_⟩;rw[hfst] at hdx hdy
  have clash:∀z:Nat×List AV,z∈h→z.1≠id→m.dom z.1→∀C,m.addr z.1 z.2.length=some (b',C)→(z.1≠id→∀b C C',m.dom z.1→m.dom id→m.addr z.1 z.2.length=some (b,C)→m.addr id cells.length≠some (b,C'))→False:=by
   intro z hz hzi hdz C hC hpw
   rcases hb' with h|⟨C2,h⟩
   ·have:=cO hs ⟨z.1,z.2,C,hz,hdz,hC⟩;omega
   ·exact hpw hzi b' C C2 hdz hd hC h
  by_cases h1:x.1=id
  ·have h2:y.1≠id:=fun e=>hne (h1.trans e.symm)
   have hxc:x.2=cells:=hs.key (id:=id) (by rw[←h1];exact hx) hin;simp only[h1,if_true,Mm.up,and_self,Option.some.injEq,Prod.mk.injEq] at hax;obtain⟨rfl,rfl⟩:=hax;simp only[h2,if_false,Mm.up,false_and] at hay;refine clash y hy h2 hdy D hay (fun _ b C C' hdz hdi hC hC'=>?_);exact hxy b C' C hdx hdz (by rw[h1,hxc];exact hC') hC
  ·simp only[h1,if_false,Mm.up,false_and] at hax;by_cases h2:y.1=id
   ·have hyc:y.2=cells:=hs.key (id:=id) (by rw[←h2];exact hy) hin;simp only[h2,if_true,Mm.up,and_self,Option.some.injEq,Prod.mk.injEq] at hay;obtain⟨rfl,rfl⟩:=hay;refine clash x hx h1 hdx C hax (fun _ b C C' hdz hdi hC hC'=>?_);exact hxy b C C' hdz hdy hC (by rw[h2,hyc];exact hC')
   ·simp only[h2,if_false,Mm.up,false_and] at hay;exact hxy b C D hdx hdy hax hay
theorem rO(hs:a9 B h m w){id:Nat}{cells cells':List AV}(hin:(id,cells)∈h)(hd:m.dom id)(hlen:cells.length≤cells'.length){b' C':Nat}(hsame:cells'.length=cells.length→m.addr id cells.length=some (b',C'))(hb':w.heap.size≤b'∨∃C,m.addr id cells.length=some (b',C))(hoth:∀k,k<w.heap.size→(∀C,m.addr id cells.length≠some (k,C))→w'.heap[k]?=w.heap[k]?)(hnew:∃cs e,w'.heap[b']?=some (.cells cs e (0,0))∧cs.size=C'∧cells'.length≤C'∧B.n≤b'∧∀(j:Nat)(p:AV)(v:Value),cells'[j]?=some p→cs[j]?=some v→au B (LB m h) m w p v):a9 B (fU h id cells') (m.up id cells'.length (some (b',C'))) w'∧m.le (m.up id cells'.length (some (b',C')))∧(∀b,b<w.heap.size→¬LB m h b→¬LB (m.up id cells'.length (some (b',C'))) (fU h id cells') b)∧(∀b,b<w.heap.size→¬LB m h b→w'.heap[b]?=w.heap[b]?):=
 Az hs hin hd hlen hsame hb' hoth (.inl hnew)
theorem pC(hs:a9 B h m w):h.Pairwise fun p q=>p.1≠q.1:=hs.inj.imp fun h=>h.1
end
section
variable{P:Program}{B:Base}{m:Mm}{w w':World}{H h:aj}{n:Nat}{env:Env}{a:Act}{L:Nat→Prop}
end
def j5(P:Program)(env:Env)(h:aj)(n:Nat)(args:List Operand)(tys:List TypeId)(K:AV→aj→Nat→Prop):Prop:=
 match args,tys with
 |[s,x],[t,tx]=>
  match slE P t,slE P tx with
  |some (e,sz),some _=>
   match byE P e,cL P e,fq h sz (ev env x) with
   |some by_,some z,some (k2,news,c)=>
    match ev env s with
    |.msl id ver z' off k=>
     match aV h id with
     |some cells=>(c∧off=0∧cells.length=ver∧z'=sz∧z.length=sz∧0<sz∧k*sz≤ver∧k+k2≤1000000000∧by_≤100000∧bV news=true) ∧
       K (.msl id (ft cells (k*sz) news).length sz 0 (k+k2)) (br h id (ft cells (k*sz) news)) n
     |none=>False
    |.w own true (.sl k cells)=>
     bif own&&decide (k=0)&&cells.isEmpty then (c∧0<k2∧z.length=sz∧0<sz∧k2≤1000000000∧by_≤100000)∧K (.msl n news.length sz 0 k2) ((n,news)::h) (n+1)
     else match pvs news with
      |some q=>(c∧cells.length=k*sz∧z.length=sz∧0<sz∧k+k2≤1000000000∧by_≤100000)∧K (.w (dE q&&(own || cells.isEmpty)) false (.sl (k+k2) (cells++q))) h n
      |none=>False
    |_=>False
   |_,_,_=>False
  |_,_=>False
 |_,_=>False
def j6(P:Program)(env:Env)(h:aj)(n:Nat)(t:TypeId)(ad x:Operand)(K:AV→aj→Nat→Prop):Prop:=
 match tyL P t,ev env ad with
 |some (sz,_),.ptr id ver off=>
  match aV h id with
  |some cells=>(cells.length=ver∧(ev env x).ok=true∧(ev env x).cells.length=sz∧off+sz≤cells.length∧bV (ev env x).cells=true)∧K (.tup []) (br h id (setAt cells off (ev env x).cells)) n
  |none=>False
 |_,_=>False
theorem AA(c new:List AV)(p:Nat)(hp:p≤c.length)(j:Nat):(ft c p new)[j]?=if p≤j∧j<p+new.length then new[j-p]? else c[j]?:=by
 unfold ft;split
 ·rename_i e;rw[List.getElem?_append];split
  ·rename_i hj;rw[if_neg (by omega)]
  ·rename_i hj;rw[e];split
   ·rfl
   ·rename_i h2;rw[List.getElem?_eq_none (by omega),List.getElem?_eq_none (by omega)]
 ·rw[List.append_assoc,List.getElem?_append];simp only[List.length_take,Nat.min_eq_left hp];split
  ·rename_i hj;rw[if_neg (by omega),List.getElem?_take,if_pos hj]
  ·rename_i hj;rw[List.getElem?_append];split
   ·rename_i h2;rw[if_pos (by omega)]
   ·rename_i h2;rw[if_neg (by omega),List.getElem?_drop];congr 1;omega
theorem GR(c new:List AV)(p:Nat)(hp:p≤c.length):(ft c p new).length=max c.length (p+new.length):=by
 unfold ft;split
 ·rename_i e;simp;omega
 ·simp;omega
theorem AB:∀(us:List Value)(off:Nat)(cs:Array Value),off+us.length≤cs.size→∀j,(dh cs off us)[j]?=if off≤j∧j<off+us.length then us[j-off]? else cs[j]?
 |[],off,cs,_,j=>by
  simp only[dh,List.length_nil];rw[if_neg (by omega)]
 |v::r,off,cs,h,j=>by
  simp only[dh];rw[AB r (off+1) _ (by simp at h ⊢;omega) j];simp only[List.length_cons] at h ⊢;by_cases h1:j=off
  ·subst h1;rw[if_neg (by omega),if_pos (by omega)];rw[Array.getElem?_setIfInBounds];simp;omega
  ·by_cases h2:off+1≤j∧j<off+1+r.length
   ·rw[if_pos h2,if_pos (by omega)]
    have:j-off=(j-(off+1))+1:=by omega
    rw[this,List.getElem?_cons_succ]
   ·rw[if_neg h2,if_neg (by omega),Array.getElem?_setIfInBounds];simp[Ne.symm h1]
section
variable{P:Program}{B:Base}{m:Mm}{w w':World}{H h:aj}{n:Nat}{env:Env}{a:Act}{L:Nat→Prop}
def EPost(B:Base)(h:aj)(m:Mm)(w:World)(n:Nat)(h':aj)(n':Nat)(v:AV)(v':Value)(w':World)(m':Mm):Prop:=
 m.le m'∧(∀i,m'.dom i↔m.dom i∨(n≤i∧i<n'))∧Bel B.n w w'∧a9 B h' m' w'∧(∀b,b<w.heap.size→¬LB m h b→¬LB m' h' b)∧(∀b,b<w.heap.size→¬LB m h b→w'.heap[b]?=w.heap[b]?)∧au B (LB m' h') m' w' v v'
theorem je{p:Nat→Prop}{n:Nat}:∀i,p i↔p i∨(n≤i∧i<n):=fun i=>⟨.inl,fun h=>h.elim id fun h=>by omega⟩
theorem AD(hs:a9 B h m w){id:Nat}{cells:List AV}(hin:(id,cells)∈h):fU h id cells=h:=by
 unfold fU
 conv=>rhs;rw[←List.map_id h]
 refine List.map_congr_left fun p hp=>?_
 split
 ·rename_i e;have:p.2=cells:=hs.key (id:=id) (by rw[←e];exact hp) hin;rw[←this];rfl
 ·rfl
theorem vR{b:Nat}(hb:B.n≤b)(w:World)(cs:Array Value)(e:TypeId):Bel B.n w (dg w b cs e):=
 ⟨rfl,rfl,by rw[GN];exact Nat.le_refl _,fun k hk=>rJ w b cs e (by omega)⟩
theorem AE(hB:B.n≤w.heap.size)(o:Obj):Bel B.n w (w.drew.alloc o):=
 ⟨rfl,rfl,by rw[vE];exact Nat.le_succ _,fun k hk=>fZ w.drew o (show k<w.heap.size by omega)⟩
theorem vS{ps:List AV}{us:List Value}(hone:bV ps=true)(hl:us.length=ps.length)(hr:∀(j:Nat)(p:AV)(u:Value),ps[j]?=some p→us[j]?=some u→au B L m w p u):∀v∈us,v.oneCell'=true:=by
 intro v hv;obtain⟨j,hj,rfl⟩:=List.getElem_of_mem hv
 have hj':j<ps.length:=by omega
 exact GQ (Ax hone j ps[j] (List.getElem?_eq_getElem hj')) (hr j ps[j] us[j] (List.getElem?_eq_getElem hj') (List.getElem?_eq_getElem hj))
theorem GU(hs:a9 B h m w)(hB:B.n≤w.heap.size){t tx e sz:Nat}{ex:TypeId×Nat}{by_:Nat}{z:List AV}(ht:slE P t=some (e,sz))(htx:slE P tx=some ex)(hby:byE P e=some by_)(hz:cL P e=some z){x s:Value}{xa:AV}{k2:Nat}{news:List AV}{c:Prop}(hsrc:fq h sz xa=some (k2,news,c))(hc:c)(hx:au B (LB m h) m w xa x){id ver k:Nat}{cells:List AV}(hsr:au B (LB m h) m w (.msl id ver sz 0 k) s)(hg:aV h id=some cells)(c1:cells.length=ver)(c3:z.length=sz)(c4:0<sz)(c5:k*sz≤ver)(c6:k+k2≤1000000000)(c7:by_≤100000)(c8:bV news=true)(ty:TypeId):∃v' w' m',(Builtin.append_ #[t,tx] ty #[s,x]).run P w=.ok v' w'∧EPost B h m w n (br h id (ft cells (k*sz) news)) n (.msl id (ft cells (k*sz) news).length sz 0 (k+k2)) v' w' m':=by
 have hhs:br h id (ft cells (k*sz) news)=fU h id (ft cells (k*sz) news):=pB h id _ (pC hs);rw[hhs];obtain⟨ht',i,hi,hsz⟩:=gv ht;obtain⟨htx',_⟩:=gv (e:=ex.1) (z:=ex.2) htx;obtain⟨iz,vz,hiz,hzero,rfl⟩:=mJ hz
 rw[hi] at hiz;injection hiz with hiz;subst hiz
 have hby':i.bytes≤100000:=by
  have:i.bytes=by_:=by simpa[byE,hi] using hby
  omega
 obtain⟨ax,cx,us,rfl,hul,hnl,hfirst,hur⟩:=rH hsrc hc hs (fun id cs e=>dC e) hx;obtain⟨a0,cap,rfl,hk,hd,hver,h3,h4⟩:=hsr.j3;have hin:=dC hg;subst c1;have hlen':=GR cells news (k*sz) c5
 have hzc:vz.cells.size=sz:=by rw[←c3];simp
 by_cases hfit:k+k2≤cap
 ·cases ha:m.addr id cells.length with
  |none=>
   obtain⟨rfl,h5⟩:=h3 ha
   have hk2:k2=0:=by omega
   have hk0:k=0:=by omega
   subst hk2;subst hk0;have hn0:news=[]:=List.eq_nil_of_length_eq_zero (by simpa using hnl);have hu0:us=[]:=List.eq_nil_of_length_eq_zero (by simpa using hul);subst hn0;subst hu0;have hc0:cells=[]:=List.eq_nil_of_length_eq_zero h5
   have hins:ft cells (0*sz) []=cells:=by subst hc0;simp[ft]
   rw[hins,AD hs hin];refine⟨_,w,m,vL ht' htx' hi hsz ty a0 0 0 0 _ ax cx rfl [] (hfirst w rfl) (by omega) w (fun ad _=>rfl) (fun _=>rfl),Mm.le.refl m,je,Bel.refl _ _,hs,fun b _ h=>h,fun b _ _=>rfl,?_⟩;exact .msl hd hver (by omega) (fun _=>⟨rfl,h5⟩) (fun b C e=>by rw[ha] at e;cases e)
  |some bc=>
   obtain⟨b,C⟩:=bc;obtain⟨h5,h6,h7⟩:=h4 b C ha;simp only[Nat.zero_add] at h6 h7;obtain⟨cs,e',hh,hC,hle,hbB,hcell⟩:=hs.read hin hd ha (by omega);have hkz:(k+k2)*sz≤cap*sz:=Nat.mul_le_mul_right _ hfit;have hkk:(k+k2)*sz=k*sz+k2*sz:=Nat.add_mul _ _ _
   have hst:∀ad,a0=some ad→(storeCells (ad.add (k*sz)) us).run P w=.ok () (dg w b (dh cs (k*sz) us) e'):=by
    intro ad e
    rcases Nat.eq_zero_or_pos cap with h0|h0
    ·have hus:us=[]:=List.eq_nil_of_length_eq_zero (by rw[hul];have:k2=0:=by omega
                                                       simp[this])
     subst hus;simp only[dh,storeCells];rw[pA w b cs e' hh];rfl
    ·rw[h5 h0] at e;injection e with e;subst e
     rw[Addr.fN];have:=rM (P:=P) b (0+k*sz) e' us 0 w cs hh (by omega) (vS c8 (by omega) hur);simpa using this
   have hno:a0=none→dg w b (dh cs (k*sz) us) e'=w:=by
    intro e
    rcases Nat.eq_zero_or_pos cap with h0|h0
    ·have hus:us=[]:=List.eq_nil_of_length_eq_zero (by rw[hul];have:k2=0:=by omega
                                                       simp[this])
     subst hus;exact pA w b cs e' hh
    ·rw[h5 h0] at e;cases e
   have hrun:=vL ht' htx' hi hsz ty a0 k cap k2 _ ax cx rfl us (hfirst w rfl) hfit _ hst hno;obtain⟨u1,u2,u3,u4⟩:=rO (w':=dg w b (dh cs (k*sz) us) e') hs hin hd (cells':=ft cells (k*sz) news) (by omega) (b':=b) (C':=C) (fun _=>ha) (.inr ⟨C,ha⟩)
    (fun q hq hne=>rJ w b _ _ (fun e=>hne C (e▸ha)))
    ⟨dh cs (k*sz) us,e',rK w b _ _ (cO hs ⟨id,cells,C,hin,hd,ha⟩),by rw[rL,hC],by omega,hbB,fun j p v hp hv=>by
      rw[AA cells news (k*sz) c5] at hp;rw[AB us (k*sz) cs (by omega)] at hv;rw[hul,←hnl] at hv;split at hp
      ·rename_i hj;rw[if_pos hj] at hv;exact hur _ p v hp hv
      ·rename_i hj;rw[if_neg hj] at hv
       exact hcell j p v hp hv⟩
   refine⟨_,_,_,hrun,u2,je,vR hbB w _ _,u1,u3,u4,?_⟩;refine .msl hd (by simp[Mm.up]) hfit (fun e=>?_) (fun b' C' e=>?_)
   ·simp[Mm.up] at e
   ·simp only[Mm.up,and_self,if_true,Option.some.injEq,Prod.mk.injEq] at e;obtain⟨rfl,rfl⟩:=e;exact⟨h5,by omega,by omega⟩
 ·have hold:∃os:List Value,os.length=k*sz∧(Builtin.firstCells sz k (.slice a0 k cap)).run P w.drew=.ok os.toArray w.drew∧∀(j:Nat)(p:AV)(v:Value),j<k*sz→cells[j]?=some p→os[j]?=some v→au B (LB m h) m w p v:=by
   cases ha:m.addr id cells.length with
   |none=>
    obtain⟨rfl,h5⟩:=h3 ha
    have hk0:k=0:=by omega
    subst hk0;exact⟨[],by simp,jM sz 0 a0 0 [] (by simp) (fun _=>by simp) (fun _ _ j u hj=>by simp at hj),fun j p v hj=>by simp at hj⟩
   |some bc=>
    obtain⟨b,C⟩:=bc;obtain⟨h5,h6,h7⟩:=h4 b C ha;obtain⟨cs,e',hh,hC,hle,hbB,hcell⟩:=hs.read hin hd ha (by omega);refine⟨(List.range (k*sz)).map (fun j=>cs.getD j undef),by simp,jM sz k a0 cap _ (by simp) (fun e=>?_) (fun ad e j u hj=>?_),fun j p v hj hp hv=>?_⟩
    ·rcases Nat.eq_zero_or_pos cap with h0|h0
     ·have:k=0:=by omega
      simp[this]
     ·rw[h5 h0] at e;cases e
    ·obtain⟨y,hy,rfl⟩:=cX hj;obtain⟨hlt,rfl⟩:=List.getElem?_eq_some_iff.1 hy;simp only[List.length_range] at hlt;simp only[List.getElem_range]
     have hcx:0<cap:=by
      rcases Nat.eq_zero_or_pos cap with h|h
      ·have:k=0:=by omega
       rw[this] at hlt;simp at hlt
      ·exact h
     rw[h5 hcx] at e;injection e with e;subst e
     have hj':j<cs.size:=by omega
     rw[Addr.fN,Nat.zero_add];show w.cell? _=_;rw[jL hh];simp[hj']
    ·have hj':j<cs.size:=by omega
     simp only[List.getElem?_map,List.getElem?_range hj,Option.map_some,Option.some.injEq] at hv;exact hcell j p v hp (by rw[←hv];simp[hj'])
  obtain⟨os,hol,hofirst,hor⟩:=hold;obtain⟨nc,rest,hnc,hrest,hrun⟩:=vM ht' htx' hi hsz hzero ty a0 k cap k2 _ ax cx rfl us os (hfirst w.drew rfl) hofirst hfit c6 hby';have hkz:cap*sz<(k+k2)*sz:=Nat.mul_lt_mul_of_pos_right (by omega) c4;have hkk:(k+k2)*sz=k*sz+k2*sz:=Nat.add_mul _ _ _
  have hlt:cells.length<k*sz+news.length:=by
   cases ha:m.addr id cells.length with
   |none=>obtain⟨_,h5⟩:=h3 ha;omega
   |some bc=>obtain⟨_,_,h7⟩:=h4 bc.1 bc.2 ha;omega
  have hsize:(os.toArray++us.toArray++rest).size=nc*sz:=by
   have:(nc-(k+k2))*sz=nc*sz-(k+k2)*sz:=Nat.sub_mul _ _ _;have h9:(k+k2)*sz≤nc*sz:=Nat.mul_le_mul_right _ hnc;simp only[Array.size_append,List.size_toArray,hrest,hzc];omega
  have hncz:(k+k2)*sz≤nc*sz:=Nat.mul_le_mul_right _ hnc;obtain⟨u1,u2,u3,u4⟩:=rO (w':=w.drew.alloc (.cells (os.toArray++us.toArray++rest) e)) hs hin hd (cells':=ft cells (k*sz) news) (by omega) (b':=w.heap.size) (C':=nc*sz) (fun e=>by omega) (.inl (Nat.le_refl _))
   (fun q hq hne=>fZ w.drew _ hq)
   ⟨_,e,rC w.drew _,hsize,by omega,hB,fun j p v hp hv=>by
     rw[AA cells news (k*sz) c5] at hp;rw[Array.append_assoc,Array.getElem?_append] at hv;simp only[List.size_toArray] at hv;split at hp
     ·rename_i hj;rw[if_neg (by omega),Array.getElem?_append,List.size_toArray,if_pos (by omega),List.getElem?_toArray,hol] at hv;exact hur _ p v hp hv
     ·rename_i hj;have hjc:j<cells.length:=(List.getElem?_eq_some_iff.1 hp).1;rw[if_pos (by omega),List.getElem?_toArray] at hv
      exact hor j p v (by omega) hp hv⟩
  refine⟨_,_,_,hrun,u2,je,AE hB _,u1,u3,u4,?_⟩;refine .msl hd (by simp[Mm.up]) hnc (fun e=>?_) (fun b' C' e=>?_)
  ·simp[Mm.up] at e
  ·simp only[Mm.up,and_self,if_true,Option.some.injEq,Prod.mk.injEq] at e;obtain⟨rfl,rfl⟩:=e;exact⟨fun _=>rfl,by omega,by omega⟩
end
end Go.Fi
namespace Go.Fi
open Go Go.RowKit
variable[ar]
section
variable{P:Program}{B:Base}{m:Mm}{w w':World}{H h:aj}{n:Nat}{env:Env}{a:Act}{L:Nat→Prop}
section
omit [ar]
theorem rP{c:List AV}(hnd:¬m.dom n)(b:Nat):LB m ((n,c)::h) b↔LB m h b:=by
 constructor
 ·rintro⟨id,cs,C,hin,hd,ha⟩
  rcases List.mem_cons.1 hin with e|e
  ·injection e with e1 e2;subst e1;exact absurd hd hnd
  ·exact⟨id,cs,C,e,hd,ha⟩
 ·rintro⟨id,cs,C,hin,hd,ha⟩
  exact⟨id,cs,C,List.mem_cons_of_mem _ hin,hd,ha⟩
theorem vU(hs:a9 B h m w){c:List AV}(hnd:¬m.dom n)(hne:∀id cs,(id,cs)∈h→id≠n):a9 B ((n,c)::h) m w:=by
 have hL:LB m ((n,c)::h)=LB m h:=funext fun b=>propext (rP hnd b)
 refine⟨fun id cells hin hd=>?_,?_⟩
 ·rw[hL]
  rcases List.mem_cons.1 hin with e|e
  ·injection e with e1 e2;subst e1;exact absurd hd hnd
  ·exact hs.entry id cells e hd
 ·refine List.pairwise_cons.2 ⟨fun y hy=>⟨fun e=>hne y.1 y.2 hy e.symm,fun b C C' hd=>absurd hd hnd⟩,hs.inj⟩
theorem GV(hs:a9 B h m w)(hnd:¬m.dom n)(hne:∀id cs,(id,cs)∈h→id<n)(hB:B.n≤w.heap.size){t tx e sz:Nat}{ex:TypeId×Nat}{by_:Nat}{z:List AV}(ht:slE P t=some (e,sz))(htx:slE P tx=some ex)(hby:byE P e=some by_)(hz:cL P e=some z){x s:Value}{xa:AV}{k2:Nat}{news:List AV}{c:Prop}(hsrc:fq h sz xa=some (k2,news,c))(hc:c)(hx:au B (LB m h) m w xa x){own:Bool}(hsr:au B (LB m h) m w (.w own true (.sl 0 [])) s)(c1:0<k2)(c3:z.length=sz)(c6:k2≤1000000000)(c7:by_≤100000)(ty:TypeId):∃v' w' m',(Builtin.append_ #[t,tx] ty #[s,x]).run P w=.ok v' w'∧EPost B h m w n ((n,news)::h) (n+1) (.msl n news.length sz 0 k2) v' w' m':=by
 have hs':=vU (c:=news) hs hnd (fun id cs hin=>by have:=hne id cs hin;omega)
 have hL:LB m ((n,news)::h)=LB m h:=funext fun b=>propext (rP hnd b)
 obtain⟨ht',i,hi,hsz⟩:=gv ht;obtain⟨htx',_⟩:=gv (e:=ex.1) (z:=ex.2) htx;obtain⟨iz,vz,hiz,hzero,rfl⟩:=mJ hz
 rw[hi] at hiz;injection hiz with hiz;subst hiz
 have hby':i.bytes≤100000:=by
  have:i.bytes=by_:=by simpa[byE,hi] using hby
  omega
 obtain⟨ax,cx,us,rfl,hul,hnl,hfirst,hur⟩:=rH hsrc hc hs (fun id cs e=>dC e) hx;obtain⟨a0,cap,rfl,_,hfull,_,_⟩:=hsr.j1;have hcap:=hfull rfl;subst hcap
 have hzc:vz.cells.size=sz:=by rw[←c3];simp
 obtain⟨nc,rest,hnc,hrest,hrun⟩:=vM ht' htx' hi hsz hzero ty a0 0 0 k2 _ ax cx rfl us [] (hfirst w.drew rfl)
  (jM sz 0 a0 0 [] (by simp) (fun _=>by simp) (fun _ _ j u hj=>by simp at hj)) (by omega) (by omega) hby'
 simp only[Nat.zero_add] at hnc hrest hrun;have hncz:k2*sz≤nc*sz:=Nat.mul_le_mul_right _ hnc
 have hsize:(#[]++us.toArray++rest).size=nc*sz:=by
  have:(nc-k2)*sz=nc*sz-k2*sz:=Nat.sub_mul _ _ _;simp only[Array.size_append,List.size_toArray,hrest,hzc,List.length_nil];omega
 have hne':a9 B ((n,news)::h) (m.new n news.length (some (w.heap.size,nc*sz))) (w.drew.alloc (.cells (#[]++us.toArray++rest) e)):=by
  rw[←hsize]
  exact Ab (w:=w.drew) (hs'.below (w':=w.drew) (Bel.refl _ _).drew) hB (id:=n) (cells:=news) (List.mem_cons_self) hnd (#[]++us.toArray++rest) e (by rw[hsize];omega) (fun j p v hp hv=>by
  have hj:=(List.getElem?_eq_some_iff.1 hp).1;rw[Array.empty_append,Array.getElem?_append,List.size_toArray,if_pos (by omega),List.getElem?_toArray] at hv;rw[hL]
  exact (hur j p v hp hv).mono (Mm.le.refl m) (fun _ _ h=>h) (fun _ _ _=>rfl))
 refine⟨_,_,m.new n news.length (some (w.heap.size,nc*sz)),hrun,Mm.qB hnd,fun i=>?_,AE hB _,hne',fun b hb hn hl=>?_,fun b hb _=>fZ w.drew _ hb,?_⟩
 ·simp only[Mm.new];constructor
  ·rintro (h1|h1)
   ·exact .inl h1
   ·exact .inr (by omega)
  ·rintro (h1|h1)
   ·exact .inl h1
   ·exact .inr (by omega)
 ·rcases pt (w:=w) hs' (List.mem_cons_self) hl with h1|⟨C,h1⟩
  ·rw[hL] at h1;exact hn h1
  ·injection h1 with h1;injection h1 with h1 _;omega
 ·refine .msl (Or.inr rfl) (by simp[Mm.new]) hnc (fun e=>?_) (fun b' C' e=>?_)
  ·simp[Mm.new] at e
  ·simp only[Mm.new,and_self,if_true,Option.some.injEq,Prod.mk.injEq] at e;obtain⟨rfl,rfl⟩:=e;exact⟨fun _=>rfl,by omega,by omega⟩
theorem GW(hs:a9 B h m w)(hB:B.n≤w.heap.size){t tx e sz:Nat}{ex:TypeId×Nat}{by_:Nat}{z:List AV}(ht:slE P t=some (e,sz))(htx:slE P tx=some ex)(hby:byE P e=some by_)(hz:cL P e=some z){x s:Value}{xa:AV}{k2:Nat}{news:List AV}{c:Prop}(hsrc:fq h sz xa=some (k2,news,c))(hc:c)(hx:au B (LB m h) m w xa x){q:List PV}(hq:pvs news=some q){own:Bool}{k:Nat}{cells:List PV}(hsr:au B (LB m h) m w (.w own true (.sl k cells)) s)(c1:cells.length=k*sz)(c3:z.length=sz)(c6:k+k2≤1000000000)(c7:by_≤100000)(ty:TypeId):∃v' w' m',(Builtin.append_ #[t,tx] ty #[s,x]).run P w=.ok v' w'∧EPost B h m w n h n (.w (dE q&&(own || cells.isEmpty)) false (.sl (k+k2) (cells++q))) v' w' m':=by
 obtain⟨v',w',hrun,hb,hs',hv⟩:=Ar hs (fun id cs e=>dC e) hB ht htx hby hz hsrc hc hx hq hsr c1 c3 c6 c7 ty;exact⟨v',w',m,hrun,Mm.le.refl m,je,hb.mono hB,hs',fun b _ h=>h,fun b hb' _=>hb.block b hb',hv⟩
end
end
end Go.Fi
namespace Go.Fi
open Go Go.RowKit
def shr(sz k:Nat):AV→AV
 |.msl id ver z off k2=>.msl id ver z off (min k2 k)
 |.w own _ (.sl k2 c)=>.w own false (.sl (min k2 k) (c.take (min k2 k*sz)))
 |x=>x
def lX(P:Program)(h:aj)(t:TypeId)(d x:AV):Option (Prop×AV×aj):=
 match slE P t,d with
 |some (_,sz),.msl id ver z' off k=>
  match aV h id,fq h sz (shr sz k x) with
  |some cells,some (kk,news,c)=>some ((c∧cells.length=ver∧z'=sz∧off+k*sz≤ver∧bV news=true),.w false false (.int .i64 kk),br h id (setAt cells off news))
  |_,_=>none
 |_,_=>none
def oH(P:Program)(h:aj)(args:List AV)(tys:List TypeId):Option (Prop×AV×aj):=
 match args,tys with
 |[d,x],t::_=>lX P h t d x
 |_,_=>none
def j7(P:Program)(env:Env)(h:aj)(n:Nat)(args:List Operand)(tys:List TypeId)(K:AV→aj→Nat→Prop):Prop:=
 match oH P h (args.map (ev env)) tys with
 |some (c,v,h')=>c∧K v h' n
 |none=>False
section
variable{P:Program}{B:Base}{m:Mm}{w w':World}{H h:aj}{n:Nat}{env:Env}{a:Act}{L:Nat→Prop}
theorem GX{sz k:Nat}{x:AV}{v:Value}{y:Nat×List AV×Prop}(h0:fq h sz (shr sz k x)=some y)(hx:au B L m w x v):∃a0 k2 cap,v=.slice a0 k2 cap∧y.1=min k2 k∧au B L m w (shr sz k x) (.slice a0 (min k2 k) cap):=by
 cases x with
 |msl id ver z off k2=>
  obtain⟨a0,cap,rfl,h1,h2,h3,h4,h5⟩:=hx.j3;refine⟨a0,k2,cap,rfl,?_,.msl h2 h3 (by omega) h4 h5⟩;simp only[shr,fq] at h0;split at h0
  ·injection h0 with h0;rw[←h0]
  ·cases h0
 |w own f p=>
  cases p with
  |sl k2 c=>
   obtain⟨a0,cap,rfl,h1,h2,h3,h4⟩:=hx.j1;refine⟨a0,k2,cap,rfl,?_,?_⟩
   ·simp only[shr,fq] at h0
    injection h0 with h0;rw[←h0]
   ·simp only[shr];refine .w ?_ (fun e=>by cases e)
    cases hc:c with
    |nil=>
     cases ha:a0 with
     |none=>
      obtain⟨rfl,rfl⟩:=h3 ha;simp only[List.take_nil,Nat.zero_min];exact .slnil
     |some a=>
      simp only[List.take_nil];exact .slz (by omega)
    |cons y ys=>
     obtain⟨b,off,vals,rfl,h5,h6,h7⟩:=h4 (by rw[hc];simp);rw[←hc];refine .sl vals (by omega) (fun j hj=>h5 j (by simp at hj;omega)) (fun _=>h6) (fun j q hq=>?_);rw[List.getElem?_take] at hq;split at hq
     ·exact h7 j q hq
     ·cases hq
  |_=>simp[shr,fq] at h0
 |_=>simp[shr,fq] at h0
theorem GY(hs:a9 B h m w){t:TypeId}{d x:AV}{dv xv:Value}{c:Prop}{v:AV}{h':aj}(hr:lX P h t d x=some (c,v,h'))(hc:c)(hd:au B (LB m h) m w d dv)(hx:au B (LB m h) m w x xv)(tys:List TypeId)(ty:TypeId):∃v' w' m',(Builtin.copy_ (t::tys).toArray ty #[dv,xv]).run P w=.ok v' w'∧EPost B h m w n h' n v v' w' m':=by
 unfold lX at hr;split at hr
 ·rename_i e sz id ver z' off k ht;split at hr
  ·rename_i cells kk news c' hg hsrc;simp only[Option.some.injEq,Prod.mk.injEq] at hr;obtain⟨rfl,rfl,rfl⟩:=hr;obtain⟨c0,c1,c2,c3,c4⟩:=hc;subst c2;subst c1;obtain⟨ht',i,hi,hsz⟩:=gv ht;obtain⟨ax,k2,cx,rfl,hkk,hx'⟩:=GX hsrc hx;simp only at hkk;obtain⟨ax',cx',us,hv,hul,hnl,hfirst,hur⟩:=rH hsrc c0 hs (fun id cs e=>dC e) hx'
   injection hv with hv1 hv2 hv3
   subst hv1 hv3
   have hfirst':(Builtin.firstCells z' kk (.slice ax k2 cx)).run P w=.ok us.toArray w:=by
    have:=hfirst w rfl;rw[←hkk] at this;rw[←this]
    cases ax<;>rfl
   obtain⟨a0,cap,rfl,hk,hdm,hver,h3,h4⟩:=hd.j3;rw[pB h id _ (pC hs)];have hin:=dC hg;have hkz:kk*z'≤k*z':=Nat.mul_le_mul_right _ (by omega)
   cases ha:m.addr id cells.length with
   |none=>
    obtain⟨rfl,h5⟩:=h3 ha
    have hk0:kk=0:=by omega
    have hc0:cells=[]:=List.eq_nil_of_length_eq_zero h5;subst hc0;have hu0:us=[]:=List.eq_nil_of_length_eq_zero (by rw[hul,hk0];simp);have hn0:news=[]:=List.eq_nil_of_length_eq_zero (by rw[hnl,hk0];simp);subst hu0 hn0;have hmin:Nat.min k2 k=kk:=hkk.symm;have hself:fU h id (setAt [] off [])=h:=AD hs hin;refine⟨.int .i64 kk,w,m,?_,Mm.le.refl m,je,Bel.refl _ _,?_,fun b _ h=>?_,fun b _ _=>rfl,.w (.int _ _) (fun h=>by cases h)⟩
    ·cases a0 with
     |none=>simp[Builtin.copy_,run_underlying ht',sizeOf,typeInfo,hi,hsz,Builtin.lenOf,hmin,hfirst',goInt]
     |some ad=>simp[Builtin.copy_,run_underlying ht',sizeOf,typeInfo,hi,hsz,Builtin.lenOf,hmin,hfirst',goInt,storeCells]
    ·have:=hs;rw[←hself] at this;exact this
    ·have h2:=h;rw[←hself] at h2;exact h2
   |some bc=>
    obtain⟨b,C⟩:=bc;obtain⟨h5,h6,h7⟩:=h4 b C ha;obtain⟨cs,e',hh,hC,hle,hbB,hcell⟩:=hs.read hin hdm ha (by omega);have hlen:(setAt cells off news).length=cells.length:=rE _ _ _;have hst:=rM (P:=P) b off e' us 0 w cs hh (by omega) (vS c4 (by omega) hur);simp only[Nat.add_zero] at hst;have hmin:Nat.min k2 k=kk:=hkk.symm
    have hrun:(Builtin.copy_ (t::tys).toArray ty #[.slice a0 k cap,.slice ax k2 cx]).run P w=.ok (.int .i64 kk) (dg w b (dh cs off us) e'):=by
     cases a0 with
     |none=>
      have hcap:cap=0:=by
       rcases Nat.eq_zero_or_pos cap with h0|h0
       ·exact h0
       ·have:=h5 h0;cases this
      have hu0:us=[]:=List.eq_nil_of_length_eq_zero (by rw[hul,show kk=0 by omega];simp);subst hu0;simp only[dh];rw[pA w b cs e' hh];simp[Builtin.copy_,run_underlying ht',sizeOf,typeInfo,hi,hsz,Builtin.lenOf,hmin,hfirst',goInt]
     |some ad=>
      have hsto:(storeCells ad us).run P w=.ok () (dg w b (dh cs off us) e'):=by
       rcases Nat.eq_zero_or_pos cap with h0|h0
       ·have hu0:us=[]:=List.eq_nil_of_length_eq_zero (by rw[hul,show kk=0 by omega];simp);subst hu0;simp only[dh,storeCells];rw[pA w b cs e' hh];rfl
       ·have:=h5 h0
        injection this with this
        rw[this];exact hst
      simp[Builtin.copy_,run_underlying ht',sizeOf,typeInfo,hi,hsz,Builtin.lenOf,hmin,hfirst',goInt,hsto]
    obtain⟨u1,u2,u3,u4⟩:=rO (w':=dg w b (dh cs off us) e') hs hin hdm (cells':=setAt cells off news) (by omega) (b':=b) (C':=C) (fun _=>ha) (.inr ⟨C,ha⟩)
     (fun q hq hne=>rJ w b _ _ (fun e=>hne C (e▸ha)))
     ⟨dh cs off us,e',rK w b _ _ (cO hs ⟨id,cells,C,hin,hdm,ha⟩),by rw[rL,hC],by omega,hbB,
       (vQ news us off cells cs ⟨by omega,hcell⟩ (by omega) hur).2⟩
    exact⟨_,_,_,hrun,u2,je,vR hbB w _ _,u1,u3,u4,.w (.int _ _) (fun h=>by cases h)⟩
  ·cases hr
 ·cases hr
end
end Go.Fi
namespace Go.Fi
open Go Go.RowKit
variable[ar]
structure St where
 env:Env
 heap:aj
 nxt:Nat
 nt:Nat
def AV.lt(n:Nat):AV→Bool
 |.w _ _ _=>true
 |.ptr id _ _=>decide (id<n)
 |.msl id _ _ _ _=>decide (id<n)
 |.mp id=>decide (id<n)
 |.agg cs=>ltL n cs
 |.tup cs=>ltL n cs
 |.fn _ cs=>ltL n cs
where ltL (n:Nat):List AV→Bool
 |[]=>true
 |x::r=>x.lt n&&ltL n r
section
omit [ar]
theorem ll{n:Nat}:∀{l:List AV},AV.lt.ltL n l=true→∀(j:Nat)(x:AV),l[j]?=some x→x.lt n=true
 |[],_,j,x,h=>by simp at h
 |y::l,hp,j,x,h=>by
  simp only[AV.lt.ltL,Bool.and_eq_true] at hp
  cases j with
  |zero=>simp at h;subst h;exact hp.1
  |succ j=>exact ll hp.2 j x (by simpa using h)
theorem au.yK{B:Base}{L L':Nat→Prop}{m:Mm}{w:World}{x:AV}{v:Value}(h:au B L m w x v){n:Nat}(hl:x.lt n=true)(hL:∀b,L' b→L b):au B L' { m with dom:=fun i=>i<n } w x v:=by
 induction h with
 |w hr hf=>exact .w (hr.imp fun b hg=>⟨fun hb=>hg.1 (hL b hb),hg.2⟩) hf
 |ptr hd ht ha hC=>exact .ptr (by simpa[AV.lt] using hl) ht ha hC
 |mp hd ht ha=>exact .mp (by simpa[AV.lt] using hl) ht ha
 |msl hd ht hn h0 h1=>exact .msl (by simpa[AV.lt] using hl) ht hn h0 h1
 |agg hlen _ ih=>exact .agg hlen (fun j p v hp hv=>ih j p v hp hv (ll (by simpa[AV.lt] using hl) j p hp))
 |tup hlen _ ih=>exact .tup hlen (fun j p v hp hv=>ih j p v hp hv (ll (by simpa[AV.lt] using hl) j p hp))
 |fn hlen _ ih=>exact .fn hlen (fun j p v hp hv=>ih j p v hp hv (ll (by simpa[AV.lt] using hl) j p hp))
theorem AV.oI{n n':Nat}(hn:n≤n'):∀{x:AV},x.lt n=true→x.lt n'=true
 |.w _ _ _,_=>rfl
 |.ptr _ _ _,h=>by simp only[AV.lt,decide_eq_true_eq] at h ⊢;omega
 |.msl _ _ _ _ _,h=>by simp only[AV.lt,decide_eq_true_eq] at h ⊢;omega
 |.mp _,h=>by simp only[AV.lt,decide_eq_true_eq] at h ⊢;omega
 |.agg cs,h=>ui hn (cs:=cs) h
 |.tup cs,h=>ui hn (cs:=cs) h
 |.fn _ cs,h=>ui hn (cs:=cs) h
where ui {n n':Nat} (hn:n≤n'):∀{cs:List AV},AV.lt.ltL n cs=true→AV.lt.ltL n' cs=true
 |[],_=>rfl
 |x::r,h=>by
  simp only[AV.lt.ltL,Bool.and_eq_true] at h ⊢;exact⟨AV.oI hn h.1,ui hn h.2⟩
end
structure RI where
 l:Nat
 env:Env
 nt:Nat
 ps:Array Tmp
 assign:Code
 body:Code
structure Fk where
 k:Nat
 ri:Option RI
abbrev fk0:Fk:=⟨0,none⟩
def marks(ds:List Nat):List Deferred:=ds.map fun D=>{ target:=.collected D,args:=#[] }
def bt(ri:RI)(fn:FuncId)(T:Array Value)(D:Nat)(s:LoopState)(p:Option Code):Obj:=.loop { state:=s,pending:=p,fn:=fn,tmps:=T,params:=ri.ps,assign:=ri.assign,body:=ri.body,defers:=D }
def Mj(ri:RI)(F:List (AV×Value))(obs:List (Nat×Obj)):Prop:=
 ∃fn T D,(ri.l,bt ri fn T D .ready none)∈obs∧T.size=ri.nt∧∀t v,(t,v)∈ri.env→(get ri.env t,T.getD t undef)∈F
def Eu(fk:Fk)(F:List (AV×Value))(obs:List (Nat×Obj)):Prop:=∀ri,fk.ri=some ri→Mj ri F obs
structure Ctx(fk:Fk) where
 w:World
 F:List (AV×Value)
 r:Option Nat
 obs:List (Nat×Obj)
 ds:List Nat
 bt:Eu fk F obs
 ok:ar.ok w
def lY(B:Base){fk:Fk}(w0:Ctx fk)(L:Nat→Prop)(m:Mm)(w:World)(n:Nat):Prop:=
 fk.k≤n∧(∀p∈w0.F,p.1.lt fk.k=true∧au B L m w p.1 p.2)∧∀q∈w0.obs,B.n≤q.1∧q.1<w.heap.size∧¬L q.1∧w.heap[q.1]?=some q.2
theorem lY.mono{B:Base}{fk:Fk}{w0:Ctx fk}{L L':Nat→Prop}{m m':Mm}{w w':World}{n n':Nat}(h:lY B w0 L m w n)(hm:m.le m')(hL:∀b,b<w.heap.size→¬L b→¬L' b)(hw:∀b,b<w.heap.size→¬L b→w'.heap[b]?=w.heap[b]?)(hn:n≤n'):lY B w0 L' m' w' n':=
 ⟨Nat.le_trans h.1 hn,fun p hp=>⟨(h.2.1 p hp).1,(h.2.1 p hp).2.mono hm hL hw⟩,fun q hq=>by
   obtain⟨h1,h2,h3,h4⟩:=h.2.2 q hq;have h5:=(hw q.1 h2 h3).trans h4
   exact⟨h1,(Array.getElem?_eq_some_iff.1 h5).1,hL q.1 h2 h3,h5⟩⟩
structure Sim{fk:Fk}(B:Base)(w0:Ctx fk)(st:St)(a:Act)(w:World)(m:Mm):Prop where
 base:B.n=w0.w.heap.size
 below:Bel B.n w0.w w
 defers:a.defers=marks w0.ds
 size:a.tmps.size=st.nt
 env:∀t,au B (LB m st.heap) m w (get st.env t) (a.tmps.getD t undef)
 heap:a9 B st.heap m w
 dom:∀i,m.dom i↔i<st.nxt
 ids:∀id c,(id,c)∈st.heap→id<st.nxt
 fr:lY B w0 (LB m st.heap) m w st.nxt
theorem Sim.ok{fk:Fk}{B:Base}{w0:Ctx fk}{st:St}{a:Act}{w:World}{m:Mm}(h:Sim B w0 st a w m):ar.ok w:=
 ar.keep w0.ok (by have:=h.below;rw[h.base] at this;exact this)
theorem Sim.room{fk:Fk}{B:Base}{w0:Ctx fk}{st:St}{a:Act}{w:World}{m:Mm}(h:Sim B w0 st a w m):B.n≤w.heap.size:=by
 have:=h.below.size;have:=h.base;omega
theorem Sim.bel{fk:Fk}{B:Base}{w0:Ctx fk}{st:St}{a:Act}{w w':World}{m:Mm}(h:Sim B w0 st a w m)(hb:Bel w.heap.size w w'):Sim B w0 st a w' m:=
 ⟨h.base,h.below.trans (hb.mono h.room),h.defers,h.size,fun t=>(h.env t).mono (Mm.le.refl m) (fun _ _ x=>x) (fun b hl _=>hb.block b hl),h.heap.below hb,h.dom,h.ids,
   h.fr.mono (Mm.le.refl m) (fun _ _ x=>x) (fun b hl _=>hb.block b hl) (Nat.le_refl _)⟩
theorem Sim.move{fk:Fk}{B:Base}{w0:Ctx fk}{st:St}{a:Act}{w w':World}{m:Mm}(h:Sim B w0 st a w m)(e:EnvD.E w w'):Sim B w0 st a w' m:=h.bel (EnvD.ext e)
def dOk(nt:Nat):Option Nat→Prop
 |some d=>d<nt
 |none=>True
section
variable{P:Program}{B:Base}{m:Mm}{w w':World}{H h:aj}{n:Nat}{env:Env}{a:Act}{L:Nat→Prop}
section
omit [ar]
theorem GZ(hs:a9 B h m w){t sz:Nat}{g:Bool}(ht:tyL P t=some (sz,g)){id ver off:Nat}{ad xv:Value}{x:AV}{cells:List AV}(had:au B (LB m h) m w (.ptr id ver off) ad)(hx:au B (LB m h) m w x xv)(hg:aV h id=some cells)(c1:cells.length=ver)(c2:x.ok=true)(c3:x.cells.length=sz)(c4:off+sz≤cells.length)(c5:bV x.cells=true):∃w' m',(Instr.storeAt t ad xv).run P w=.ok () w'∧EPost B h m w n (br h id (setAt cells off x.cells)) n (.tup []) undef w' m':=by
 rw[pB h id _ (pC hs)];obtain⟨b,C,rfl,hd,hvC,ha⟩:=had.lT;rw[←c1] at ha hvC;have hin:=dC hg;obtain⟨cs,e',hh,hC,hle,hbB,hcell⟩:=hs.read hin hd ha hvC.2;obtain⟨h1,h2⟩:=rp hx c2;obtain⟨i,d,hi,hsz,_,_⟩:=z8 (w:=w) ht;have hlen:(setAt cells off x.cells).length=cells.length:=rE _ _ _
 have hur:∀(j:Nat)(p:AV)(u:Value),x.cells[j]?=some p→xv.cells.toList[j]?=some u→au B (LB m h) m w p u:=fun j p u hp hu=>h2 j p u hp (by rw[←Array.getElem?_toList];exact hu)
 have hst:=rM (P:=P) b off e' xv.cells.toList 0 w cs hh (by simp;omega) (vS c5 (by simp;omega) hur);simp only[Nat.add_zero] at hst
 have hrun:(Instr.storeAt t (.pointer (some ⟨b,off,none⟩)) xv).run P w=.ok () (dg w b (dh cs off xv.cells.toList) e'):=by
  have hsz':xv.cells.size=i.size:=by omega
  simp[Instr.storeAt,Instr.sureAddr,storeVar,sizeOf,typeInfo,hi,hsz',hst]
 obtain⟨u1,u2,u3,u4⟩:=rO (w':=dg w b (dh cs off xv.cells.toList) e') hs hin hd (cells':=setAt cells off x.cells) (by omega) (b':=b) (C':=C) (fun _=>ha) (.inr ⟨C,ha⟩)
  (fun q hq hne=>rJ w b _ _ (fun e=>hne C (e▸ha)))
  ⟨dh cs off xv.cells.toList,e',rK w b _ _ (cO hs ⟨id,cells,C,hin,hd,ha⟩),by rw[rL,hC],by omega,hbB,
    (vQ x.cells xv.cells.toList off cells cs ⟨by omega,hcell⟩ (by simpa using h1) hur).2⟩
 exact⟨_,_,hrun,u2,je,vR hbB w _ _,u1,u3,u4,.tup rfl (fun j p v hp=>by simp at hp)⟩
theorem jO(env:Env)(a:Act)(d:Option Nat)(v:AV)(v':Value)(hd:dOk a.tmps.size d)(hv:au B L m w v v')(he:∀t,au B L m w (get env t) (a.tmps.getD t undef)):∀t,au B L m w (get (put env d v) t) ((a.put d v').tmps.getD t undef):=by
 intro t
 cases d with
 |none=>exact he t
 |some d=>
  simp only[put,get,Act.put];by_cases hdt:d=t
  ·subst hdt;simp only[if_true];rw[Array.getD_eq_getD_getElem?,Array.getElem?_setIfInBounds];simp only[if_true];rw[if_pos (show d<a.tmps.size from hd)];exact hv
  ·simp only[hdt,if_false];rw[Array.getD_eq_getD_getElem?,Array.getElem?_setIfInBounds];simp only[hdt,if_false];rw[←Array.getD_eq_getD_getElem?];exact he t
theorem gS(a:Act)(d:Option Nat)(v:Value):(a.put d v).tmps.size=a.tmps.size:=by cases d<;>simp[Act.put]
theorem gT(a:Act)(d:Option Nat)(v:Value):(a.put d v).defers=a.defers:=by cases d<;>rfl
theorem gU:∀(E:List (List AV))(h:aj)(n:Nat)(id:Nat)(c:List AV),(id,c)∈ba h n E↔(id,c)∈h∨∃k,E[k]?=some c∧id=n+k
 |[],h,n,id,c=>by simp[ba]
 |x::E,h,n,id,c=>by
  simp only[ba,List.mem_cons,Prod.mk.injEq,gU E h (n+1) id c];constructor
  ·rintro (⟨rfl,rfl⟩|h1|⟨k,h1,rfl⟩)
   ·exact .inr ⟨0,rfl,rfl⟩
   ·exact .inl h1
   ·exact .inr ⟨k+1,by simpa using h1,by omega⟩
  ·rintro (h1|⟨k,h1,rfl⟩)
   ·exact .inr (.inl h1)
   ·cases k with
    |zero=>simp at h1;exact .inl ⟨rfl,h1.symm⟩
    |succ k=>exact .inr (.inr ⟨k,by simpa using h1,by omega⟩)
theorem rQ:∀(E:List (List AV))(h:aj)(n:Nat),a9 B h m w→(∀i,n≤i→¬m.dom i)→(∀id c,(id,c)∈h→id<n)→a9 B (ba h n E) m w∧LB m (ba h n E)=LB m h
 |[],h,n,hs,_,_=>⟨hs,rfl⟩
 |x::E,h,n,hs,hd,hi=>by
  have hnd:=hd n (Nat.le_refl _);obtain⟨h1,h2⟩:=rQ E h (n+1) hs (fun i hi=>hd i (by omega)) (fun id c hin=>by have:=hi id c hin;omega)
  have:=vU (c:=x) h1 hnd (fun id c hin=>by
   rcases (gU E h (n+1) id c).1 hin with h3|⟨k,_,rfl⟩
   ·have:=hi id c h3;omega
   ·omega)
  refine⟨this,?_⟩;show LB m ((n,x)::ba h (n+1) E)=_;rw[show LB m ((n,x)::ba h (n+1) E)=LB m (ba h (n+1) E) from funext fun b=>propext (rP hnd b),h2]
end
def iP(s:ByteArray):List PV:=s.data.toList.map fun b=>PV.int .u8 b.toNat
def oJ(P:Program)(src dst:TypeId):Bool:=
 match P.underlying src,P.underlying dst with
 |some _,some (.slice e)=>match P.underlying e with
  |some (.int .u8)=>true
  |_=>false
 |_,_=>false
omit [ar] in
theorem G0(hs:a9 B h m w)(hB:B.n≤w.heap.size){src dst:TypeId}(hb:oJ P src dst=true)(s:ByteArray):∃v' w',(convert src dst (.string s)).run P w=.ok v' w'∧EPost B h m w n h n (.w true false (.sl s.size (iP s))) v' w' m:=by
 unfold oJ at hb;split at hb
 ·rename_i u e hu hd;split at hb
  ·rename_i he
   refine⟨_,_,Lib.run_convert_string_bytes w src dst e s hu hd he,Mm.le.refl m,je,⟨rfl,rfl,by rw[Lib.bytesWorld_size];exact Nat.le_succ _,fun k hk=>Lib.bytesWorld_at_old w e s k (by omega)⟩,
    hs.below ⟨rfl,rfl,by rw[Lib.bytesWorld_size];exact Nat.le_succ _,fun b hb=>Lib.bytesWorld_at_old w e s b hb⟩,fun b _ h=>h,fun b hb _=>Lib.bytesWorld_at_old w e s b hb,.w ?_ (fun h=>by cases h)⟩
   have hlen:(iP s).length=s.size:=by simp[iP]
   have hcap:s.size≤grownCap w s.size 0 e:=grownCap_ge w _ _ e;refine .sl (b:=w.heap.size) (off:=0) (fun j=>.int .u8 (s.data.toList.getD j 0).toNat) hcap (fun j hj=>?_) (fun _=>⟨fun hl=>?_,fun _=>hB,fun hl=>?_⟩) (fun j p hp=>?_)
   ·rw[Nat.zero_add];exact Lib.bytesWorld_cell w e s j (by omega)
   ·have:=cO hs hl;omega
   ·omega
   ·unfold iP at hp;rw[List.getElem?_map] at hp;obtain⟨b,hb1,rfl⟩:=Option.map_eq_some_iff.1 hp
    have:s.data.toList.getD j 0=b:=by rw[List.getD_eq_getElem?_getD,hb1];rfl
    rw[this];exact .int _ _
  ·cases hb
 ·cases hb
def nq(P:Program)(env:Env)(h:aj)(n:Nat)(src dst:TypeId)(x:Operand)(K:AV→aj→Nat→Prop):Prop:=
 match ev env x with
 |.w _ _ (.str s)=>oJ P src dst=true∧K (.w true false (.sl s.size (iP s))) h n
 |_=>bm P env h n (.convert src dst x) fun v E=>K v (ba h n E) (n+E.length)
def Ml(P:Program)(h:aj)(n:Nat)(t:TypeId)(K:AV→aj→Nat→Prop):Prop:=(ik P t).isSome=true∧K (.mp n) ((n,[dQ []])::h) (n+1)
def j8(P:Program)(env:Env)(h:aj)(n:Nat)(t:TypeId)(m k v:Operand)(K:AV→aj→Nat→Prop):Prop:=
 match ev env m with
 |.mp id=>match (aV h id).bind cN,ev env k,ev env v,ik P t with
  |some l,.w _ _ kp,.w _ _ vp,some (d,_)=>(okM d kp l=true∧isLit vp=true)∧K (.tup []) (br h id [dQ (fM l kp vp)]) n
  |_,_,_,_=>False
 |_=>False
def bn(P:Program)(env:Env)(h:aj)(n:Nat)(op:Op)(K:AV→aj→Nat→Prop):Prop:=
 match op with
 |.store t ad x=>j6 P env h n t ad x K
 |.call { callee:=.builtin .append,args:=args,argTypes:=tys }=>j5 P env h n args.toList tys.toList K
 |.call { callee:=.builtin .copy,args:=args,argTypes:=tys }=>j7 P env h n args.toList tys.toList K
 |.convert src dst x=>nq P env h n src dst x K
 |.makeMap t none=>Ml P h n t K
 |.mapUpdate t m k v=>j8 P env h n t m k v K
 |op=>bm P env h n op fun v E=>K v (ba h n E) (n+E.length)
section
omit [ar]
theorem G1{d:TypeDesc}{k v:PV}(hk:okK d k=true){es:Array MapEntry}{l:List (PV×PV)}(hes:j0 es l)(hl:∀p∈l,okK d p.1=true):(∀i q,dM l k 0=some (i,q)→j0 (es.modify i fun e=>{ e with key:=bN k,val:=bN v }) (fM l k v))∧(dM l k 0=none→∀clk,j0 (es.push { key:=bN k,val:=bN v,born:=clk }) (fM l k v)):=by
 have gen:∀(l:List (PV×PV))(s:Nat)(q:PV)(i:Nat),dM l k s=some (i,q)→s≤i∧i-s<l.length∧fM l k v=l.set (i-s) (k,v):=by
  intro l
  induction l with
  |nil=>intro s q i h;cases h
  |cons p r ih=>
   intro s q i h;unfold dM at h;unfold fM;split at h
   ·rename_i hp
    injection h with h;injection h with h1 _;subst h1
    rw[if_pos hp];simp
   ·rename_i hp;rw[if_neg hp];obtain⟨h1,h2,h3⟩:=ih (s+1) q i h;refine⟨by omega,by simp only[List.length_cons];omega,?_⟩;rw[h3,show i-s=(i-(s+1))+1 by omega];rfl
 have gen2:∀(l:List (PV×PV))(s:Nat),dM l k s=none→fM l k v=l++[(k,v)]:=by
  intro l
  induction l with
  |nil=>intro s _;rfl
  |cons p r ih=>
   intro s h;unfold dM at h;unfold fM;split at h
   ·cases h
   ·rename_i hp;rw[if_neg hp,ih (s+1) h];rfl
 refine⟨fun i q h=>?_,fun h clk=>?_⟩
 ·obtain⟨_,h2,h3⟩:=gen l 0 q i h;rw[Nat.sub_zero] at h2 h3;rw[h3];refine⟨by simp[hes.1],fun j p e hp he=>?_⟩;rw[List.getElem?_set] at hp;rw[Array.getElem?_modify] at he;by_cases hij:i=j
  ·subst hij;simp only[h2,if_true,Option.some.injEq] at hp;subst hp;simp only[if_true] at he
   cases hx:es[i]? with
   |none=>rw[hx] at he;cases he
   |some y=>rw[hx] at he;simp at he;subst he;exact⟨rfl,rfl⟩
  ·simp only[hij,if_false] at hp he;exact hes.2 j p e hp he
 ·rw[gen2 l 0 h];refine⟨by simp[hes.1],fun j p e hp he=>?_⟩
  rcases Nat.lt_or_ge j l.length with hj|hj
  ·rw[List.getElem?_append_left hj] at hp;rw[Array.getElem?_push,if_neg (by have:=hes.1;omega)] at he;exact hes.2 j p e hp he
  ·have hjl:j=l.length:=by
    have:=(List.getElem?_eq_some_iff.1 hp).1;simp at this;omega
   subst hjl;simp at hp;subst hp;rw[Array.getElem?_push,if_pos hes.1] at he
   injection he with he;subst he
   exact⟨rfl,rfl⟩
theorem AF:∀(l:List (PV×PV))(k:PV)(s i:Nat)(q:PV),dM l k s=some (i,q)→∃p,l[i-s]?=some p∧eqK k p.1=true
 |[],k,s,i,q,h=>by cases h
 |p::r,k,s,i,q,h=>by
  unfold dM at h;split at h
  ·rename_i hp
   injection h with h;injection h with h1 _;subst h1
   exact⟨p,by simp,hp⟩
  ·obtain⟨p',h1,h2⟩:=AF r k (s+1) i q h
   have hi:s+1≤i:=by
    have:∀(r:List (PV×PV))(s:Nat),dM r k s=some (i,q)→s≤i:=by
     intro r
     induction r with
     |nil=>intro s h;cases h
     |cons y r ih=>
      intro s h;unfold dM at h;split at h
      ·injection h with h;injection h with h1 _;omega
      ·have:=ih (s+1) h;omega
    exact this r (s+1) h
   refine⟨p',?_,h2⟩;rw[show i-s=(i-(s+1))+1 by omega,List.getElem?_cons_succ];exact h1
theorem G2{a b:PV}(h:eqK a b=true):bN a=bN b:=by
 cases a<;>cases b<;>simp[eqK] at h
 ·obtain⟨rfl,rfl⟩:=h;rfl
 ·subst h;rfl
theorem G3(hs:a9 B h m w){t:TypeId}{id:Nat}{cells:List AV}{l:List (PV×PV)}{mv kv vv:Value}{ok fk ov fv:Bool}{kp vp:PV}{d:TypeDesc}{z:PV}(hm:au B (LB m h) m w (.mp id) mv)(hk:au B (LB m h) m w (.w ok fk kp) kv)(hv:au B (LB m h) m w (.w ov fv vp) vv)(hg:aV h id=some cells)(hd:cN cells=some l)(ht:ik P t=some (d,z))(hc:okM d kp l=true)(hvl:isLit vp=true):∃w' m',(Instr.mapUpdate t mv kv vv).run P w=.ok () w'∧EPost B h m w n (br h id [dQ (fM l kp vp)]) n (.tup []) undef w' m':=by
 rw[pB h id _ (pC hs)];have hin:=dC hg;obtain⟨b,es,clk,rfl,hdm,hcl,ha,hb,hB,hes⟩:=hs.Et hin hm hd;obtain⟨kt,et,hu,hd2,_⟩:=Al ht;unfold okM at hc;rw[Bool.and_eq_true,List.all_eq_true] at hc;obtain⟨hc1,hc2⟩:=hc
 have hl:∀p∈l,okK d p.1=true:=fun p hp=>by have:=hc2 p hp;rw[Bool.and_eq_true] at this;exact this.1
 have hkv:kv=bN kp:=by cases hk with|w hr _=>exact vK (Aj hc1) hr
 have hvv:vv=bN vp:=by cases hv with|w hr _=>exact vK hvl hr
 subst hkv;subst hvv;have hf:=vI hc1 l es.toList 0 (by rw[Array.length_toList];exact hes.1) (fun j p e hp he=>hes.2 j p e hp (by rw[←Array.getElem?_toList];exact he)) hl;obtain⟨q1,q2⟩:=G1 (v:=vp) hc1 hes hl
 have hrun:∀o,(match dM l kp 0 with
  |some x=>o=Obj.map (es.modify x.1 fun e=>{ e with key:=bN kp,val:=bN vp }) clk
  |none=>o=Obj.map (es.push { key:=bN kp,val:=bN vp,born:=clk }) (clk+1))→(Instr.mapUpdate t (.map (some b)) (bN kp) (bN vp)).run P w=.ok () { w with heap:=w.heap.setIfInBounds b o }:=by
  intro o ho;unfold Instr.mapUpdate;simp only[Sem.run_bind,run_underlying hu,Result.andThen_ok,MapKept.run_getObj_map hb];rw[show (10000:Nat)=9999+1 from rfl,MapKept.run_checkKey hd2 (vH hc1)];simp only[Result.andThen_ok];rw[MapKept.run_findKey hd2 hf];simp only[Result.andThen_ok]
  cases hq:dM l kp 0 with
  |none=>
   rw[hq] at ho;simp only[Option.map_none];rw[MapKept.run_setObj_map _ hb,ho]
  |some x=>
   rw[hq] at ho;obtain⟨i,q⟩:=x;simp only[Option.map_some]
   have hold:((es[i]?).map (·.key)).getD (bN kp)=bN kp:=by
    obtain⟨p,hp,hpe⟩:=AF l kp 0 i q hq;rw[Nat.sub_zero] at hp
    have hil:i<es.size:=by rw[←hes.1];exact (List.getElem?_eq_some_iff.1 hp).1
    have:=(hes.2 i p _ hp (Array.getElem?_eq_getElem hil)).1;rw[Array.getElem?_eq_getElem hil];simp only[Option.map_some,Option.getD_some];rw[this];exact (G2 hpe).symm
   simp only[Sem.run_bind,hold,MapKept.run_keyThatStays (vH hc1),Result.andThen_ok];rw[MapKept.run_setObj_map _ hb,ho]
 have hbs:b<w.heap.size:=cO hs ⟨id,cells,0,hin,hdm,ha⟩
 have fin:∀es' clk',j0 es' (fM l kp vp)→(Instr.mapUpdate t (.map (some b)) (bN kp) (bN vp)).run P w=.ok () { w with heap:=w.heap.setIfInBounds b (.map es' clk')} →
  ∃w' m',(Instr.mapUpdate t (.map (some b)) (bN kp) (bN vp)).run P w=.ok () w'∧EPost B h m w n (fU h id [dQ (fM l kp vp)]) n (.tup []) undef w' m':=by
  intro es' clk' hm' hr;have hlen:cells.length=1:=vr hcl;obtain⟨u1,u2,u3,u4⟩:=Az (w':={ w with heap:=w.heap.setIfInBounds b (.map es' clk')}) hs hin hdm (cells':=[dQ (fM l kp vp)]) (by simp[hlen]) (b':=b) (C':=0) (fun _=>ha) (.inr ⟨0,ha⟩)
   (fun q hq hne=>by
     have:q≠b:=fun e=>hne 0 (by rw[e];exact ha)
     show (w.heap.setIfInBounds b (.map es' clk'))[q]?=w.heap[q]?
     rw[Array.getElem?_setIfInBounds,if_neg (fun e=>this e.symm)])
   (.inr ⟨rfl,es',clk',_,by show (w.heap.setIfInBounds b (.map es' clk'))[b]?=_;rw[Array.getElem?_setIfInBounds,if_pos rfl,if_pos hbs],rfl,hB,hm'⟩)
  refine⟨_,_,hr,u2,je,⟨rfl,rfl,by simp,fun k hk=>?_⟩,u1,u3,u4,.tup rfl (fun j p v hp=>by simp at hp)⟩;show (w.heap.setIfInBounds b (.map es' clk'))[k]?=w.heap[k]?;rw[Array.getElem?_setIfInBounds,if_neg (by omega)]
 cases hq:dM l kp 0 with
 |none=>exact fin _ _ (q2 hq clk) (hrun _ (by rw[hq]))
 |some x=>exact fin _ _ (q1 x.1 x.2 hq) (hrun _ (by rw[hq]))
theorem G4(hs:a9 B h m w)(hB:B.n≤w.heap.size)(hnd:¬m.dom n)(hne:∀id cs,(id,cs)∈h→id<n)(t:TypeId):∃v' w' m',(Instr.makeMap t none).run P w=.ok v' w'∧EPost B h m w n ((n,[dQ []])::h) (n+1) (.mp n) v' w' m':=by
 have hs1:a9 B ((n,[dQ []])::h) m w:=vU hs hnd (fun id cs hin=>Nat.ne_of_lt (hne id cs hin))
 have hL:LB m ((n,[dQ []])::h)=LB m h:=funext fun b=>propext (rP hnd b)
 have hin:(n,[dQ []])∈(n,[dQ []])::h:=by simp
 have hn:=Gr hs1 hB hin rfl hnd;refine⟨.map (some w.heap.size),w.alloc (.map #[] 0),m.new n 1 (some (w.heap.size,0)),?_,Mm.qB hnd,fun i=>?_,(Bel.refl _ _).alloc hB _,hn,fun b hb hnl hl=>?_,fun b hb _=>fZ w _ hb,?_⟩
 ·rfl
 ·show m.dom i∨i=n↔m.dom i∨n≤i∧i<n+1;constructor
  ·rintro (h|h)
   ·exact .inl h
   ·exact .inr (by omega)
  ·rintro (h|h)
   ·exact .inl h
   ·exact .inr (by omega)
 ·rcases pt hs1 hin hl with h1|⟨C,h1⟩
  ·rw[hL] at h1;exact hnl h1
  ·injection h1 with h1;injection h1 with h1 _;omega
 ·exact .mp (.inr rfl) (by simp[Mm.new]) (by simp[Mm.new])
end
theorem AG(o:Oper){K:AV→aj→Nat→Prop}(hk:bn P env h n o.op K)(hO:ar.ok w)(hs:a9 B h m w)(hB:B.n≤w.heap.size)(hnd:∀i,n≤i→¬m.dom i)(hids:∀id c,(id,c)∈h→id<n)(hxs:∀x,x∈o.op.operands→au B (LB m h) m w (ev env x) (a.eval x))(Q:Exit→Act→World→Prop)(K':Act→World→Prop)(hK:∀v v' h' n' w' m',K v h' n'→EPost B h m w n h' n' v v' w' m'→n≤n'→(∀id c,(id,c)∈h'→id<n')→K' (a.put o.dst v') w'):o.wpt P a w K' Q:=by
 have fin:∀(v:AV)(v':Value)(h':aj)(n':Nat)(w':World)(m':Mm),K v h' n'→EPost B h m w n h' n' v v' w' m'→n≤n'→(∀id c,(id,c)∈h'→id<n')→K' (a.put o.dst v') w':=
  fun v v' h' n' w' m' hkk he hn hid=>hK v v' h' n' w' m' hkk he hn hid
 have hset_id:∀id x,∀i c,(i,c)∈br h id x→i<n:=by
  intro id x i c hin;rw[pB h id x (pC hs)] at hin;obtain⟨p,hp,e⟩:=List.mem_map.1 hin;have:=hids p.1 p.2 hp;split at e
  ·injection e with e1 _;rw[←e1];exact this
  ·have e1:p.1=i:=by rw[e]
   rw[←e1];exact this
 have quietly:bm P env h n o.op (fun v E=>K v (ba h n E) (n+E.length))→o.wpt P a w K' Q:=by
  intro hk;obtain⟨v,E,hq,hkk⟩:=hk.qf;obtain⟨s1,s2⟩:=rQ E h n hs hnd hids;refine hq.sound o hO s1 hB (fun id cs e=>(gU E h n id cs).2 (.inl (dC e))) (fun k cs e=>(gU E h n _ cs).2 (.inr ⟨k,e,rfl⟩)) (fun k hk=>hnd _ (by omega)) (fun x hx=>by rw[s2];exact hxs x hx) K' Q ?_
  rintro v' w' m' ⟨p1,p2,p3,p4,p5,p6⟩
  refine fin v v' _ _ w' m' hkk ⟨p1,fun i=>?_,p3.mono hB,p4,fun b hb hn hl=>?_,fun b hb _=>p3.block b hb,p6⟩ (by omega) (fun i c hin=>?_)
  ·rw[p2]
  ·rcases p5 b hl with h1|h1
   ·rw[s2] at h1;exact hn h1
   ·omega
  ·rcases (gU E h n i c).1 hin with h1|⟨k,h1,rfl⟩
   ·have:=hids i c h1;omega
   ·have:=(List.getElem?_eq_some_iff.1 h1).1;omega
 unfold bn at hk;split at hk
 ·rename_i t ad x ho;unfold j6 at hk;split at hk
  ·rename_i sz g id ver off ht had;split at hk
   ·rename_i cells hg;obtain⟨⟨c1,c2,c3,c4,c5⟩,hkk⟩:=hk;obtain⟨w',m',hrun,hpost⟩:=GZ hs ht (by rw[←had];exact hxs ad (by rw[ho];simp[Op.operands])) (hxs x (by rw[ho];simp[Op.operands])) hg c1 c2 c3 c4 c5;unfold Oper.wpt
    have:(execOp a.eval o).run P w=.ok .skip w':=by simp[execOp,ho,hrun]
    rw[this,Oper.Ep];exact fin _ _ _ _ _ _ hkk hpost (Nat.le_refl _) (hset_id _ _)
   ·exact hk.elim
  ·exact hk.elim
 ·rename_i args tys ho;unfold j5 at hk;split at hk
  ·rename_i s x t tx hargs htys
   have ha:args=#[s,x]:=by rw[←Array.toArray_toList (xs:=args),hargs]
   have hty:tys=#[t,tx]:=by rw[←Array.toArray_toList (xs:=tys),htys]
   subst ha;subst hty
   have hop:∀v' w',(Builtin.append_ #[t,tx] o.type #[a.eval s,a.eval x]).run P w=.ok v' w'→(execOp a.eval o).run P w=.ok (.value v') w':=by
    intro v' w' hr;simp[execOp,ho,resolve,invoke,builtin,hr]
   split at hk
   ·rename_i e sz ex ht htx;split at hk
    ·rename_i by_ z k2 news c hby hz hsrc;split at hk
     ·rename_i id ver z' off k es;split at hk
      ·rename_i cells hg;obtain⟨⟨c0,coff,c1,c2,c3,c4,c5,c6,c7,c8⟩,hkk⟩:=hk;subst coff;subst c2;obtain⟨v',w',m',hrun,hpost⟩:=GU hs hB ht htx hby hz hsrc c0 (hxs x (by rw[ho];simp[Op.operands,Call.operands])) (by rw[←es];exact hxs s (by rw[ho];simp[Op.operands,Call.operands])) hg c1 c3 c4 c5 c6 c7 c8 o.type;unfold Oper.wpt;rw[hop _ _ hrun,Oper.lO];exact fin _ _ _ _ _ _ hkk hpost (Nat.le_refl _) (hset_id _ _)
      ·exact hk.elim
     ·rename_i own k cells es
      cases hcond:(own&&decide (k=0)&&cells.isEmpty) with
      |true=>
       rw[hcond] at hk;simp only[cond_true] at hk;obtain⟨⟨c0,c1,c3,_,c6,c7⟩,hkk⟩:=hk;simp only[Bool.and_eq_true,decide_eq_true_eq] at hcond;obtain⟨⟨h1,h2⟩,h3⟩:=hcond
       have h3':cells=[]:=by simpa using h3
       subst h2;subst h3';obtain⟨v',w',m',hrun,hpost⟩:=GV hs (hnd n (Nat.le_refl _)) hids hB ht htx hby hz hsrc c0 (hxs x (by rw[ho];simp[Op.operands,Call.operands])) (by rw[←es];exact hxs s (by rw[ho];simp[Op.operands,Call.operands])) c1 c3 c6 c7 o.type;unfold Oper.wpt;rw[hop _ _ hrun,Oper.lO];refine fin _ _ _ _ _ _ hkk hpost (by omega) (fun i c hin=>?_)
       rcases List.mem_cons.1 hin with e|e
       ·injection e with e1 _;omega
       ·have:=hids i c e;omega
      |false=>
       rw[hcond] at hk;simp only[cond_false] at hk;split at hk
       ·rename_i q hq;obtain⟨⟨c0,c1,c3,_,c6,c7⟩,hkk⟩:=hk;obtain⟨v',w',m',hrun,hpost⟩:=GW hs hB ht htx hby hz hsrc c0 (hxs x (by rw[ho];simp[Op.operands,Call.operands])) hq (by rw[←es];exact hxs s (by rw[ho];simp[Op.operands,Call.operands])) c1 c3 c6 c7 o.type;unfold Oper.wpt;rw[hop _ _ hrun,Oper.lO];exact fin _ _ _ _ _ _ hkk hpost (Nat.le_refl _) hids
       ·exact hk.elim
     ·exact hk.elim
    ·exact hk.elim
   ·exact hk.elim
  ·exact hk.elim
 ·rename_i args tys ho;unfold j7 oH at hk
  match hargs:args.toList,htys:tys.toList with
  |[d,x],t::ts=>
   rw[hargs,htys] at hk;simp only[List.map_cons,List.map_nil] at hk
   have ha:args=#[d,x]:=by rw[←Array.toArray_toList (xs:=args),hargs]
   have hty:tys=(t::ts).toArray:=by rw[←Array.toArray_toList (xs:=tys),htys]
   cases hr:lX P h t (ev env d) (ev env x) with
   |none=>rw[hr] at hk;exact hk.elim
   |some y=>
    obtain⟨c,v,h'⟩:=y;rw[hr] at hk;obtain⟨hc,hkk⟩:=hk;obtain⟨v',w',m',hrun,hpost⟩:=GY (n:=n) hs hr hc (hxs d (by rw[ho,ha];simp[Op.operands,Call.operands])) (hxs x (by rw[ho,ha];simp[Op.operands,Call.operands])) ts o.type;unfold Oper.wpt
    have hop:(execOp a.eval o).run P w=.ok (.value v') w':=by
     rw[←hty] at hrun;subst ha;simp[execOp,ho,resolve,invoke,builtin,hrun]
    rw[hop,Oper.lO];refine fin _ _ _ _ _ _ hkk hpost (Nat.le_refl _) (fun i c' hin=>?_);unfold lX at hr;split at hr
    ·split at hr
     ·simp only[Option.some.injEq,Prod.mk.injEq] at hr;obtain⟨_,_,rfl⟩:=hr;exact hset_id _ _ _ _ hin
     ·cases hr
    ·cases hr
  |[],_=>rw[hargs] at hk;exact hk.elim
  |[_],_=>rw[hargs] at hk;exact hk.elim
  |_::_::_::_,_=>rw[hargs] at hk;exact hk.elim
  |[_,_],[]=>rw[hargs,htys] at hk;exact hk.elim
 ·rename_i src dst x ho
  have quiet:bm P env h n (.convert src dst x) (fun v E=>K v (ba h n E) (n+E.length))→o.wpt P a w K' Q:=by
   intro hk;rw[←ho] at hk;exact quietly hk
  unfold nq at hk;split at hk
  ·rename_i o' f' s es;obtain⟨hb,hkk⟩:=hk;have hx:=hxs x (by rw[ho];simp[Op.operands]);rw[es] at hx;obtain⟨v',w',hrun,hpost⟩:=G0 hs hB hb s;unfold Oper.wpt
   have:(execOp a.eval o).run P w=.ok (.value v') w':=by simp[execOp,ho,hx.lS,hrun]
   rw[this,Oper.lO];exact fin _ _ _ _ _ _ hkk hpost (Nat.le_refl _) hids
  ·exact quiet hk
 ·rename_i t ho;obtain⟨_,hkk⟩:=hk;obtain⟨v',w',m',hrun,hpost⟩:=G4 (P:=P) hs hB (hnd n (Nat.le_refl _)) hids t;unfold Oper.wpt
  have:(execOp a.eval o).run P w=.ok (.value v') w':=by simp[execOp,ho,hrun]
  rw[this,Oper.lO];refine fin _ _ _ _ _ _ hkk hpost (by omega) (fun i c hin=>?_)
  rcases List.mem_cons.1 hin with e|e
  ·injection e with e1 _;omega
  ·have:=hids i c e;omega
 ·rename_i t mo ko vo ho;unfold j8 at hk;split at hk
  ·rename_i id hm;split at hk
   ·rename_i l ok fk kp ov fv vp d z hl hke hve hmt;obtain⟨⟨c1,c2⟩,hkk⟩:=hk
    obtain⟨cells,hg,hd⟩:∃cells,aV h id=some cells∧cN cells=some l:=by
     cases hg:aV h id with
     |none=>rw[hg] at hl;cases hl
     |some cells=>rw[hg] at hl;exact⟨cells,rfl,hl⟩
    obtain⟨w',m',hrun,hpost⟩:=G3 (n:=n) hs (by rw[←hm];exact hxs mo (by rw[ho];simp[Op.operands])) (by rw[←hke];exact hxs ko (by rw[ho];simp[Op.operands])) (by rw[←hve];exact hxs vo (by rw[ho];simp[Op.operands])) hg hd hmt c1 c2;unfold Oper.wpt
    have:(execOp a.eval o).run P w=.ok .skip w':=by simp[execOp,ho,hrun]
    rw[this,Oper.Ep];exact fin _ _ _ _ _ _ hkk hpost (Nat.le_refl _) (hset_id _ _)
   ·exact hk.elim
  ·exact hk.elim
 ·exact quietly hk
theorem rR{o:Op}{K:AV→aj→Nat→Prop}(hk:bn P env h n o K):∀c,o≠.defer c:=by
 intro c e;subst e;simp[bn,bm,aOp] at hk
theorem Ev{o:Op}{v:AV}{E:List (List AV)}(hk:QF P env h n o v E):∀c,o≠.defer c:=by
 intro c e;subst e
 rcases hk with ⟨c,h1,_⟩|⟨f,args,tys,g,aE,pvs,res,fr,h1,_⟩
 ·simp[aOp] at h1
 ·cases h1
theorem rT{fk:Fk}(w0:Ctx fk)(o:Oper){nt:Nat}{K:AV→aj→Nat→Prop}(hk:bn P env h n o.op K)(hs:Sim B w0 ⟨env,h,n,nt⟩ a w m)(hdk:dOk nt o.dst)(Q:Exit→Act→World→Prop)(K':Act→World→Prop)(hK:∀v h' n' a' w' m',K v h' n'→Sim B w0 ⟨put env o.dst v,h',n',nt⟩ a' w' m'→K' a' w'):o.wpt P a w K' Q:=by
 refine AG o hk hs.ok hs.heap hs.room (fun i hi hd=>by have:=(hs.dom i).1 hd;simp only at this;omega) hs.ids (fun x _=>jb x (fun t _=>hs.env t)) Q K' ?_
 rintro v v' h' n' w' m' hkk ⟨e1,e2,e3,e4,e5,e6,e7⟩ hn hid
 refine hK v h' n' _ w' m' hkk ⟨hs.base,hs.below.trans e3,by rw[gT];exact hs.defers,by rw[gS];exact hs.size,?_,e4,fun i=>?_,hid,hs.fr.mono e1 e5 e6 hn⟩
 ·exact jO env a o.dst v v' (by rw[hs.size];exact hdk) e7 (fun t=>(hs.env t).mono e1 e5 e6)
 ·rw[e2,hs.dom];show i<n∨_↔i<n';omega
end
end Go.Fi
