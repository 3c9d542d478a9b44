/- Lemmas. -/
import Derived.Test.YthpkmilhiganjaaGreatPEd
import Derived.Test.YthpkmilhiganjaaGreatPDb
import Derived.Test.YthpkmilhiganjaaGreatPDa
import Derived.Test.YthpkmilhiganjaaGreatPEa
set_option linter.all false
set_option maxHeartbeats 32000000
set_option maxRecDepth 100000
namespace Go.Proofs.YthpkmilhiganjaaGreat
open Go Go.Fi
noncomputable instance zim:av:=LD
structure Rt(ab:List Car)(os:List Ord)(wt:List (List Int))(zs:List Par):Prop where
 lc:ab.length<=8
 lo:os.length<=8
 lw:wt.length=os.length
 lz:zs.length<=64
 cn:∀c∈ab,fF c.1=true/\aU c.2.1 1 8=true
 cd:ab.Pairwise λa b=>decide (a.1=b.1)=false
 on:∀o∈os,fF o.1=true/\aU o.2.1 1 8=true/\aU o.2.2.2 0 6=true
 od:os.Pairwise λa b=>decide (a.1=b.1)=false
 wr:∀w∈wt,w.length=ab.length/\∀v∈w,aU v 0 100000=true
 zr:∀p∈zs,aU p.1 0 ((os.length:Int)-1)=true/\aU p.2 0 ((ab.length:Int)-1)=true
 zd:zs.Pairwise λa b=>(decide (b.1=a.1)&&decide (b.2=a.2))=false
theorem C9{α:Type}[Inhabited α](l:List α)(k:Nat)(h:k<l.length):nth l k=l[k]:=by
 simp[nth,bS,h]
theorem zen{α:Type}[Inhabited α](R:α->α->Bool)(l:List α):(∀k,k<l.length->((l.take k).any λy=>R y (nth l k))=false)↔l.Pairwise λa b=>R a b=false:=by
 rw[sN];constructor
 .intro h i j hi hj ay;have:=mY.1 (h j hj) l[i] (by rw[yk];exact⟨i,by omega,rfl⟩);rw[C9 l j hj] at this;simpa using this
 .intro h k hk;rw[mY];intro y hy;rw[yk] at hy;obtain⟨j,hj,rfl⟩:=hy;rw[C9 l k hk,h j k (by omega) hk (by omega)];decide
theorem zeo{α:Type}[Inhabited α]{nm:α->ByteArray}{mr:α->Int}{l:List α}:∀{r:List α}{k:Nat},(∀j,j<r.length->g7 nm mr l (k+j) (nth r j)=0)->fq nm mr l r k=(0,0)
 |[],_,_=>rfl
 |y::r,k,h=>by
  unfold fq;have h0:g7 nm mr l k y=0:=h 0 (by simp);rw[aB h0]
  exact zeo λj hj=>by
   have:=h (j+1) (by simpa using hj);rw[show k+(j+1)=k+1+j by omega] at this;exact this
theorem zc3{α:Type}[Inhabited α]{p:α->Prop}{l:List α}:(∀k,k<l.length->p (nth l k))↔∀y∈l,p y:=by
 constructor
 .intro h y hy;obtain⟨k,hk,e⟩:=yb.1 hy;have:=h k hk
  rwa [C9 l k hk,e] at this
 .intro h k hk;exact h _ (Bm hk)
theorem C3{b:Bool}{e:Int}(he:e≠0):ba b e=0↔b=true:=⟨qi he,λh=>by rw[h];rfl⟩
theorem zc4{a b c:Int}:cX [a,b,c]=0↔a=0/\b=0/\c=0:=by
 constructor
 .intro h;obtain⟨h1,h⟩:=eZ h;obtain⟨h2,h⟩:=eZ h;exact⟨h1,h2,(eZ h).1⟩
 .rintro⟨rfl,rfl,rfl⟩;rfl
theorem zep{a b:Int}:cX [a,b]=0↔a=0/\b=0:=by
 constructor
 .intro h;obtain⟨h1,h⟩:=eZ h;exact⟨h1,(eZ h).1⟩
 .rintro⟨rfl,rfl⟩;rfl
theorem zeq{α:Type}[Inhabited α](nm:α->ByteArray)(mr:α->Int)(l:List α):(gC nm mr l).2=0↔(∀y∈l,fF (nm y)=true/\mr y=0)/\l.Pairwise λa b=>decide (nm a=nm b)=false:=by
 rw[<-zen (λa b=>decide (nm a=nm b)) l,<-zc3]
 have key:(gC nm mr l).2=0↔∀j,j<l.length->g7 nm mr l j (nth l j)=0:=by
  constructor
  .intro h j hj;have:=P3 h j hj
   rwa [cY] at this
  .intro h;show (fq nm mr l l 0).2=0;rw[zeo λj hj=>by rw[cY];exact h j hj]
 rw[key];constructor
 .intro h;refine⟨λk hk=>?_,λk hk=>?_⟩
  .have:=zc4.1 (h k hk);exact⟨(C3 (by decide)).1 this.1,this.2.2⟩
  .have:=zc4.1 (h k hk);exact not_true ((C3 (by decide)).1 this.2.1)
 .rintro⟨h1,h2⟩ k hk
  refine zc4.2 ⟨?_,?_,(h1 k hk).2⟩
  .rw[(h1 k hk).1];rfl
  .rw[h2 k hk];rfl
theorem zer{α:Type}[Inhabited α](E:Nat->α->Int)(l:List α):(dk E l 0).2=0↔∀j,j<l.length->E j (nth l j)=0:=by
 constructor
 .intro h j hj;have:=P2 h j hj
  rwa [cY] at this
 .intro h;rw[zea λj hj=>by rw[cY];exact h j hj]
theorem zf6(ab:List Car)(os:List Ord)(wt:List (List Int))(zs:List Par):(g9 ab os wt zs).2=0↔Rt ab os wt zs:=by
 have hc:=zeq Prod.fst fG ab;have ho:=zeq Prod.fst eH os;have hw:=zer (λ_=>gj ab.length) wt;have hz:=zer (jJ os.length ab.length zs) zs
 have mc:∀c:Car,fG c=0↔aU c.2.1 1 8=true:=λc=>C3 (by decide)
 have mo:∀o:Ord,eH o=0↔aU o.2.1 1 8=true/\aU o.2.2.2 0 6=true:=λo=>by
  unfold eH;rw[C3 (by decide),bU]
 have mw:∀w:List Int,gj ab.length w=0↔w.length=ab.length/\∀v∈w,aU v 0 100000=true:=λw=>by
  unfold gj;rw[zep,C3 (by decide),C3 (by decide),gH,mY,decide_eq_true_eq];constructor
  .rintro⟨h1,h2⟩;exact⟨by omega,λv hv=>by simpa using h2 v hv⟩
  .rintro⟨h1,h2⟩;exact⟨by omega,λv hv=>by simpa using h2 v hv⟩
 have mz:∀(k:Nat)(p:Par),jJ os.length ab.length zs k p=0↔(aU p.1 0 ((os.length:Int)-1)=true/\aU p.2 0 ((ab.length:Int)-1)=true)/\((zs.take k).any λy=>decide (p.1=y.1)&&decide (p.2=y.2))=false:=λk p=>by
  unfold jJ;rw[zep,C3 (by decide),C3 (by decide),bU,gH]
 have tz:(∀j,j<zs.length->jJ os.length ab.length zs j (nth zs j)=0)↔(∀p∈zs,aU p.1 0 ((os.length:Int)-1)=true/\aU p.2 0 ((ab.length:Int)-1)=true)/\zs.Pairwise λa b=>(decide (b.1=a.1)&&decide (b.2=a.2))=false:=by
  rw[<-zen (λa b:Par=>decide (b.1=a.1)&&decide (b.2=a.2)) zs,<-zc3];constructor
  .intro h;exact⟨λk hk=>((mz k _).1 (h k hk)).1,λk hk=>((mz k _).1 (h k hk)).2⟩
  .rintro⟨h1,h2⟩ k hk;exact (mz k _).2 ⟨h1 k hk,h2 k hk⟩
 have tw:(∀j,j<wt.length->gj ab.length (nth wt j)=0)↔∀w∈wt,w.length=ab.length/\∀v∈w,aU v 0 100000=true:=by
  rw[zc3 (p:=λw=>gj ab.length w=0)];exact⟨λh w hw=>(mw w).1 (h w hw),λh w hw=>(mw w).2 (h w hw)⟩
 rw[tw] at hw;rw[tz] at hz;constructor
 .intro h;unfold g9 at h;split at h
  .simp at h
  rename_i g1;split at h
  .rename_i h2;exact absurd h h2
  rename_i g2;split at h
  .simp at h
  rename_i g3;split at h
  .rename_i h2;exact absurd h h2
  rename_i g4;split at h
  .simp at h
  rename_i g5;have h':=Br h
  have aq:(dk (λ_=>gj ab.length) wt 0).2=0:=by
   unfold fU at h;split at h
   .rename_i h1;exact absurd h h1
   .rename_i h1;simpa using h1
  rw[h'] at h;unfold g8 at h;split at h
  .simp at h
  rename_i g6;have a1:=hc.1 (oz.1 g2);have a2:=ho.1 (oz.1 g4);have a3:=hw.1 aq;have a4:=hz.1 h;exact⟨by omega,by omega,by omega,by omega,λc hc=>⟨(a1.1 c hc).1,(mc c).1 (a1.1 c hc).2⟩,a1.2,λo ho=>⟨(a2.1 o ho).1,(mo o).1 (a2.1 o ho).2⟩,a2.2,a3,a4.1,a4.2⟩
 .intro h;unfold g9
  rw[ar (by have:=h.lc;omega),ar (by rw[oz];exact hc.2 ⟨λc hc=>⟨(h.cn c hc).1,(mc c).2 (h.cn c hc).2⟩,h.cd⟩),ar (by have:=h.lo;omega),
   ar (by rw[oz];exact ho.2 ⟨λo ho=>⟨(h.on o ho).1,(mo o).2 (h.on o ho).2⟩,h.od⟩),ar (by have:=h.lw;omega)]
  unfold fU;rw[ar (by rw[oz];exact hw.2 h.wr)];unfold g8;rw[ar (by have:=h.lz;omega)];exact hz.2 ⟨h.zr,h.zd⟩
theorem Li(r:Tw.RND):ceR r=0↔Rt r.ab r.os r.wt r.zs:=zf6 _ _ _ _
theorem zes{α:Type}[Inhabited α](l:List α)(ex:List Int):((bK ex l.length).map (nth l)).Sublist l:=by
 have h:((List.range l.length).map (nth l))=l:=by
  refine Jc (by simp) λi h1 h2=>?_
  simp[C9 l i h2]
 have h2:(bK ex l.length).Sublist (List.range l.length):=List.filter_sublist;have:=h2.map (nth l)
 rwa [h] at this
theorem C4{ex:List Int}{a:Nat}(ha:a7 ex a=true):∀{b:Nat},a<b->bl ex a<bl ex b
 |b+1,h=>by
  have e:bl ex (b+1)=if a7 ex b then bl ex b+1 else bl ex b:=by
   unfold bl;rw[mF];split<;>simp
  rw[e];by_cases hb:a=b
  .subst hb;rw[ha];simp
  .have:=C4 ha (b:=b) (by omega)
   split<;>omega
theorem LK{ex:List Int}{a b:Nat}(ha:a7 ex a=true)(hb:a7 ex b=true)(h:bl ex a=bl ex b):a=b:=by
 rcases sT a b with h1|h1|h1
 .have:=C4 ha h1;omega
 .exact h1
 .have:=C4 hb h1;omega
theorem zb7{os cs:List Int}{n c:Nat}{p q:Par}(h:q∈cL os cs n c p):∃a b:Nat,p=((a:Int),(b:Int))/\a<n/\b<c/\a7 os a=true/\a7 cs b=true/\q=((bl os a:Int),(bl cs b:Int)):=by
 unfold cL at h;rw[C1,C1] at h;by_cases h1:0<=p.1/\p.1<(n:Int)/\a7 os p.1.toNat=true
 .by_cases h2:0<=p.2/\p.2<(c:Int)/\a7 cs p.2.toNat=true
  .rw[aB h1,aB h2] at h;have e:=pT.1 h;exact⟨p.1.toNat,p.2.toNat,Prod.ext (by show p.1=_;omega) (by show p.2=_;omega),by omega,by omega,h1.2.2,h2.2.2,e⟩
  .rw[aB h1,ar h2] at h;exact absurd h (by simp)
 .rw[ar h1] at h;exact absurd h (by simp)
theorem zc5{os cs:List Int}{n c:Nat}{a b:Nat}(ha:a<n)(hb:b<c)(h1:a7 os a=true)(h2:a7 cs b=true):cL os cs n c ((a:Int),(b:Int))=[((bl os a:Int),(bl cs b:Int))]:=by
 unfold cL;rw[C1,C1];simp only[bT];rw[aB ⟨by omega,by omega,h1⟩,aB ⟨by omega,by omega,h2⟩]
theorem zf7{x:Rd}(h:Rt x.ab x.os x.wt x.zs)(os cs:List Int):Rt (cC x cs x.ab.length) (bM x os x.os.length) (cm x os cs x.os.length) (cE x os cs x.zs.length):=by
 have sc:(cC x cs x.ab.length).Sublist x.ab:=zes x.ab cs;have so:(bM x os x.os.length).Sublist x.os:=zes x.os os
 have e1:(cC x cs x.ab.length).length=bl cs x.ab.length:=by simp[cC,bl]
 have e2:(bM x os x.os.length).length=bl os x.os.length:=by simp[bM,bl]
 have ez:cE x os cs x.zs.length=x.zs.flatMap (cL os cs x.os.length x.ab.length):=by unfold cE;rw[uW]
 refine⟨bN sc.length_le h.lc,bN so.length_le h.lo,by simp[cm,bM],?_,λc hc=>h.cn c (sc.subset hc),h.cd.sublist sc,λo ho=>h.on o (so.subset ho),h.od.sublist so,λw hw=>?_,λp hp=>?_,?_⟩
 .rw[ez]
  have key:∀l:List Par,(l.flatMap (cL os cs x.os.length x.ab.length)).length<=l.length:=λl=>by
   induction l with
   |nil=>simp
   |cons p l ih=>
    rw[il,jO,eI]
    have:(cL os cs x.os.length x.ab.length p).length<=1:=by
     unfold cL;split<;>simp
    omega
  exact bN (key _) h.lz
 .unfold cm at hw;obtain⟨i,hi,rfl⟩:=dW.1 hw
  have ag:i<x.wt.length:=by have:=E3 _ _ _ hi;rw[h.lw];exact this
  obtain⟨r1,r2⟩:=h.wr (nth x.wt i) (Bm ag);refine⟨by simp[kB,cC],λv hv=>?_⟩;unfold kB at hv;obtain⟨k,hk,rfl⟩:=dW.1 hv;exact r2 _ (Bm (by rw[r1];exact E3 _ _ _ hk))
 .rw[ez] at hp;obtain⟨q,_,hp⟩:=sU.1 hp;obtain⟨a,b,_,ha,hb,ka,kb,rfl⟩:=zb7 hp;have h1:=C4 ka ha;have h2:=C4 kb hb;rw[e1,e2];exact⟨kQ.2 ⟨by show (0:Int)<=(bl os a:Int);omega,by show (bl os a:Int)<=_;omega⟩,kQ.2 ⟨by show (0:Int)<=(bl cs b:Int);omega,by show (bl cs b:Int)<=_;omega⟩⟩
 .rw[ez,List.pairwise_flatMap];refine⟨λp _=>?_,h.zd.imp λ{p q} hq y hy z hz=>?_⟩
  .unfold cL;split<;>simp
  .obtain⟨a,b,rfl,_,_,ka,kb,rfl⟩:=zb7 hy;obtain⟨a',b',rfl,_,_,aw,ax,rfl⟩:=zb7 hz;rw[Bool.and_eq_false_iff] at hq ⊢;simp only[decide_eq_false_iff_not] at hq ⊢
   rcases hq with h1|h1
   .left;intro e;exact h1 (by have:=LK (ex:=os) aw ka (by omega);omega)
   .right;intro e;exact h1 (by have:=LK (ex:=cs) ax kb (by omega);omega)
end Go.Proofs.YthpkmilhiganjaaGreat
namespace Go.Proofs.YthpkmilhiganjaaGreat
open Go Go.Fi
variable[av]
theorem zet(s:ByteArray)(hs:s.size<1000000):aC Tz.prog 134 [.str s] (.bool (fF s)) true:=by
 refine rcK Tz.func134 ?_;simp only[Tryz.results134,Tryz.ntmps134]
 repeat' first|(with_reducible first|apply ai|apply au|apply az|apply af|apply al|refine wS ?_ ?_|refine fz ?_ ?_|intro _)|(simp[*])
 .exact Oj (by omega)
 rotate_left
 .rename_i h0;exact GD (by have:=of_decide_eq_true h0;omega)
 rename_i hA hB
 have hm:s.size≠0:=by have:=of_decide_eq_false hA;omega
 refine wV (λk:Nat=>k<=s.size/\lI s k=true) [0] (λk=>[(3,.w false false (.int .i64 k))]) (λ_=>[]) (λk=>s.size-k)
  (λ_:Unit=>lI s s.size=true) [0] (λ_=>[]) (λ_=>[]) 0 ⟨aK _,rfl⟩ (by simp) (by simp) (λk hk=>?_) (λ_ hf=>?_)
 .obtain⟨hk,hf⟩:=hk
  repeat' first|(with_reducible first|apply ai|apply aF|apply au|apply az|apply aL|apply af|apply al|refine And.intro ?_ ?_|refine wS ?_ ?_|refine wR ?_ ?_|refine fz ?_ ?_|intro _)|(simp[*])
  all_goals first
   |exact aG (by omega) (by omega)
   |omega
   |(refine nx (k+1) ?_ ?_;(· refine⟨by omega,?_⟩;unfold lI;rw[hf];clear hf;simp[okB,uH] at *;omega);(refine aD ?_ ?_<;>first|trivial|(simp[*];done)))
   |(refine aZ () ?_ ?_;(· rw[show s.size=k by omega];exact hf);(refine aD ?_ ?_<;>first|trivial|(simp[*];done)))
   |(unfold fF;rw[Bn s k (by clear hf;simp[okB,uH] at *;omega) s.size (by omega)];rfl)
 .repeat' first|(with_reducible first|apply ai|apply az|apply af|intro _)|(simp[*])
  all_goals (rw[GF hf hm];simp;omega)
theorem zf8(ab:List Car)(os:List Ord)(wt:List (List Int))(zs:List Par)(i:Nat)(hi:i<ab.length)(hl:ab.length<=1000)(hs:∀x∈ab,x.1.size<1000000):aC Tz.prog 108 [.agg [.sl ab.length (aS ab),.sl os.length (aR os),.sl wt.length (a8 wt),.sl zs.length (aT zs)],.int .i64 i] (.int .i64 (g7 Prod.fst fG ab i (nth ab i))) true:=by
 have c1:=zet (nth ab i).1 (hs _ (eJ hi));have c2:=ma (nth ab i).2.1 1 8;generalize hR:g7 Prod.fst fG ab i (nth ab i)=R;unfold g7 fG at hR;clear hs
 cases hb:fF (nth ab i).1 with
 |false=>
  rw[hb] at c1 hR;have hR:(4:Int)=R:=hR;subst hR;clear hb c2;refine rcK Tz.func108 ?_;simp only[Tryz.results108,Tryz.ntmps108]
  repeat' first|(with_reducible first|apply ai|apply az|apply af|apply al|refine And.intro ?_ ?_|refine cw (c1) ?_|intro _)|(simp[*,hi])|(refine ae (c1) ?_ ?_;(· (simp[*];done)))
  all_goals first|omega
 |true=>
  rw[hb] at c1 hR;clear hb;have hR:cX [ba (!((ab.take i).any λy=>decide (y.1=(nth ab i).1))) 5,ba (aU (nth ab i).2.1 1 8) 2]=R:=hR;generalize hA:((ab.take i).any λy=>decide (y.1=(nth ab i).1))=A at hR;have kA:aN (((ab.take i).drop 0).any (λy=>decide (y.1=(nth ab i).1))=A):=hA;have kR:=keep hR;clear hA hR;refine rcK Tz.func108 ?_;simp only[Tryz.results108,Tryz.ntmps108]
  repeat' first|(with_reducible first|apply ai|apply au|apply af|apply al|refine And.intro ?_ ?_|refine cw (c1) ?_|intro _)|(simp[*,hi])|(refine ae (c1) ?_ ?_;(· (simp[*];done)))
  all_goals try first|omega|assumption
  refine bQ (λ(k:Nat)=>k<=i/\((ab.take i).drop k).any (λy=>decide (y.1=(nth ab i).1))=A) [1,2] (λ(k:Nat)=>[(5,.w false false (.int .i64 k))]) [0] (λ(k:Nat)=>[]) (λ(k:Nat)=>i-k) (λ(_u:Unit)=>A=false) [1,2] (λ(_u:Unit)=>[]) [0] (λ(_u:Unit)=>[]) (0) ⟨aK _,kA⟩ (by simp) (by simp) (λk hk=>?_) (λ_u hf=>?_)
  .obtain⟨hk,hj⟩:=hk;clear c1;by_cases h3:k<i
   .have hh:k<ab.length:=by omega
    have h9:k<(ab.take i).length:=by rw[ia];omega
    rw[dg _ k h9,mX] at hj
    have e:nth (ab.take i) k=nth ab k:=by
     simp[nth,bS,jk,h3]
    rw[e] at hj;have kj:=keep hj;clear hj e h9;by_cases hn:(nth ab k).1=(nth ab i).1
    .have hA:A=true:=by have h:=kj;unfold aN at h;rw[<-h];simp[hn]
     subst hA;have hR:(5:Int)=R:=kR;subst hR;clear kj kR kA
     repeat' first|(with_reducible first|apply ai|apply aF|apply au|apply az|apply af|refine aQ (id:=6) 13 mixed (by decide +kernel) ?_|apply al|intro _)|(simp[*,h3,hh,hi,hn])
     all_goals first|omega|exact aG (by omega) (by omega)
    .have kj2:aN (((ab.take i).drop (k+1)).any (λy=>decide (y.1=(nth ab i).1))=A):=by have h:=kj;unfold aN at h ⊢;rw[<-h];simp[hn]
     clear kj kA
     repeat' first|(with_reducible first|apply ai|apply aF|apply au|apply af|refine aQ (id:=6) 13 mixed (by decide +kernel) ?_|apply al|refine And.intro ?_ ?_|intro _)|(simp[*,h3,hh,hi,hn])
     all_goals first
      |omega
      |exact aG (by omega) (by omega)
      |(refine nx (k+1) ?_ ?_;(· exact⟨by omega,kj2⟩);(refine aD ?_ ?_<;>first|trivial|(simp[*];done)))
   .have h5:k=i:=by omega
    subst h5;have h8:aN (A=false):=keep (by rw[<-hj];simp);clear hj kA
    repeat' first|(with_reducible first|apply ai|apply aL|apply af|apply al|intro _)|(simp[*])
    all_goals first
     |omega
     |(refine aZ () ?_ ?_;(· exact h8);(refine aD ?_ ?_<;>first|trivial|(simp[*];done)))
  .subst hf;clear kA c1
   cases hw:aU (nth ab i).2.1 1 8 with
   |true=>
    rw[hw] at c2 kR;have hR:(0:Int)=R:=kR;subst hR;clear kR hw
    repeat' first|(with_reducible first|apply ai|apply au|apply az|apply af|apply al|refine And.intro ?_ ?_|refine cw (c2) ?_|intro _)|(simp[*,hi])|(refine ae (c2) ?_ ?_;(· (simp[*];done)))
    all_goals first|omega
   |false=>
    rw[hw] at c2 kR;have hR:(2:Int)=R:=kR;subst hR;clear kR hw
    repeat' first|(with_reducible first|apply ai|apply az|apply af|apply al|refine And.intro ?_ ?_|refine cw (c2) ?_|intro _)|(simp[*,hi])|(refine ae (c2) ?_ ?_;(· (simp[*];done)))
    all_goals first|omega
theorem zf9(ab:List Car)(os:List Ord)(wt:List (List Int))(zs:List Par)(i:Nat)(hi:i<os.length)(hl:os.length<=1000)(hs:∀x∈os,x.1.size<1000000):aC Tz.prog 109 [.agg [.sl ab.length (aS ab),.sl os.length (aR os),.sl wt.length (a8 wt),.sl zs.length (aT zs)],.int .i64 i] (.int .i64 (g7 Prod.fst eH os i (nth os i))) true:=by
 have c1:=zet (nth os i).1 (hs _ (eJ hi));have c2:=ma (nth os i).2.1 1 8;have c3:=ma (nth os i).2.2.2 0 6;generalize hR:g7 Prod.fst eH os i (nth os i)=R;unfold g7 eH at hR;clear hs
 cases hb:fF (nth os i).1 with
 |false=>
  rw[hb] at c1 hR;have hR:(4:Int)=R:=hR;subst hR;clear hb c2 c3;refine rcK Tz.func109 ?_;simp only[Tryz.results109,Tryz.ntmps109]
  repeat' first|(with_reducible first|apply ai|apply az|apply af|apply al|refine And.intro ?_ ?_|refine cw (c1) ?_|intro _)|(simp[*,hi])|(refine ae (c1) ?_ ?_;(· (simp[*];done)))
  all_goals first|omega
 |true=>
  rw[hb] at c1 hR;clear hb;have hR:cX [ba (!((os.take i).any λy=>decide (y.1=(nth os i).1))) 5,ba (aU (nth os i).2.1 1 8&&aU (nth os i).2.2.2 0 6) 2]=R:=hR;generalize hA:((os.take i).any λy=>decide (y.1=(nth os i).1))=A at hR;have kA:aN (((os.take i).drop 0).any (λy=>decide (y.1=(nth os i).1))=A):=hA;have kR:=keep hR;clear hA hR;refine rcK Tz.func109 ?_;simp only[Tryz.results109,Tryz.ntmps109]
  repeat' first|(with_reducible first|apply ai|apply au|apply af|apply al|refine And.intro ?_ ?_|refine cw (c1) ?_|intro _)|(simp[*,hi])|(refine ae (c1) ?_ ?_;(· (simp[*];done)))
  all_goals try first|omega|assumption
  refine bQ (λ(k:Nat)=>k<=i/\((os.take i).drop k).any (λy=>decide (y.1=(nth os i).1))=A) [1,2] (λ(k:Nat)=>[(5,.w false false (.int .i64 k))]) [0] (λ(k:Nat)=>[]) (λ(k:Nat)=>i-k) (λ(_u:Unit)=>A=false) [1,2] (λ(_u:Unit)=>[]) [0] (λ(_u:Unit)=>[]) (0) ⟨aK _,kA⟩ (by simp) (by simp) (λk hk=>?_) (λ_u hf=>?_)
  .obtain⟨hk,hj⟩:=hk;clear c1;by_cases h3:k<i
   .have hh:k<os.length:=by omega
    have h9:k<(os.take i).length:=by rw[ia];omega
    rw[dg _ k h9,mX] at hj
    have e:nth (os.take i) k=nth os k:=by
     simp[nth,bS,jk,h3]
    rw[e] at hj;have kj:=keep hj;clear hj e h9;by_cases hn:(nth os k).1=(nth os i).1
    .have hA:A=true:=by have h:=kj;unfold aN at h;rw[<-h];simp[hn]
     subst hA;have hR:(5:Int)=R:=kR;subst hR;clear kj kR kA
     repeat' first|(with_reducible first|apply ai|apply aF|apply au|apply az|apply af|refine aQ (id:=6) 13 mixed (by decide +kernel) ?_|apply al|intro _)|(simp[*,h3,hh,hi,hn])
     all_goals first|omega|exact aG (by omega) (by omega)
    .have kj2:aN (((os.take i).drop (k+1)).any (λy=>decide (y.1=(nth os i).1))=A):=by have h:=kj;unfold aN at h ⊢;rw[<-h];simp[hn]
     clear kj kA
     repeat' first|(with_reducible first|apply ai|apply aF|apply au|apply af|refine aQ (id:=6) 13 mixed (by decide +kernel) ?_|apply al|refine And.intro ?_ ?_|intro _)|(simp[*,h3,hh,hi,hn])
     all_goals first
      |omega
      |exact aG (by omega) (by omega)
      |(refine nx (k+1) ?_ ?_;(· exact⟨by omega,kj2⟩);(refine aD ?_ ?_<;>first|trivial|(simp[*];done)))
   .have h5:k=i:=by omega
    subst h5;have h8:aN (A=false):=keep (by rw[<-hj];simp);clear hj kA
    repeat' first|(with_reducible first|apply ai|apply aL|apply af|apply al|intro _)|(simp[*])
    all_goals first
     |omega
     |(refine aZ () ?_ ?_;(· exact h8);(refine aD ?_ ?_<;>first|trivial|(simp[*];done)))
  .subst hf;clear kA c1
   cases hw:aU (nth os i).2.1 1 8 with
   |true=>
    cases hv:aU (nth os i).2.2.2 0 6 with
    |true=>
     rw[hw,hv] at kR;rw[hw] at c2;rw[hv] at c3;have hR:(0:Int)=R:=kR;subst hR;clear kR hw hv
     repeat' first|(with_reducible first|apply ai|apply au|apply az|apply af|apply al|refine And.intro ?_ ?_|refine cw (c2) ?_|refine cw (c3) ?_|intro _)|(simp[*,hi])|(refine ae (c2) ?_ ?_;(· (simp[*];done)))|(refine ae (c3) ?_ ?_;(· (simp[*];done)))
     all_goals first|omega
    |false=>
     rw[hw,hv] at kR;rw[hw] at c2;rw[hv] at c3;have hR:(2:Int)=R:=kR;subst hR;clear kR hw hv
     repeat' first|(with_reducible first|apply ai|apply az|apply af|apply al|refine And.intro ?_ ?_|refine cw (c2) ?_|refine cw (c3) ?_|intro _)|(simp[*,hi])|(refine ae (c2) ?_ ?_;(· (simp[*];done)))|(refine ae (c3) ?_ ?_;(· (simp[*];done)))
     all_goals first|omega
   |false=>
    rw[hw] at c2 kR;have hR:(2:Int)=R:=kR;subst hR;clear kR hw c3
    repeat' first|(with_reducible first|apply ai|apply az|apply af|apply al|refine And.intro ?_ ?_|refine cw (c2) ?_|intro _)|(simp[*,hi])|(refine ae (c2) ?_ ?_;(· (simp[*];done)))
    all_goals first|omega
def hasB(l:List Par)(v:Par):Bool:=l.any λy=>decide (v.1=y.1)&&decide (v.2=y.2)
theorem zga(l:List Par)(hl:l.length<100000)(v:Par):aC Tz.prog 110 [.sl l.length (aT l),.agg (Tw.cu v)] (.bool (hasB l v)) true:=by
 unfold hasB;generalize hR:(l.any λy=>decide (v.1=y.1)&&decide (v.2=y.2))=R;have kR:aN ((l.drop 0).any (λy=>decide (v.1=y.1)&&decide (v.2=y.2))=R):=keep hR;clear hR;obtain⟨v1,v2⟩:=v;simp only[Tw.cu];refine rcK Tz.func110 ?_;simp only[Tryz.results110,Tryz.ntmps110]
 repeat' first|(with_reducible first|apply ai|apply af|intro _)|(simp[*])
 refine bQ (λ(k:Nat)=>k<=l.length/\(l.drop k).any (λy=>decide (v1=y.1)&&decide (v2=y.2))=R) [0,3] (λ(k:Nat)=>[(5,.w false false (.int .i64 k))]) [0] (λ(k:Nat)=>[]) (λ(k:Nat)=>l.length-k) (λ(_u:Unit)=>R=false) [] (λ(_u:Unit)=>[]) [0] (λ(_u:Unit)=>[]) (0) ⟨aK _,kR⟩ (by simp) (by simp) (λk hk=>?_) (λ_u hf=>?_)
 .obtain⟨hk,hj⟩:=hk;by_cases h3:k<l.length
  .rw[dg l k h3,mX] at hj;by_cases h1:(nth l k).1=v1
   .by_cases h2:(nth l k).2=v2
    .have hR:R=true:=by rw[<-hj];simp[h1,h2]
     subst hR;clear hj kR
     repeat' first|(with_reducible first|apply ai|apply aF|apply au|apply az|apply af|refine aQ (id:=4) 6 mixed (by decide +kernel) ?_|apply al|refine And.intro ?_ ?_|intro _)|(simp[*,h3,h1,h2,Tw.cu])
     all_goals first|omega|exact aG (by omega) (by omega)
    .have hx:¬v2=(nth l k).2:=λe=>h2 e.symm
     have kj:aN ((l.drop (k+1)).any (λy=>decide (v1=y.1)&&decide (v2=y.2))=R):=keep (by rw[<-hj];simp[hx]);clear hj kR hx
     repeat' first|(with_reducible first|apply ai|apply aF|apply au|apply af|refine aQ (id:=4) 6 mixed (by decide +kernel) ?_|apply al|refine And.intro ?_ ?_|intro _)|(simp[*,h3,h1,h2,Tw.cu])
     all_goals first
      |omega
      |exact aG (by omega) (by omega)
      |(refine nx (k+1) ?_ ?_;(· exact⟨by omega,kj⟩);(refine aD ?_ ?_<;>first|trivial|(simp[*];done)))
   .have hr:¬v1=(nth l k).1:=λe=>h1 e.symm
    have kj:aN ((l.drop (k+1)).any (λy=>decide (v1=y.1)&&decide (v2=y.2))=R):=keep (by rw[<-hj];simp[hr]);clear hj kR hr
    repeat' first|(with_reducible first|apply ai|apply aF|apply au|apply af|refine aQ (id:=4) 6 mixed (by decide +kernel) ?_|apply al|refine And.intro ?_ ?_|intro _)|(simp[*,h3,h1,Tw.cu])
    all_goals first
     |omega
     |exact aG (by omega) (by omega)
     |(refine nx (k+1) ?_ ?_;(· exact⟨by omega,kj⟩);(refine aD ?_ ?_<;>first|trivial|(simp[*];done)))
  .have h5:k=l.length:=by omega
   subst h5;have kj:aN (R=false):=keep (by rw[<-hj];simp);clear hj kR
   repeat' first|(with_reducible first|apply ai|apply aL|apply af|apply al|intro _)|(simp[*])
   all_goals first
    |(refine aZ () ?_ ?_;(· exact kj);(refine aD ?_ ?_<;>first|trivial|(simp[*];done)))
 .subst hf
  repeat' first|(with_reducible first|apply ai|apply az|apply af|intro _)|(simp[*])
theorem zeu(ab:List Car)(os:List Ord)(wt:List (List Int))(zs:List Par)(ho:os.length<100000)(n:Int):aC Tz.prog 43 [.agg [.sl ab.length (aS ab),.sl os.length (aR os),.sl wt.length (a8 wt),.sl zs.length (aT zs)],.int .i64 n] (.bool (aU n 0 ((os.length:Int)-1))) true:=by
 refine rcK Tz.func43 ?_;simp only[Tryz.results43,Tryz.ntmps43]
 repeat' first|(with_reducible first|apply ai|apply az|apply af|refine And.intro ?_ ?_|refine cw (ma _ _ _) ?_|intro _)|(simp[*])|(refine ae (ma _ _ _) ?_ ?_;(· (simp[*];done)))
 all_goals first|omega|exact aG (by omega) (by omega)
theorem zev(ab:List Car)(os:List Ord)(wt:List (List Int))(zs:List Par)(ho:ab.length<100000)(n:Int):aC Tz.prog 45 [.agg [.sl ab.length (aS ab),.sl os.length (aR os),.sl wt.length (a8 wt),.sl zs.length (aT zs)],.int .i64 n] (.bool (aU n 0 ((ab.length:Int)-1))) true:=by
 refine rcK Tz.func45 ?_;simp only[Tryz.results45,Tryz.ntmps45]
 repeat' first|(with_reducible first|apply ai|apply az|apply af|refine And.intro ?_ ?_|refine cw (ma _ _ _) ?_|intro _)|(simp[*])|(refine ae (ma _ _ _) ?_ ?_;(· (simp[*];done)))
 all_goals first|omega|exact aG (by omega) (by omega)
theorem zgb(ab:List Car)(os:List Ord)(wt:List (List Int))(zs:List Par)(a5:ab.length<=1000)(a6:os.length<=1000)(a9:wt.length<100000)(aa:zs.length<100000)(hc:∀x∈ab,x.1.size<1000000)(ho:∀x∈os,x.1.size<1000000)(hw:∀x∈wt,x.length<100000):aC Tz.prog 58 [.agg [.sl ab.length (aS ab),.sl os.length (aR os),.sl wt.length (a8 wt),.sl zs.length (aT zs)]] (.tup [.int .i64 (g9 ab os wt zs).1,.int .i64 (g9 ab os wt zs).2]) true:=by
 generalize hR:g9 ab os wt zs=R;obtain⟨R1,R2⟩:=R;unfold g9 at hR;have kc:=keep hc;have ko:=keep ho;have kw:=keep hw;clear hc ho hw;by_cases a1:(8:Int)<ab.length
 .rw[aB a1] at hR;obtain⟨q1,q2⟩:=br hR;subst q1 q2;clear hR;refine rcK Tz.func58 ?_;simp only[Tryz.results58,Tryz.ntmps58]
  repeat' first|(with_reducible first|apply ai|apply az|apply af|apply al|intro _)|(simp[*,a1])
  all_goals first|omega|exact aG (by omega) (by omega)|assumption
 rw[ar a1] at hR;generalize hN:gC Prod.fst fG ab=N at hR;obtain⟨N1,N2⟩:=N;have kN:aN (fq Prod.fst fG ab (ab.drop 0) 0=(N1,N2)):=hN;have kR:=keep hR;clear hR hN;refine rcK Tz.func58 ?_;simp only[Tryz.results58,Tryz.ntmps58]
 repeat' first|(with_reducible first|apply ai|apply au|apply af|apply al|intro _)|(simp[*,a1])
 refine bQ (λ(k:Nat)=>k<=ab.length/\fq Prod.fst fG ab (ab.drop k) k=(N1,N2)) [1] (λ(k:Nat)=>[(4,.w false false (.int .i64 k))]) [0] (λ(k:Nat)=>[]) (λ(k:Nat)=>ab.length-k) (λ(_u:Unit)=>N1=0/\N2=0) [1] (λ(_u:Unit)=>[]) [0] (λ(_u:Unit)=>[]) (0) ⟨aK _,kN⟩ (by simp) (by simp) (λk hk=>?_) (λ_u hf=>?_)
 .obtain⟨hk,hj⟩:=hk;by_cases h3:k<ab.length
  .have c1:=zf8 ab os wt zs k h3 (by omega) kc;rw[dg ab k h3,fq] at hj;generalize g7 Prod.fst fG ab k (nth ab k)=e at hj c1;by_cases he:e=0
   .rw[aB he] at hj;subst he;have kj:=keep hj;clear hj
    repeat' first|(with_reducible first|apply ai|apply aF|apply au|apply af|apply al|refine And.intro ?_ ?_|refine cw (c1) ?_|intro _)|(simp[*,h3])|(refine ae (c1) ?_ ?_;(· (simp[*];done)))
    all_goals first
     |omega
     |exact aG (by omega) (by omega)
     |(refine nx (k+1) ?_ ?_;(· exact⟨by omega,kj⟩);(refine aD ?_ ?_<;>first|trivial|(simp[*];done)))
   .rw[ar he] at hj;obtain⟨g1,g2⟩:=br hj;have h1:=(br (show (N1,N2)=(R1,R2) by have h:=kR;unfold aN at h;rw[aB (show (N1,N2).2≠0 fromλh0=>he (g2.trans h0))] at h;exact h));have q1:(k:Int)=R1:=g1.trans h1.1;have q2:e=R2:=g2.trans h1.2;subst q1 q2;clear hj kR g1 g2 h1 kN
    repeat' first|(with_reducible first|apply ai|apply aF|apply au|apply az|apply af|apply al|refine And.intro ?_ ?_|refine cw (c1) ?_|intro _)|(simp[*,h3,he])|(refine ae (c1) ?_ ?_;(· (simp[*];done)))
    all_goals first|omega|exact aG (by omega) (by omega)|assumption
  .have h5:k=ab.length:=by omega
   subst h5;rw[fg] at hj;have hj:((0:Int),(0:Int))=(N1,N2):=hj;have kj:aN (N1=0/\N2=0):=keep ⟨(br hj).1.symm,(br hj).2.symm⟩;clear hj
   repeat' first|(with_reducible first|apply ai|apply aL|apply af|apply al|intro _)|(simp[*])
   all_goals first
    |omega
    |(refine aZ () ?_ ?_;(· exact kj);(refine aD ?_ ?_<;>first|trivial|(simp[*];done)))
 obtain⟨rfl,rfl⟩:=hf;have hR:(if (8:Int)<os.length then ((0:Int),(8:Int)) else if (gC Prod.fst eH os).2≠0 then gC Prod.fst eH os else if (wt.length:Int)≠os.length then (0,10) else fU (λ_=>gj ab.length) wt 0 (g8 os.length ab.length zs))=(R1,R2):=kR;clear kR kN;by_cases a2:(8:Int)<os.length
 .rw[aB a2] at hR;obtain⟨q1,q2⟩:=br hR;subst q1 q2;clear hR
  repeat' first|(with_reducible first|apply ai|apply az|apply af|apply al|intro _)|(simp[*,a2])
  all_goals first|omega|exact aG (by omega) (by omega)|assumption
 rw[ar a2] at hR;generalize hN:gC Prod.fst eH os=M at hR;obtain⟨M1,M2⟩:=M;have kM:aN (fq Prod.fst eH os (os.drop 0) 0=(M1,M2)):=hN;have kR:=keep hR;clear hR hN
 repeat' first|(with_reducible first|apply ai|apply au|apply af|apply al|intro _)|(simp[*,a2])
 refine bQ (λ(k:Nat)=>k<=os.length/\fq Prod.fst eH os (os.drop k) k=(M1,M2)) [1] (λ(k:Nat)=>[(6,.w false false (.int .i64 k))]) [0] (λ(k:Nat)=>[]) (λ(k:Nat)=>os.length-k) (λ(_u:Unit)=>M1=0/\M2=0) [1] (λ(_u:Unit)=>[]) [0] (λ(_u:Unit)=>[]) (0) ⟨aK _,kM⟩ (by simp) (by simp) (λk hk=>?_) (λ_u hf=>?_)
 .obtain⟨hk,hj⟩:=hk;by_cases h3:k<os.length
  .have c1:=zf9 ab os wt zs k h3 (by omega) ko;rw[dg os k h3,fq] at hj;generalize g7 Prod.fst eH os k (nth os k)=e at hj c1;by_cases he:e=0
   .rw[aB he] at hj;subst he;have kj:=keep hj;clear hj
    repeat' first|(with_reducible first|apply ai|apply aF|apply au|apply af|apply al|refine And.intro ?_ ?_|refine cw (c1) ?_|intro _)|(simp[*,h3])|(refine ae (c1) ?_ ?_;(· (simp[*];done)))
    all_goals first
     |omega
     |exact aG (by omega) (by omega)
     |(refine nx (k+1) ?_ ?_;(· exact⟨by omega,kj⟩);(refine aD ?_ ?_<;>first|trivial|(simp[*];done)))
   .rw[ar he] at hj;obtain⟨g1,g2⟩:=br hj;have h1:=(br (show (M1,M2)=(R1,R2) by have h:=kR;unfold aN at h;rw[aB (show (M1,M2).2≠0 fromλh0=>he (g2.trans h0))] at h;exact h));have q1:(k:Int)=R1:=g1.trans h1.1;have q2:e=R2:=g2.trans h1.2;subst q1 q2;clear hj kR g1 g2 h1 kM
    repeat' first|(with_reducible first|apply ai|apply aF|apply au|apply az|apply af|apply al|refine And.intro ?_ ?_|refine cw (c1) ?_|intro _)|(simp[*,h3,he])|(refine ae (c1) ?_ ?_;(· (simp[*];done)))
    all_goals first|omega|exact aG (by omega) (by omega)|assumption
  .have h5:k=os.length:=by omega
   subst h5;rw[fg] at hj;have hj:((0:Int),(0:Int))=(M1,M2):=hj;have kj:aN (M1=0/\M2=0):=keep ⟨(br hj).1.symm,(br hj).2.symm⟩;clear hj
   repeat' first|(with_reducible first|apply ai|apply aL|apply af|apply al|intro _)|(simp[*])
   all_goals first
    |omega
    |(refine aZ () ?_ ?_;(· exact kj);(refine aD ?_ ?_<;>first|trivial|(simp[*];done)))
 obtain⟨rfl,rfl⟩:=hf;have hR:(if (wt.length:Int)≠os.length then ((0:Int),(10:Int)) else fU (λ_=>gj ab.length) wt 0 (g8 os.length ab.length zs))=(R1,R2):=kR;clear kR kM;by_cases a3:(wt.length:Int)=os.length
 rotate_left
 .rw[aB a3] at hR;obtain⟨q1,q2⟩:=br hR;subst q1 q2;clear hR
  repeat' first|(with_reducible first|apply ai|apply az|apply af|apply al|intro _)|(simp[*,a3])
  all_goals first|omega|exact aG (by omega) (by omega)|assumption
 rw[ar (λh=>h a3)] at hR;have kT:aN (fU (λ_=>gj ab.length) (wt.drop 0) 0 (g8 os.length ab.length zs)=(R1,R2)):=hR;clear hR
 repeat' first|(with_reducible first|apply ai|apply au|apply af|apply al|intro _)|(simp[*,a3])
 refine bQ (λ(k:Nat)=>k<=wt.length/\fU (λ_=>gj ab.length) (wt.drop k) k (g8 os.length ab.length zs)=(R1,R2)) [1] (λ(k:Nat)=>[(8,.w false false (.int .i64 k))]) [0] (λ(k:Nat)=>[]) (λ(k:Nat)=>wt.length-k) (λ(_u:Unit)=>g8 os.length ab.length zs=(R1,R2)) [1] (λ(_u:Unit)=>[]) [0] (λ(_u:Unit)=>[]) (0) ⟨aK _,kT⟩ (by simp) (by simp) (λk hk=>?_) (λ_u hf=>?_)
 .obtain⟨hk,hj⟩:=hk;clear kT;by_cases h3:k<wt.length
  .have ao:=kw _ (eJ h3);rw[dg wt k h3,GJ] at hj;unfold gj at hj;by_cases hl:((nth wt k).length:Int)=ab.length
   .rw[decide_eq_true hl] at hj
    have hj:(if ba (!((nth wt k).any λx=>!aU x 0 100000)) 2=0 then fU (λ_=>gj ab.length) (wt.drop (k+1)) (k+1) (g8 os.length ab.length zs) else ((k:Int),ba (!((nth wt k).any λx=>!aU x 0 100000)) 2))=(R1,R2):=by
     rw[<-hj];simp only[cX,ba]
     cases ((nth wt k).any λx=>!aU x 0 100000)<;>rfl
    generalize hA:((nth wt k).any λx=>!aU x 0 100000)=A at hj;have kA:aN (((nth wt k).drop 0).any (λx=>!aU x 0 100000)=A):=hA;have kj:=keep hj;clear hj hA
    repeat' first|(with_reducible first|apply ai|apply aF|apply au|apply aL|apply af|refine aQ (id:=22) 10 mixed (by decide +kernel) ?_|apply al|refine fz ?_ ?_|intro _)|(simp[*,h3,hl])
    all_goals try first|omega|assumption
    refine bQ (λ(j:Nat)=>j<=(nth wt k).length/\((nth wt k).drop j).any (λx=>!aU x 0 100000)=A) [1,8] (λ(j:Nat)=>[(9,.w false false (.int .i64 j))]) [0] (λ(j:Nat)=>[]) (λ(j:Nat)=>(nth wt k).length-j) (λ(_u:Unit)=>A=false) [1,8] (λ(_u:Unit)=>[]) [0] (λ(_u:Unit)=>[]) (0) ⟨aK _,kA⟩ (by simp) (by simp) (λj hk=>?_) (λ_u hf=>?_)
    .obtain⟨b4,h8⟩:=hk;clear kA;by_cases hg:j<(nth wt k).length
     .rw[dg _ j hg,mX] at h8;have c1:=ma (nth (nth wt k) j) 0 100000
      cases hb:aU (nth (nth wt k) j) 0 100000 with
      |true=>
       rw[hb] at h8 c1;have kj2:aN (((nth wt k).drop (j+1)).any (λx=>!aU x 0 100000)=A):=keep h8;clear h8 kj hb
       repeat' first|(with_reducible first|apply ai|apply aF|apply au|apply aL|apply af|apply al|refine And.intro ?_ ?_|refine fz ?_ ?_|refine cw (c1) ?_|intro _)|(simp[*,h3,hg])|(refine ae (c1) ?_ ?_;(· (simp[*];done)))
       all_goals first
        |omega
        |exact aG (by omega) (by omega)
        |(refine nx (j+1) ?_ ?_;(· exact⟨by omega,kj2⟩);(refine aD ?_ ?_<;>first|trivial|(simp[*];done)))
      |false=>
       rw[hb] at h8 c1
       have hA:A=true:=by rw[<-h8];rfl
       subst hA;have h1:((k:Int),(2:Int))=(R1,R2):=kj;obtain⟨q1,q2⟩:=br h1;subst q1 q2;clear h8 kj hb h1
       repeat' first|(with_reducible first|apply ai|apply aF|apply au|apply az|apply aL|apply af|apply al|refine And.intro ?_ ?_|refine fz ?_ ?_|refine cw (c1) ?_|intro _)|(simp[*,h3,hg])|(refine ae (c1) ?_ ?_;(· (simp[*];done)))
       all_goals first|omega|exact aG (by omega) (by omega)
     .have h5:j=(nth wt k).length:=by omega
      subst h5;have kj2:aN (A=false):=keep (by rw[<-h8];simp);clear h8 kj
      repeat' first|(with_reducible first|apply ai|apply aL|apply af|apply al|intro _)|(simp[*,h3])
      all_goals first
       |omega
       |(refine aZ () ?_ ?_;(· exact kj2);(refine aD ?_ ?_<;>first|trivial|(simp[*];done)))
    .subst hf;have kj2:aN (fU (λ_=>gj ab.length) (wt.drop (k+1)) (k+1) (g8 os.length ab.length zs)=(R1,R2)):=kj;clear kj kA
     repeat' first|(with_reducible first|apply af|refine And.intro ?_ ?_|intro _)|(simp[*,h3])
     all_goals first
      |omega
      |exact aG (by omega) (by omega)
      |(refine nx (k+1) ?_ ?_;(· exact⟨by omega,kj2⟩);(refine aD ?_ ?_<;>first|trivial|(simp[*];done)))
   .rw[decide_eq_false hl] at hj;have h1:((k:Int),(10:Int))=(R1,R2):=hj;obtain⟨q1,q2⟩:=br h1;subst q1 q2;clear hj h1
    repeat' first|(with_reducible first|apply ai|apply aF|apply au|apply az|apply aL|apply af|refine aQ (id:=22) 10 mixed (by decide +kernel) ?_|apply al|refine fz ?_ ?_|intro _)|(simp[*,h3,hl])
    all_goals first|omega|exact aG (by omega) (by omega)
  .have h5:k=wt.length:=by omega
   subst h5;rw[fg,GK] at hj;have kj:=keep hj;clear hj
   repeat' first|(with_reducible first|apply ai|apply aL|apply af|apply al|intro _)|(simp[*,a3])
   all_goals first
    |omega
    |(refine aZ () ?_ ?_;(· exact kj);(refine aD ?_ ?_<;>first|trivial|(simp[*];done)))
 clear kT;unfold g8 at hf;by_cases a4:(64:Int)<zs.length
 .rw[aB a4] at hf;obtain⟨q1,q2⟩:=br hf;subst q1 q2;clear hf
  repeat' first|(with_reducible first|apply ai|apply az|apply af|apply al|intro _)|(simp[*,a4])
  all_goals first|omega|exact aG (by omega) (by omega)|assumption
 rw[ar a4] at hf;have kS:aN (dk (jJ os.length ab.length zs) (zs.drop 0) 0=(R1,R2)):=hf;clear hf
 repeat' first|(with_reducible first|apply ai|apply au|apply af|apply al|intro _)|(simp[*,a4])
 refine df 1 (λ(k:Nat)=>k<=zs.length/\dk (jJ os.length ab.length zs) (zs.drop k) k=(R1,R2)) [1] (λ(k:Nat)=>[(10,.w false false (.int .i64 k))]) [0] (λ(k:Nat)=>[]) (λ(k:Nat)=>zs.length-k) (λ(_u:Unit)=>R1=0/\R2=0) [] (λ(_u:Unit)=>[]) [0] (λ(_u:Unit)=>[]) (0) ⟨aK _,kS⟩ (aO [] (by simp) (by simp)) (λk hk=>?_) (λ_u hf=>?_)
 .obtain⟨hk,hj⟩:=hk;clear kS;by_cases h3:k<zs.length
  .have c1:=zga (zs.take k) (by rw[ia];omega) (nth zs k);rw[uS hk] at c1;have w1:=zeu ab os wt zs (by omega) (nth zs k).1;have w2:=zev ab os wt zs (by omega) (nth zs k).2;rw[dg zs k h3,dk] at hj;have hE:jJ os.length ab.length zs k (nth zs k)=cX [ba (aU (nth zs k).1 0 ((os.length:Int)-1)&&aU (nth zs k).2 0 ((ab.length:Int)-1)) 6,ba (!(hasB (zs.take k) (nth zs k))) 26]:=rfl;rw[hE] at hj;clear hE;unfold Tw.cu at c1;generalize aU (nth zs k).1 0 ((os.length:Int)-1)=g1 at *;generalize aU (nth zs k).2 0 ((ab.length:Int)-1)=g2 at *;generalize hasB (zs.take k) (nth zs k)=g3 at *
   have fin:∀e:Int,e≠0->((if e=0 then dk (jJ os.length ab.length zs) (zs.drop (k+1)) (k+1) else ((k:Int),e))=(R1,R2))->(k:Int)=R1/\e=R2:=λe he h=>by rw[ar he] at h;exact br h
   cases g1 with
   |false=>
    obtain⟨q1,q2⟩:=fin 6 (by decide) hj;subst q1 q2;clear hj fin
    repeat' first|(with_reducible first|apply ai|apply aF|apply au|apply az|apply af|apply al|refine And.intro ?_ ?_|refine cw (w1) ?_|intro _)|(simp[*,h3,Tw.cu])|(refine ae (w1) ?_ ?_;(· (simp[*];done)))
    all_goals first|omega|exact aG (by omega) (by omega)
   |true=>
    cases g2 with
    |false=>
     obtain⟨q1,q2⟩:=fin 6 (by decide) hj;subst q1 q2;clear hj fin
     repeat' first|(with_reducible first|apply ai|apply aF|apply au|apply az|apply af|apply al|refine And.intro ?_ ?_|refine cw (w1) ?_|refine cw (w2) ?_|intro _)|(simp[*,h3,Tw.cu])|(refine ae (w1) ?_ ?_;(· (simp[*];done)))|(refine ae (w2) ?_ ?_;(· (simp[*];done)))
     all_goals first|omega|exact aG (by omega) (by omega)
    |true=>
     cases g3 with
     |true=>
      obtain⟨q1,q2⟩:=fin 26 (by decide) hj;subst q1 q2;clear hj fin
      repeat' first|(with_reducible first|apply ai|apply aF|apply au|apply az|apply af|refine aQ (id:=37) 6 mixed (by decide +kernel) ?_|apply al|refine And.intro ?_ ?_|refine cw (w1) ?_|refine cw (w2) ?_|refine cw (c1) ?_|intro _)|(simp[*,h3,Tw.cu])|(refine ae (w1) ?_ ?_;(· (simp[*];done)))|(refine ae (w2) ?_ ?_;(· (simp[*];done)))|(refine ae (c1) ?_ ?_;(· (simp[*];done)))
      all_goals first|omega|exact aG (by omega) (by omega)
     |false=>
      have kj:aN (dk (jJ os.length ab.length zs) (zs.drop (k+1)) (k+1)=(R1,R2)):=hj;clear hj fin
      repeat' first|(with_reducible first|apply ai|apply aF|apply au|apply af|refine aQ (id:=37) 6 mixed (by decide +kernel) ?_|apply al|refine And.intro ?_ ?_|refine cw (w1) ?_|refine cw (w2) ?_|refine cw (c1) ?_|intro _)|(simp[*,h3,Tw.cu])|(refine ae (w1) ?_ ?_;(· (simp[*];done)))|(refine ae (w2) ?_ ?_;(· (simp[*];done)))|(refine ae (c1) ?_ ?_;(· (simp[*];done)))
      all_goals first
       |omega
       |exact aG (by omega) (by omega)
       |(refine nx (k+1) ?_ ?_;(· exact⟨by omega,kj⟩);(refine aO [] ?_ ?_<;>first|trivial|(simp[*];done)))
  .have h5:k=zs.length:=by omega
   subst h5;rw[fg] at hj;have hj:((0:Int),(0:Int))=(R1,R2):=hj;have kj:aN (R1=0/\R2=0):=keep ⟨(br hj).1.symm,(br hj).2.symm⟩;clear hj
   repeat' first|(with_reducible first|apply ai|apply aL|apply af|apply al|intro _)|(simp[*,a4])
   all_goals first
    |omega
    |(refine aZ () ?_ ?_;(· exact kj);(refine aD ?_ ?_<;>first|trivial|(simp[*];done)))
 .obtain⟨rfl,rfl⟩:=hf
  repeat' first|(with_reducible first|apply ai|apply az|apply af|intro _)|(simp[*])
def zci(ab:List Car)(os:List Ord)(zs:List Par)(i k:Nat):Bool:=
 (decide ((nth os i).2.1<=(nth ab k).2.1)&&((nth ab k).2.2 || !(nth os i).2.2.1)) && !hasB zs ((i:Int),(k:Int))
theorem zfd(r:Tw.RND)(i k:Nat)(hi:i<r.os.length)(hk:k<r.ab.length):nth (nth (aj r).fit i) k=zci r.ab r.os r.zs i k:=by
 have e1:nth (aj r).fit i=Tw.lE r i:=by
  unfold aj;simp[nth,bS,hi]
 have e2:nth (Tw.lE r i) k=Tw.BV (Tw.odW (Tw.odR r) i 0 0 0) k:=by
  show nth ((List.range r.ab.length).map _) k=_;simp[nth,bS,hk]
 rw[e1,e2]
 have e3:Tw.qD r.zs (i:Int) (k:Int)=hasB r.zs ((i:Int),(k:Int)):=by
  unfold Tw.qD hasB;congr 1
  funext z
  obtain⟨a,b⟩:=z;rw[iS];simp only[beq_iff_eq,bX,bU,decide_eq_true_eq];exact⟨λh=>⟨h.1.symm,h.2.symm⟩,λh=>⟨h.1.symm,h.2.symm⟩⟩
 show ((decide (((r.ab.getD k (default,0,false)).2.1)>=(r.os.getD i (default,0,false,0)).2.1)&&((r.ab.getD k (default,0,false)).2.2 || !(r.os.getD i (default,0,false,0)).2.2.1))&&(!Tw.qD r.zs i k))=_;rw[e3]
 have h1:r.ab.getD k (default,0,false)=nth r.ab k:=by simp[nth,bS,hk]
 have h2:r.os.getD i (default,0,false,0)=nth r.os i:=by simp[nth,bS,hi]
 rw[h1,h2];rfl
theorem zgc(ab:List Car)(os:List Ord)(wt:List (List Int))(zs:List Par)(a5:ab.length<=1000)(a6:os.length<=1000)(a9:wt.length<100000)(aa:zs.length<100000)(hc:∀x∈ab,x.1.size<1000000)(ho:∀x∈os,x.1.size<1000000)(hw:∀x∈wt,x.length<100000):aC Tz.prog 20 [.agg [.sl ab.length (aS ab),.sl os.length (aR os),.sl wt.length (a8 wt),.sl zs.length (aT zs)]] (.int .i64 (g9 ab os wt zs).2) true:=by
 have c:=zgb ab os wt zs a5 a6 a9 aa hc ho hw;generalize g9 ab os wt zs=R at *;clear hc ho hw;refine rcK Tz.func20 ?_;simp only[Tryz.results20,Tryz.ntmps20]
 repeat' first|(with_reducible first|apply ai|apply az|apply af|refine And.intro ?_ ?_|refine cw (c) ?_|intro _)|(simp[*])|(refine ae (c) ?_ ?_;(· (simp[*];done)))
end Go.Proofs.YthpkmilhiganjaaGreat
