/- Lemmas. -/
import Derived.Test.YthpkmilhiganjaaGreatPEc
import Derived.Test.YthpkmilhiganjaaGreatPEa
import Derived.Test.YthpkmilhiganjaaGreatPLf
set_option linter.all false
set_option maxHeartbeats 32000000
set_option maxRecDepth 100000
namespace Go.Proofs.YthpkmilhiganjaaGreat
open Go Go.Fi
theorem zeu(tk:List Int)(n:Nat):∀c,(∀k,k<c->nth tk k<(n:Int))->(∀j k,j<c->k<c->0<=nth tk j->nth tk j=nth tk k->j=k)->∀i,i<n->(∃k,k<c/\nth tk k=(i:Int)/\nth (kx tk n c) i=(k:Int))\/((∀k,k<c->nth tk k≠(i:Int))/\nth (kx tk n c) i=-1)
 |0,_,_,i,hi=>.inr ⟨λk hk=>absurd hk ab,D7 _ _ _ hi⟩
 |c+1,h1,h2,i,hi=>by
  have ih:=zeu tk n c (λk hk=>h1 k ab) (λj k hj hk=>h2 j k ab ab) i hi;have hc:=h1 c ab;unfold kx;by_cases h0:0<=nth tk c
  .rw[bX h0,ku _ _ _ _ (by rw[C5];omega)];by_cases e:(nth tk c).toNat=i
   .rw[bX e];exact .inl ⟨c,ab,ab,rfl⟩
   .rw[bH e]
    rcases ih with ⟨k,hk,e1,e2⟩|⟨e1,e2⟩
    .exact .inl ⟨k,ab,e1,e2⟩
    .refine .inr ⟨λk hk=>?_,e2⟩;by_cases bh:k=c
     .subst bh;omega
     .exact e1 k ab
  grind
structure zin(x:Rd)(u v:List Int):Prop where
 u0:∀i,i<x.os.length->0<=nth u i/\nth u i<=1000000000000
 v0:∀k,k<x.bz.length->0<=nth v k/\nth v k<=1000000000000
 pe:∀i,i<x.os.length->nth u i<=dR (prio x i)
 wt:∀i k,i<x.os.length->k<x.bz.length->nth (nth x.fit i) k=true->nth u i<=nth (nth x.wt i) k+nth v k
 no:∀i,i<x.os.length->nth (ba x) i=-1->nth u i=dR (prio x i)
 at_:∀i,i<x.os.length->nth (ba x) i≠-1->∃k,k<x.bz.length/\nth (ba x) i=(k:Int)/\nth (nth x.fit i) k=true/\nth u i=nth (nth x.wt i) k+nth v k
 one:∀i j,i<x.os.length->j<x.os.length->nth (ba x) i≠-1->nth (ba x) i=nth (ba x) j->i=j
 fr:∀k,k<x.bz.length->(∀i,i<x.os.length->nth (ba x) i≠(k:Int))->nth v k=0
theorem zca(x:Rd)(ok:ft x):zin x (cM x).u (bK x):=by
 have m:=zcj x ok;have hp:=zb7 x ok
 have hv:∀k,k<x.bz.length->nth (bK x) k=-(nth (cM x).v k):=λk hk=>by unfold bK;rw[C9 _ _ _ hk]
 have val:=zeu (cM x).ow x.os.length x.bz.length (λk hk=>by rcases m.how k ab with h|h<;>omega) (λj k hj hk=>m.fA j k ab ab)
 have b5:=λl hl=>m.ub hp (l:=l) hl
 have tC:∀i k,i<x.os.length->k<x.bz.length->FL x i k=if nth (nth x.fit i) k=true then nth (nth x.wt i) k else 1000000000000000:=λi k hi hk=>by
  rw[WK x i k hi ab];unfold C1
  grind
 have tP:∀i,i<x.os.length->FL x i (x.bz.length+i)=dR (prio x i):=λi hi=>by
  rw[WK x i _ hi ab];unfold C1;rw[bH ab,bX rfl]
 refine⟨λi hi=>⟨m.hu i hi,b5 i hi⟩,λk hk=>zep x ok k hk,λi hi=>?_,λi k hi hk hf=>?_,λi hi hn=>?_,λi hi hn=>?_,λi j hi hj hn e=>?_,λk hk bb=>?_⟩
 .have h1:=m.hf i (x.bz.length+i) hi ab;rw[tP i hi,m.hvp i hi] at h1;omega
 .have h1:=m.hf i k hi ab;rw[tC i k hi hk,bX hf] at h1;rw[hv k hk];omega
 .rcases val i hi with ⟨k,hk,_,e2⟩|⟨e1,_⟩
  .have:nth (ba x) i=(k:Int):=e2;omega
  .obtain⟨j,hj,ej⟩:=m.MS i hi
   have b9:¬j<x.bz.length:=λh=>e1 j h ej
   have aw:=(m.own hp (bV _) hj ab).resolve_left b9;have ht:=m.ht j hj ab;rw[ej] at aw ht;rw[fH] at aw ht;rw[aw,tP i hi,m.hvp i hi] at ht;omega
 .rcases val i hi with ⟨k,hk,e1,e2⟩|⟨_,e2⟩
  .refine⟨k,hk,e2,?_⟩;have ht:=m.ht k ab ab;rw[e1,fH,tC i k hi hk] at ht;have h1:=b5 i hi;have h2:=m.hv k ab;by_cases hf:nth (nth x.fit i) k=true
   .rw[bX hf] at ht;exact⟨hf,by rw[hv k hk];omega⟩
   .rw[bH hf] at ht;omega
  trivial
 .rcases val i hi with ⟨k,hk,e1,e2⟩|⟨_,e2⟩
  .rcases val j hj with ⟨l,hl,f1,f2⟩|⟨_,f2⟩
   .have e2:nth (ba x) i=(k:Int):=e2;have f2:nth (ba x) j=(l:Int):=f2
    have:k=l:=ab
    subst this;omega
   .have e2:nth (ba x) i=(k:Int):=e2;have f2:nth (ba x) j=-1:=f2;omega
  trivial
 .rw[hv k hk]
  rcases m.how k ab with h|h
  .rw[m.hvz k ab h];rfl
  .obtain⟨i,hi⟩:∃i:Nat,nth (cM x).ow k=(i:Int):=⟨(nth (cM x).ow k).toNat,ab⟩
   have b4:i<x.os.length:=ab
   rcases val i b4 with ⟨l,hl,e1,e2⟩|⟨e1,_⟩
   .have:l=k:=m.fA l k ab ab ab ab;subst this;exact absurd e2 (bb i b4)
   simp_all
theorem zd2(row:List Bool)(w p:List Int)(m0 u:Int)(h0:u<=m0):∀n,(∀k,k<n->nth row k=true->u<=nth w k+nth p k)->u<=mK row w p m0 n
 |0,_=>h0
 |n+1,h=>by
  have ih:=zd2 row w p m0 u h0 n (λk hk=>h k ab);unfold mK
  grind
theorem zev(x:Rd)(ok:ft x)(i:Nat)(hi:i<x.os.length):nth (Bd x) i=nth (cM x).u i:=by
 have b:=zca x ok;unfold Bd;rw[C9 _ _ _ hi]
 have h1:nth (cM x).u i<=kH x i (bK x):=zd2 _ _ _ _ _ (b.pe i hi) _ λk hk hr=>b.wt i k hi (by rw[ok.fr i hi] at hk;exact hk) hr
 have h2:=zd1 (nth x.fit i) (nth x.wt i) (bK x) (dR (prio x i)) (nth x.fit i).length;have h3:mK (nth x.fit i) (nth x.wt i) (bK x) (dR (prio x i)) (nth x.fit i).length=kH x i (bK x):=rfl;rw[h3] at h2;by_cases hn:nth (ba x) i=-1
 .have:=b.no i hi hn;omega
 .obtain⟨k,hk,_,hf,e⟩:=b.at_ i hi hn;have:=h2.2 k (by rw[ok.fr i hi];exact hk) hf;omega
theorem D8(x:Rd):(ba x).length=x.os.length:=C5 _ _ _
theorem zc8(x:Rd)(ok:ft x):PC x (ba x):=by
 have b:=zca x ok;have hl:=D8 x;refine⟨zer x ok,λk hk hn=>?_,λk hk hn j hj e=>?_⟩
 .obtain⟨c,_,e1,e2,_⟩:=b.at_ k ab hn;rw[e1,fH];exact e2
 .have:=b.one k j ab ab hn e.symm;omega
theorem zc9{α:Type}[Inhabited α]{E:Nat->α->Int}:∀{l:List α}{k:Nat},(∀j,j<l.length->E (k+j) (nth l j)=0)->fB E l k=(0,0)
 |[],_,_=>rfl
 |y::r,k,h=>by
  unfold fB;have h0:E k y=0:=h 0 ae;rw[bX h0]
  exact zc9 λj hj=>by
   have:=h (j+1) ak;rw[show k+(j+1)=k+1+j by omega] at this;exact this
theorem zew(x:Rd)(plan:List Int)(h:PC x plan):gv x plan=(0,0):=by
 unfold gv;rw[bH (by have:=h.len;omega)]
 refine zc9 λk hk=>?_
 rw[eo];unfold kZ;by_cases hn:nth plan k=-1
 .rw[bX hn]
 .rw[bH hn];have hr:=(h.at_ k hk).resolve_left hn;have hw:da (nth plan k) 0 ((x.bz.length:Int)-1)=true:=kQ.2 ⟨hr.1,ab⟩;rw[hw,show dt true 6=0 from rfl,bH af,h.fit k hk hn]
  have ha:((plan.take k).any λy=>decide (nth plan k=y))=false:=by
   rw[u6];intro y hy;rw[Dm] at hy;obtain⟨j,hj,e⟩:=hy;have:=h.once k hk hn j ab;simp only[decide_eq_true_eq];intro e2;refine this ?_;rw[e2,<-e];simp[nth,eu,dY (show j<plan.length by omega)]
  rw[ha];rfl
theorem zda(l:List Int)(f:Nat->Int):∀n,(∀k,k<n->nth l k=f k)->mE l n=bw f n:=λn h=>by
 rw[zb9];exact zb8 n h
theorem zgz(x:Rd)(ok:ft x):eF x (ba x)=mE (Bd x) x.os.length-mE (bK x) x.bz.length:=by
 have b:=zca x ok;have r:=zc8 x ok;have hl:=D8 x
 have h1:∀k,k<=x.os.length->cE x (ba x) k=eB x x.os.length-eB x k+mE (Bd x) k-mF (bK x) (ba x) k:=λk=>by
  induction k with
  |zero=>intro _;unfold cE mF;simp
  |succ k ih=>
   intro hk;have ih:=ih ab
   rw[show cE x (ba x) (k+1)=if nth (ba x) k=-1 then cE x (ba x) k else cE x (ba x) k+(CN x k (nth (ba x) k)-dR (prio x k)) from rfl,
    show mF (bK x) (ba x) (k+1)=if nth (ba x) k=-1 then mF (bK x) (ba x) k else mF (bK x) (ba x) k+nth (bK x) (nth (ba x) k).toNat from rfl,
    show eB x (k+1)=eB x k+dR (prio x k) from rfl,show mE (Bd x) (k+1)=mE (Bd x) k+nth (Bd x) k from rfl,zev x ok k ab]
   by_cases hn:nth (ba x) k=-1
   .rw[bX hn,bX hn];have:=b.no k ab hn;omega
   .rw[bH hn,bH hn];obtain⟨c,_,e1,_,e2⟩:=b.at_ k ab hn;unfold CN;rw[e1,fH];omega
 have h2:=zc7 x (bK x) (ba x) r (ba x).length (bV _)
 have h3:bw (λc=>if ((ba x).take (ba x).length).contains (c:Int) then nth (bK x) c else 0) x.bz.length=mE (bK x) x.bz.length:=by
  rw[zb9]
  refine zb8 _ λc hc=>?_
  rw[yn];by_cases hm:(c:Int)∈ba x
  .rw[bX ak]
  .rw[bH (by simpa using hm),b.fr c hc];intro i hi e;refine hm ?_;rw[<-e]
   have ao:i<(ba x).length:=ab
   have:nth (ba x) i=(ba x)[i]:=by simp[nth,eu,ao]
   rw[this];simp
 have h4:=h1 x.os.length (bV _);unfold eF;rw[hl] at h2 h3 ⊢;rw[h4,h2,h3];omega
end Go.Proofs.YthpkmilhiganjaaGreat
namespace Go.Proofs.YthpkmilhiganjaaGreat
open Go Go.Fi
variable[bJ]
def pI(M:List (Int×Int)):List (PV×PV):=M.map λp=>(.int .i64 p.1,.int .i64 p.2)
def mI(M:List (Int×Int)):List AV:=[gK (pI M)]
def dS:List (Int×Int)->Int->Option Int
 |[],_=>none
 |p::r,k=>if k=p.1 then some p.2 else dS r k
def D6:List (Int×Int)->Int->Int->List (Int×Int)
 |[],k,v=>[(k,v)]
 |p::r,k,v=>if k=p.1 then (k,v)::r else p::D6 r k v
theorem zg0:[gK []]=mI []:=rfl
@[simp]theorem zjj(M:List (Int×Int)):(mI M).length=1:=rfl
@[simp]theorem zj5(M:List (Int×Int))(n:Nat):AV.lt.ltL n (mI M)=true:=rfl
@[simp]theorem zjk{D:List Nat}{h:bD}{n n':Nat}(M:List (Int×Int)):iq D h n n' (mI M) (mI M)=True:=eq_true ⟨OQ _ _ _,trivial⟩
theorem zex(M:List (Int×Int)):fM (mI M)=some (pI M):=yT _
theorem zf8(M:List (Int×Int))(k:Int):okM (.int .i64) (.int .i64 k) (pI M)=true:=by
 simp[okM,okK,isLit,pI,gz]
theorem zg1(M:List (Int×Int))(k:Int):lH (pI M) (.int .i64 k)=(dS M k).map (PV.int .i64):=by
 induction M with
 |nil=>rfl
 |cons p r ih=>
  have e:eqK (.int .i64 k) (.int .i64 p.1)=decide (k=p.1):=by simp[eqK]
  show (if eqK (.int .i64 k) (.int .i64 p.1)=true then some (PV.int .i64 p.2) else lH (pI r) (.int .i64 k))=_;rw[e];simp only[dS,decide_eq_true_eq]
  grind
theorem zg2(M:List (Int×Int))(k:Int)(v:Int):jb (pI M) (.int .i64 k) (.int .i64 v)=pI (D6 M k v):=by
 induction M with
 |nil=>rfl
 |cons p r ih=>
  have e:eqK (.int .i64 k) (.int .i64 p.1)=decide (k=p.1):=by simp[eqK]
  show (if eqK (.int .i64 k) (.int .i64 p.1)=true then (PV.int .i64 k,PV.int .i64 v)::pI r else (PV.int .i64 p.1,PV.int .i64 p.2)::jb (pI r) (.int .i64 k) (.int .i64 v))=_;rw[e];simp only[D6,decide_eq_true_eq];split
  .rfl
  .rw[ih];rfl
theorem C4{P:Program}{t:TypeId}(hm:lI P t=some (.int .i64,.int .i64 0))(M:List (Int×Int))(o f:Bool)(k:Int)(c:Bool):lkV P t (some (mI M)) (.w o f (.int .i64 k)) c=some (True,xS c (dS M k),[]):=by
 unfold lkV;simp only[jz,zex,hm,zf8,zg1]
 cases c<;>cases dS M k<;>rfl
@[simp]theorem zjl(h:bD)(id:Nat)(M:List (Int×Int))(z:PV)(o f o' f':Bool)(k:Int)(v:Int):sE h id (some (mI M)) (some (.int .i64,z)) (.w o f (.int .i64 k)) (.w o' f' (.int .i64 v))=some (True,dz h id (mI (D6 M k v))):=by
 unfold sE;simp only[jz,zex,zf8,isLit,and_self,zg2];rfl
theorem ziq:lI Tz.prog 157=some (.int .i64,.int .i64 0):=aj
def cO(ex:List Int)(k:Nat):Bool:=!(ex.any λy=>decide ((k:Int)=y))
def bf(ex:List Int)(n:Nat):List Nat:=(List.range n).filter (cO ex)
def a9(ex:List Int)(k:Nat):Nat:=(bf ex k).length
def dX(ex:List Int)(n:Nat):List (Int×Int):=(bf ex n).map λk:Nat=>((k:Int),(a9 ex k:Int))
theorem mH(ex:List Int)(n:Nat):bf ex (n+1)=if cO ex n then bf ex n++[n] else bf ex n:=by
 unfold bf;rw[uV,List.filter_append]
 cases h:cO ex n<;>simp[h]
theorem rL(ex:List Int)(n k:Nat)(h:k∈bf ex n):k<n:=by
 unfold bf at h;simp_all
theorem sf(ex:List Int)(n:Nat):(bf ex n).length<=n:=by
 unfold bf
 grind
theorem zey:∀(M:List (Int×Int))(k v:Int),(∀p∈M,p.1≠k)->D6 M k v=M++[(k,v)]
 |[],_,_,_=>rfl
 |p::r,k,v,h=>by
  unfold D6;rw[bH (λe=>h p jB e.symm),zey r k v λq hq=>h q (fw _ hq)];rfl
theorem zez(ex:List Int)(n:Nat):D6 (dX ex n) (n:Int) (a9 ex n:Int)=dX ex n++[((n:Int),(a9 ex n:Int))]:=by
 refine zey _ _ _ λp hp=>?_
 obtain⟨k,hk,rfl⟩:=gA.1 hp;have:=rL ex n k hk;omega
theorem zdb(ex:List Int)(n:Nat):dX ex (n+1)=if cO ex n then D6 (dX ex n) (n:Int) (a9 ex n:Int) else dX ex n:=by
 rw[zez];unfold dX;rw[mH]
 cases cO ex n<;>simp
theorem ze0:∀(M N:List (Int×Int))(k:Int),dS (M++N) k=(dS M k).or (dS N k)
 |[],N,k=>by simp[dS]
 |p::r,N,k=>by
  simp only[pQ,dS];split
  .rfl
  .exact ze0 r N k
theorem Bm(ex:List Int)(v:Int):∀n,dS (dX ex n) v=if 0<=v/\v<(n:Int)/\cO ex v.toNat=true then some (a9 ex v.toNat:Int) else none
 |0=>by
  rw[bH ab];rfl
 |n+1=>by
  have ih:=Bm ex v n;rw[zdb]
  cases hk:cO ex n with
  |false=>
   grind
  |true=>
   simp only[cD];rw[zez,ze0,ih];by_cases hn:v=(n:Int)
   .subst hn;rw[bH ab,bX ⟨ab,ab,by rw[fH];exact hk⟩];simp[dS]
   .have e:dS [((n:Int),(a9 ex n:Int))] v=none:=by simp[dS,hn]
    rw[e]
    grind
def bu(x:Rd)(cs:List Int)(k:Nat):List Car:=(bf cs k).map λj=>nth x.bz j
def bo(x:Rd)(os:List Int)(k:Nat):List Ord:=(bf os k).map λj=>nth x.os j
def eM(x:Rd)(cs:List Int)(i k:Nat):List Int:=(bf cs k).map λj=>nth (nth x.wt i) j
def bn(x:Rd)(os cs:List Int)(k:Nat):List (List Int):=(bf os k).map λi=>eM x cs i x.bz.length
def bF(os cs:List Int)(n c:Nat)(p:Par):List Par:=
 match dS (dX os n) p.1,dS (dX cs c) p.2 with
 |some a,some b=>[(a,b)]
 |_,_=>[]
def br(x:Rd)(os cs:List Int)(k:Nat):List Par:=(x.zs.take k).flatMap (bF os cs x.os.length x.bz.length)
def cA(l:List PV):List AV:=l.map (AV.w false false)
@[simp]theorem zdc(l:List PV):(cA l).length=l.length:=by simp[cA]
@[simp]theorem zj6(l:List PV)(n:Nat):AV.lt.ltL n (cA l)=true:=tY n false false l
@[simp]theorem zjm{D:List Nat}{h:bD}{n n':Nat}(l:List PV):iq D h n n' (cA l) (cA l)=True:=eq_true (qu false false _)
@[simp high] theorem zjn(h:bD)(d:Nat)(l:List PV):(cA l).mapM (frz h d)=some l:=xd h d false false l
theorem zdd(a b:List PV):cA (a++b)=cA a++cA b:=by simp[cA]
theorem ze1(l:List Car)(c:Car):cA (dk (l++[c]))=cA (dk l)++[.w false false (.str c.1),.w false false (.int .i64 c.2.1),.w false false (.bool c.2.2)]:=by
 unfold dk;rw[u7,zdd];rfl
theorem ze2(l:List Ord)(c:Ord):cA (dj (l++[c]))=cA (dj l)++[.w false false (.str c.1),.w false false (.int .i64 c.2.1),.w false false (.bool c.2.2.1),.w false false (.int .i64 c.2.2.2)]:=by
 unfold dj;rw[u7,zdd];rfl
theorem zde(l:List Par)(c:Par):cA (dm (l++[c]))=cA (dm l)++[.w false false (.int .i64 c.1),.w false false (.int .i64 c.2)]:=by
 unfold dm;rw[u7,zdd];rfl
theorem zcb(l:List Car):(cA (dk l)).length=l.length*3:=by rw[zdc];simp
theorem zcc(l:List Ord):(cA (dj l)).length=l.length*4:=by rw[zdc];simp
theorem LK(l:List Par):(cA (dm l)).length=l.length*2:=by rw[zdc];simp
theorem ze3:∀l:List Car,ij (dk l)=true
 |[]=>rfl
 |x::r=>by have:=ze3 r;trivial
theorem ze4:∀l:List Ord,ij (dj l)=true
 |[]=>rfl
 |x::r=>by have:=ze4 r;trivial
theorem ze5:∀l:List Par,ij (dm l)=true
 |[]=>rfl
 |x::r=>by have:=ze5 r;trivial
@[simp high] theorem zjo(h:bD)(d:Nat)(l:List Car):(cA (dk l)).all (fF h d)=true:=tW h d false false _ (ze3 l)
@[simp high] theorem zjp(h:bD)(d:Nat)(l:List Ord):(cA (dj l)).all (fF h d)=true:=tW h d false false _ (ze4 l)
@[simp high] theorem zjq(h:bD)(d:Nat)(l:List Par):(cA (dm l)).all (fF h d)=true:=tW h d false false _ (ze5 l)
theorem zdf(l:List (List Int))(r:List Int):cm (l++[r])=cm l++[.w true false (.sl r.length (ints r))]:=by simp[cm]
theorem zdg(l:List (List Int)):n5 l=dQ l:=rfl
def bt(x:Rd)(os cs:List Int):PV:=
 .agg [.sl (bu x cs x.bz.length).length (dk (bu x cs x.bz.length)),.sl (bo x os x.os.length).length (dj (bo x os x.os.length)),
  .sl (bn x os cs x.os.length).length (dQ (bn x os cs x.os.length)),.sl (br x os cs x.zs.length).length (dm (br x os cs x.zs.length))]
theorem zg3(x:Rd)(ok:ft x)(os cs:List Int)(ho:os.length<100000)(hc:cs.length<100000):bT Tz.prog 87 [x.pv,.sl os.length (ints os),.sl cs.length (ints cs)] (bt x os cs) true:=by
 have kc:∀k:Nat,bT Tz.prog 123 [.sl cs.length (ints cs),.int .i64 k] (.bool (!(cO cs k))) true:=λk=>by
  have:=oZ cs hc k;unfold cO;rw[Bool.not_not];exact this
 have ko:∀k:Nat,bT Tz.prog 123 [.sl os.length (ints os),.int .i64 k] (.bool (!(cO os k))) true:=λk=>by
  have:=oZ os ho k;unfold cO;rw[Bool.not_not];exact this
 have lc:=ok.lc;have lo:=ok.lo;have lw:=ok.lw;have lz:=ok.lz;have wr:=ok.wr
 have ic:∀k,a9 cs k=(bu x cs k).length:=λk=>by simp[bu,a9]
 have io:∀k,a9 os k=(bo x os k).length:=λk=>by simp[bo,a9]
 have sC:∀k,bu x cs (k+1)=if cO cs k then bu x cs k++[nth x.bz k] else bu x cs k:=λk=>by
  unfold bu;rw[mH];cases cO cs k<;>simp
 have sO:∀k,bo x os (k+1)=if cO os k then bo x os k++[nth x.os k] else bo x os k:=λk=>by
  unfold bo;rw[mH];cases cO os k<;>simp
 have sR:∀i k,eM x cs i (k+1)=if cO cs k then eM x cs i k++[nth (nth x.wt i) k] else eM x cs i k:=λi k=>by
  unfold eM;rw[mH];cases cO cs k<;>simp
 have sW:∀k,bn x os cs (k+1)=if cO os k then bn x os cs k++[eM x cs k x.bz.length] else bn x os cs k:=λk=>by
  unfold bn;rw[mH];cases cO os k<;>simp
 have sZ:∀k,k<x.zs.length->br x os cs (k+1)=br x os cs k++bF os cs x.os.length x.bz.length (nth x.zs k):=λk hk=>by
  unfold br;rw[ym hk,u7]
  have:x.zs[k]=nth x.zs k:=by simp[nth,eu,hk]
  rw[this];simp
 have lwL:∀k,(bn x os cs k).length=(bo x os k).length:=λk=>by simp[bn,bo]
 have lkc:∀k,k<x.bz.length->dS (dX cs x.bz.length) k=if cO cs k then some (a9 cs k:Int) else none:=λk hk=>by
  rw[Bm];rw[fH];simp_all
 have mC:=zdb cs;have mO:=zdb os;have z1:dX cs 0=[]:=rfl;have z2:dX os 0=[]:=rfl;have z3:bu x cs 0=[]:=rfl;have z4:bo x os 0=[]:=rfl;have z5:bn x os cs 0=[]:=rfl;have z6:br x os cs 0=[]:=rfl
 have z7:∀i,eM x cs i 0=[]:=λi=>rfl
 have bC:∀k,(bu x cs k).length<=k:=λk=>by rw[<-ic];exact sf cs k
 have bO:∀k,(bo x os k).length<=k:=λk=>by rw[<-io];exact sf os k
 have bR:∀i k,(eM x cs i k).length<=k:=λi k=>by simp[eM];exact sf cs k
 have bZ:∀k,(br x os cs k).length<=k:=λk=>by
  unfold br
  have key:∀l:List Par,(l.flatMap (bF os cs x.os.length x.bz.length)).length<=l.length:=λl=>by
   induction l with
   |nil=>simp
   |cons p l ih=>
    rw[jq,nK,gw]
    have:(bF os cs x.os.length x.bz.length p).length<=1:=by
     unfold bF;split<;>simp
    omega
  exact dK (key _) ar
 have eP:∀p,bF os cs x.os.length x.bz.length p=match dS (dX os x.os.length) p.1,dS (dX cs x.bz.length) p.2 with
  |some a,some b=>[(a,b)]
  |_,_=>[]:=λ_=>rfl
 unfold bt;rw[<-zdg];generalize bu x cs=LC at *;generalize bo x os=LO at *;generalize eM x cs=LR at *;generalize bn x os cs=LW at *;generalize br x os cs=LZ at *;generalize bF os cs x.os.length x.bz.length=LP at *;generalize dX cs=MC at *;generalize dX os=MO at *;generalize a9 cs=IC at *;generalize a9 os=IO at *;have q1:=keep (And.intro kc (And.intro ic (And.intro sC (And.intro mC bC))));have q2:=keep (And.intro ko (And.intro io (And.intro sO (And.intro mO bO))));have q3:=keep (And.intro sR (And.intro sW (And.intro bR (And.intro lkc (And.intro wr (And.intro lw lwL))))));have q4:=keep (And.intro sZ (And.intro eP bZ));have q5:=keep (And.intro lc (And.intro lo lz));have k1:=keep z1;have k2:=keep z2;have k3:=keep z3;have k4:=keep z4;have k5:=keep z5;have k6:=keep z6;have k7:=keep z7;clear kc ic sC mC ko io sO mO sR sW lkc wr lw lwL sZ eP lc lo lz z1 z2 z3 z4 z5 z6 z7 ok bC bO bR bZ;unfold Rd.pv;have mt:=ziq;refine rcK Tz.func87 ?_;simp only[Tryz.results87,Tryz.ntmps87]
 repeat' first|(with_reducible first|apply bG|apply bE|intro _)|simp[*,zg0,mt]
 have e0:cA (dk [])=[]:=rfl;refine fI 5 (λ(k:Nat)=>k<=x.bz.length) [0,1,2,6,7,8,9,31,32] (λ(k:Nat)=>[(33,.w false false (.int .i64 k))]) [0,2] (λ(k:Nat)=>[(3,mI (MC k)),(4,cA (dk (LC k))),(1,[.msl 4 ((LC k).length*3) 3 0 (LC k).length,.w true true (.sl 0 []),.w true true (.sl 0 []),.w true true (.sl 0 [])])]) (λ(k:Nat)=>x.bz.length-k) (λ(_u:Unit)=>True) [0,1,6,7,8,9] (λ(_u:Unit)=>[]) [0,2] (λ(_u:Unit)=>[(3,mI (MC x.bz.length)),(4,cA (dk (LC x.bz.length))),(1,[.msl 4 ((LC x.bz.length).length*3) 3 0 (LC x.bz.length).length,.w true true (.sl 0 []),.w true true (.sl 0 []),.w true true (.sl 0 [])])]) (0) (cG _) (de [] ae (by simp[show MC 0=[] from k1,show LC 0=[] from k3,e0])) (λk hk=>?_) (λ_u hf=>?_)
 .clear e0;by_cases h5:k<x.bz.length
  .obtain⟨kc,ic,sC,mC,bC⟩:=q1;have h8:x.bz.length<=8:=q5.1;have c:=kc k;have e1:=ic k;have e2:=sC k;have e3:=mC k;have b:=bC k;have h':inI .i64 ((k:Int)+1):=cu ab ab
   have hz:k+1<=x.bz.length:=ab
   have ag:(LC k).length+1<=1000000000:=ab
   have h9:=zcb (LC k);clear kc ic sC mC bC q2 q3 q4 q5 k1 k2 k3 k4 k5 k6 k7 h8
   cases hf:cO cs k with
   |true=>
    rw[hf] at c e2 e3;simp only[gG,cD] at c e2 e3;rw[e1] at e3;have e4:=ze1 (LC k) (nth x.bz k);rw[<-e2] at e4
    have e5:(LC (k+1)).length=(LC k).length+1:=by rw[e2];simp
    clear e1 e2 hf
    repeat' first|(with_reducible first|apply bG|apply cj|apply bS|apply bE|apply bP|refine And.intro ?_ ?_|intro _)|simp[*,h5,h',C4 mt,mt,Tw.eX,h9]|(refine bN (c) ?_ ?_;· simp[*];done)
    all_goals first
     |omega
     |assumption
     |(refine dJ _ _ _ _ _ (k+1) _ ?_ ab ?_;(· exact hz);(refine de [] ?_ ?_<;>first|trivial|(simp[*,e3,e4,e5,ga];done)))
   |false=>
    rw[hf] at c e2 e3;simp only[iw,dC,cP] at c e2 e3;clear e1 hf
    repeat' first|(with_reducible first|apply bG|apply cj|apply bS|apply bE|apply bP|refine And.intro ?_ ?_|intro _)|simp[*,h5,h',C4 mt,mt,Tw.eX,h9]|(refine bN (c) ?_ ?_;· simp[*];done)
    all_goals first
     |omega
     |assumption
     |(refine dJ _ _ _ _ _ (k+1) _ ?_ ab ?_;(· exact hz);(refine de [] ?_ ?_<;>first|trivial|(simp[*,e3,e2];done)))
  .have hh:k=x.bz.length:=ab
   subst hh;clear q1 q2 q3 q4 q5 k1 k2 k3 k4 k5 k6 k7
   repeat' first|(with_reducible first|apply bG|apply cK|apply bE|apply bP|intro _)|simp[*,h5]
   all_goals first
    |omega
    |(refine dp () ?_ ?_;(· trivial);(refine cg ?_ ?_<;>first|trivial|(simp[*];done)))
 .clear e0 k1 k3 q1
  repeat' first|(with_reducible first|apply bG|apply bE|intro _)|simp[*,mt]
  have e0:cA (dj [])=[]:=rfl;have e00:cm []=[]:=rfl;refine fI 7 (λ(k:Nat)=>k<=x.os.length) [0,1,6,7,8,9,58,59] (λ(k:Nat)=>[(60,.w false false (.int .i64 k))]) [0,3,4] (λ(k:Nat)=>[(2,mI (MO k)),(5,cA (dj (LO k))),(6,cm (LW k)),(1,[.msl 4 ((LC x.bz.length).length*3) 3 0 (LC x.bz.length).length,.msl 5 ((LO k).length*4) 4 0 (LO k).length,.msl 6 (LW k).length 1 0 (LW k).length,.w true true (.sl 0 [])])]) (λ(k:Nat)=>x.os.length-k) (λ(_u:Unit)=>True) [0,6,7,8,9] (λ(_u:Unit)=>[]) [0,3,4] (λ(_u:Unit)=>[(2,mI (MO x.os.length)),(5,cA (dj (LO x.os.length))),(6,cm (LW x.os.length)),(1,[.msl 4 ((LC x.bz.length).length*3) 3 0 (LC x.bz.length).length,.msl 5 ((LO x.os.length).length*4) 4 0 (LO x.os.length).length,.msl 6 (LW x.os.length).length 1 0 (LW x.os.length).length,.w true true (.sl 0 [])])]) (0) (cG _) (de [] ae (by simp[show MO 0=[] from k2,show LO 0=[] from k4,show LW 0=[] from k5,e0,e00])) (λk hk=>?_) (λ_u hf=>?_)
  .clear e0 e00;by_cases h5:k<x.os.length
   .obtain⟨kc,ic,sC,mC,bC⟩:=q2;obtain⟨sR,sW,bR,lkc,wr,lw,lwL⟩:=q3;have h8:x.os.length<=8:=q5.2.1;have b8:x.bz.length<=8:=q5.1;have c:=kc k;have e1:=ic k;have e2:=sC k;have e3:=mC k;have b:=bC k;have w2:=sW k;have h':inI .i64 ((k:Int)+1):=cu ab ab
    have hz:k+1<=x.os.length:=ab
    have ag:(LO k).length+1<=1000000000:=ab
    have hl9w:(LW k).length+1<=1000000000:=by rw[lwL];exact ag
    have h9:=zcc (LO k)
    have ax:k<x.wt.length:=ab
    have hx:=wr k h5
    cases hf:cO os k with
    |true=>
     rw[hf] at c e2 e3 w2;simp only[gG,cD] at c e2 e3 w2;rw[e1] at e3;have e4:=ze2 (LO k) (nth x.os k);rw[<-e2] at e4
     have e5:(LO (k+1)).length=(LO k).length+1:=by rw[e2];simp
     have e6:=zdf (LW k) (LR k x.bz.length);rw[<-w2] at e6
     have e7:(LW (k+1)).length=(LW k).length+1:=by rw[w2];simp
     have q6:=keep (And.intro sR (And.intro bR (And.intro lkc hx)));have z7:LR k 0=[]:=k7 k;clear e1 e2 w2 hf kc ic sC mC bC sR sW bR lkc wr lw lwL hx q4 q5 k2 k4 k5 k6 k7 h8
     repeat' first|(with_reducible first|apply bG|apply cj|apply bS|apply bE|apply bP|refine And.intro ?_ ?_|intro _)|simp[*,h5,h',C4 mt,mt,Tw.dW,h9,ax]|(refine bN (c) ?_ ?_;· simp[*];done)
     all_goals try first|omega|assumption
     have e00:iA []=[]:=rfl;refine fI 10 (λ(j:Nat)=>j<=x.bz.length) [0,1,6,7,8,9,58,59,60,86,87] (λ(j:Nat)=>[(14,.msl 9 (LR k j).length 1 0 (LR k j).length),(88,.w false false (.int .i64 j))]) [0,1,2,3,4,5,6] (λ(j:Nat)=>[(9,iA (LR k j))]) (λ(j:Nat)=>x.bz.length-j) (λ(_u:Unit)=>True) [0,1,6,7,8,9,58,59,60] (λ(_u:Unit)=>[(14,.msl 9 (LR k x.bz.length).length 1 0 (LR k x.bz.length).length)]) [0,1,2,3,4,5,6] (λ(_u:Unit)=>[(9,iA (LR k x.bz.length))]) (0) (cG _) (de [] (by simp[z7,e00]) (by simp[z7,e00])) (λj hk=>?_) (λ_u hf=>?_)
     .clear z7 e00 e3 e4 e5 e6 e7 c;obtain⟨sR,bR,lkc,hx⟩:=q6;by_cases a6:j<x.bz.length
      .have aa:j<(nth x.wt k).length:=ab
       have s1:=sR k j;have b1:=bR k j;have l1:=lkc j a6;have aq:inI .i64 ((j:Int)+1):=cu ab ab
       have b6:j+1<=x.bz.length:=ab
       have bi:(LR k j).length+1<=1000000000:=ab
       clear sR bR lkc hx h9 ag hl9w
       cases hg:cO cs j with
       |true=>
        rw[hg] at s1 l1;simp only[cD] at s1 l1
        have s2:iA (LR k (j+1))=iA (LR k j)++[.w false false (.int .i64 (nth (nth x.wt k) j))]:=by rw[s1,<-HR];rfl
        have s3:(LR k (j+1)).length=(LR k j).length+1:=by rw[s1];simp
        clear s1 hg
        repeat' first|(with_reducible first|apply bG|apply cj|apply bS|apply bE|apply bP|intro _)|simp[*,a6,aq,C4 mt,mt,ax,aa,l1]
        all_goals first
         |omega
         |assumption
         |(refine dJ _ _ _ _ _ (j+1) _ ?_ ab ?_;(· exact b6);(refine de [] ?_ ?_<;>first|trivial|(simp[*,s2,s3];done)))
       |false=>
        rw[hg] at s1 l1;simp only[dC,cP] at s1 l1;clear hg
        repeat' first|(with_reducible first|apply bG|apply cj|apply bS|apply bE|apply bP|intro _)|simp[*,a6,aq,C4 mt,mt,ax,aa,l1]
        all_goals first
         |omega
         |assumption
         |(refine dJ _ _ _ _ _ (j+1) _ ?_ ab ?_;(· exact b6);(refine de [] ?_ ?_<;>first|trivial|(simp[*,s1];done)))
      .have hh:j=x.bz.length:=ab
       subst hh
       have aa:¬x.bz.length<(nth x.wt k).length:=ab
       clear sR bR lkc hx
       repeat' first|(with_reducible first|apply bG|apply cK|apply bE|apply bP|intro _)|simp[*,a6,aa]
       all_goals first
        |omega
        |(refine dp () ?_ ?_;(· trivial);(refine de [] ?_ ?_<;>first|trivial|(simp[*];done)))
     .clear z7 e00 q6 c
      repeat' first|(with_reducible first|apply bE|intro _)|simp[*,h',mt]
      all_goals first
       |omega
       |assumption
       |(refine dJ _ _ _ _ _ (k+1) _ ?_ ab ?_;(· exact hz);(refine de [9] ?_ ?_<;>first|trivial|(simp[*,e3,e4,e5,e6,e7,ga];done)))
    |false=>
     rw[hf] at c e2 e3 w2;simp only[iw,dC,cP] at c e2 e3 w2;clear e1 hf kc ic sC mC bC sR sW bR lkc wr lw lwL hx q4 q5 k2 k4 k5 k6 k7 h8 b8
     repeat' first|(with_reducible first|apply bG|apply cj|apply bS|apply cK|apply bE|apply bP|refine And.intro ?_ ?_|intro _)|simp[*,h5,h',C4 mt,mt,Tw.dW,h9]|(refine bN (c) ?_ ?_;· simp[*];done)
     all_goals first
      |omega
      |assumption
      |(refine dJ _ _ _ _ _ (k+1) _ ?_ ab ?_;(· exact hz);(refine de [] ?_ ?_<;>first|trivial|(simp[*,e3,e2,w2];done)))
   .have hh:k=x.os.length:=ab
    subst hh;clear q2 q3 q4 q5 k2 k4 k5 k6 k7
    repeat' first|(with_reducible first|apply bG|apply cK|apply bE|apply bP|intro _)|simp[*,h5]
    all_goals first
     |omega
     |(refine dp () ?_ ?_;(· trivial);(refine cg ?_ ?_<;>first|trivial|(simp[*];done)))
  .clear e0 e00 q2 q3 k2 k4 k5 k7
   repeat' first|(with_reducible first|apply bG|apply bE|intro _)|simp[*,mt]
   have e0:cA (dm [])=[]:=rfl;refine fI 8 (λ(k:Nat)=>k<=x.zs.length) [6,7,8,9,116,117] (λ(k:Nat)=>[(118,.w false false (.int .i64 k))]) [0,2,3,4,5,6] (λ(k:Nat)=>[(7,cA (dm (LZ k))),(1,[.msl 4 ((LC x.bz.length).length*3) 3 0 (LC x.bz.length).length,.msl 5 ((LO x.os.length).length*4) 4 0 (LO x.os.length).length,.msl 6 (LW x.os.length).length 1 0 (LW x.os.length).length,.msl 7 ((LZ k).length*2) 2 0 (LZ k).length])]) (λ(k:Nat)=>x.zs.length-k) (λ(_u:Unit)=>True) [6,7] (λ(_u:Unit)=>[]) [0,4,5,6] (λ(_u:Unit)=>[(7,cA (dm (LZ x.zs.length))),(1,[.msl 4 ((LC x.bz.length).length*3) 3 0 (LC x.bz.length).length,.msl 5 ((LO x.os.length).length*4) 4 0 (LO x.os.length).length,.msl 6 (LW x.os.length).length 1 0 (LW x.os.length).length,.msl 7 ((LZ x.zs.length).length*2) 2 0 (LZ x.zs.length).length])]) (0) (cG _) (de [] ae aX) (λk hk=>?_) (λ_u hf=>?_)
   .clear e0 k6;by_cases h5:k<x.zs.length
    .obtain⟨sZ,eP,bZ⟩:=q4;have b7:x.zs.length<=64:=q5.2.2;have s1:=sZ k h5;rw[eP] at s1;have b:=bZ k;have h':inI .i64 ((k:Int)+1):=cu ab ab
     have hz:k+1<=x.zs.length:=ab
     have ag:(LZ k).length+1<=1000000000:=ab
     have h9:=LK (LZ k);clear sZ eP bZ b7 q5
     cases ha:dS (MO x.os.length) (nth x.zs k).1 with
     |none=>
      rw[ha] at s1;simp only[pR] at s1
      cases hb:dS (MC x.bz.length) (nth x.zs k).2 with
      |none=>
       repeat' first|(with_reducible first|apply bG|apply cj|apply bS|apply bE|apply bP|refine And.intro ?_ ?_|intro _)|simp[*,h5,h',C4 mt,mt,ha,hb,h9,Tw.dP]
       all_goals first
        |omega
        |assumption
        |(refine dJ _ _ _ _ _ (k+1) _ ?_ ab ?_;(· exact hz);(refine de [] ?_ ?_<;>first|trivial|(simp[*,s1];done)))
      |some b'=>
       repeat' first|(with_reducible first|apply bG|apply cj|apply bS|apply bE|apply bP|refine And.intro ?_ ?_|intro _)|simp[*,h5,h',C4 mt,mt,ha,hb,h9,Tw.dP]
       all_goals first
        |omega
        |assumption
        |(refine dJ _ _ _ _ _ (k+1) _ ?_ ab ?_;(· exact hz);(refine de [] ?_ ?_<;>first|trivial|(simp[*,s1];done)))
     |some a'=>
      rw[ha] at s1
      cases hb:dS (MC x.bz.length) (nth x.zs k).2 with
      |none=>
       rw[hb] at s1;simp only[pR] at s1
       repeat' first|(with_reducible first|apply bG|apply cj|apply bS|apply bE|apply bP|refine And.intro ?_ ?_|intro _)|simp[*,h5,h',C4 mt,mt,ha,hb,h9,Tw.dP]
       all_goals first
        |omega
        |assumption
        |(refine dJ _ _ _ _ _ (k+1) _ ?_ ab ?_;(· exact hz);(refine de [] ?_ ?_<;>first|trivial|(simp[*,s1];done)))
      |some b'=>
       rw[hb] at s1;simp only[] at s1;have s2:=zde (LZ k) (a',b');rw[<-s1] at s2
       have s3:(LZ (k+1)).length=(LZ k).length+1:=by rw[s1];simp
       clear s1
       repeat' first|(with_reducible first|apply bG|apply cj|apply bS|apply bE|apply bP|refine And.intro ?_ ?_|intro _)|simp[*,h5,h',C4 mt,mt,ha,hb,h9,Tw.dP]
       all_goals first
        |omega
        |assumption
        |(refine dJ _ _ _ _ _ (k+1) _ ?_ ab ?_;(· exact hz);(refine de [] ?_ ?_<;>first|trivial|(simp[*,s2,s3,ga];done)))
    .have hh:k=x.zs.length:=ab
     subst hh;clear q4 q5
     repeat' first|(with_reducible first|apply bG|apply cK|apply bE|apply bP|intro _)|simp[*,h5]
     all_goals first
      |omega
      |(refine dp () ?_ ?_;(· trivial);(refine cg ?_ ?_<;>first|trivial|simp))
   .clear e0 k6 q4 q5;have h1:=zcb (LC x.bz.length);have h2:=zcc (LO x.os.length);have h3:=LK (LZ x.zs.length)
    repeat' first|(with_reducible first|apply bG|apply bU|apply bE|intro _)|simp[*,h1,h2,h3]
end Go.Proofs.YthpkmilhiganjaaGreat
namespace Go.Proofs.YthpkmilhiganjaaGreat
open Go Go.Fi
noncomputable instance zj9:bJ:=LD
theorem tE{α:Type}[Inhabited α]{l:List α}{k:Nat}(h:k<l.length):nth l k∈l:=by
 have:nth l k=l[k]:=by simp[nth,eu,h]
 rw[this];simp
noncomputable def bM(r:Tw.RND)(h:ceR r=0)(os cs:List Int):Tw.RND where
 bz:=bu (bQ r) cs (bQ r).bz.length
 os:=bo (bQ r) os (bQ r).os.length
 wt:=bn (bQ r) os cs (bQ r).os.length
 zs:=br (bQ r) os cs (bQ r).zs.length
 eU:=by
  have ok:=C7 r h;have f:=r.eU
  have bC:(bu (bQ r) cs (bQ r).bz.length).length<=(bQ r).bz.length:=by simpa[bu] using sf cs (bQ r).bz.length
  have bO:(bo (bQ r) os (bQ r).os.length).length<=(bQ r).os.length:=by simpa[bo] using sf os (bQ r).os.length
  have bW:(bn (bQ r) os cs (bQ r).os.length).length<=(bQ r).os.length:=by simpa[bn] using sf os (bQ r).os.length
  have bZ:(br (bQ r) os cs (bQ r).zs.length).length<=(bQ r).zs.length:=by
   unfold br
   have key:∀l:List Par,(l.flatMap (bF os cs (bQ r).os.length (bQ r).bz.length)).length<=l.length:=λl=>by
    induction l with
    |nil=>simp
    |cons p l ih=>
     rw[jq,nK,gw]
     have:(bF os cs (bQ r).os.length (bQ r).bz.length p).length<=1:=by
      unfold bF;split<;>simp
     omega
   simp_all
  have lc:=ok.lc;have lo:=ok.lo;have lz:=ok.lz;refine⟨λc hc=>?_,λo ho=>?_,λw hw=>?_,ab,ab,ab,ab⟩
  .obtain⟨k,hk,rfl⟩:=gA.1 hc;exact f.1 _ (tE (rL _ _ _ hk))
  .obtain⟨k,hk,rfl⟩:=gA.1 ho;exact f.2.1 _ (tE (rL _ _ _ hk))
  .obtain⟨k,hk,rfl⟩:=gA.1 hw
   have:(eM (bQ r) cs k (bQ r).bz.length).length<=(bQ r).bz.length:=by simpa[eM] using sf cs (bQ r).bz.length
   omega
theorem ze6(r:Tw.RND)(h:ceR r=0)(os cs:List Int):Tw.dB (bM r h os cs)=bt (bQ r) os cs:=rfl
def PO:PV:=.agg [.sl 0 [],.sl 0 [],.sl 0 [],.sl 0 []]
noncomputable instance zka:bJ:=LD
structure Rt(bz:List Car)(os:List Ord)(wt:List (List Int))(zs:List Par):Prop where
 lc:bz.length<=8
 lo:os.length<=8
 lw:wt.length=os.length
 lz:zs.length<=64
 cn:∀c∈bz,gr c.1=true/\da c.2.1 1 8=true
 cd:bz.Pairwise λa b=>decide (a.1=b.1)=false
 on:∀o∈os,gr o.1=true/\da o.2.1 1 8=true/\da o.2.2.2 0 6=true
 od:os.Pairwise λa b=>decide (a.1=b.1)=false
 wr:∀w∈wt,w.length=bz.length/\∀v∈w,da v 0 100000=true
 zr:∀p∈zs,da p.1 0 ((os.length:Int)-1)=true/\da p.2 0 ((bz.length:Int)-1)=true
 zd:zs.Pairwise λa b=>(decide (b.1=a.1)&&decide (b.2=a.2))=false
theorem D9{α:Type}[Inhabited α](l:List α)(k:Nat)(h:k<l.length):nth l k=l[k]:=by
 simp[nth,eu,h]
theorem ze7{α:Type}[Inhabited α](R:α->α->Bool)(l:List α):(∀k,k<l.length->((l.take k).any λy=>R y (nth l k))=false)↔l.Pairwise λa b=>R a b=false:=by
 rw[sQ];constructor
 .intro h i j hi hj aq;have:=u6.1 (h j hj) l[i] (by rw[Dm];exact⟨i,ab,rfl⟩);rw[D9 l j hj] at this;simp_all
 .intro h k hk;rw[u6];intro y hy;rw[Dm] at hy;obtain⟨j,hj,rfl⟩:=hy;rw[D9 l k hk,h j k ab hk ab];decide
theorem ze8{α:Type}[Inhabited α]{nm:α->ByteArray}{mr:α->Int}{l:List α}:∀{r:List α}{k:Nat},(∀j,j<r.length->iP nm mr l (k+j) (nth r j)=0)->gi nm mr l r k=(0,0)
 |[],_,_=>rfl
 |y::r,k,h=>by
  unfold gi;have h0:iP nm mr l k y=0:=h 0 ae;rw[bX h0]
  exact ze8 λj hj=>by
   have:=h (j+1) ak;rw[show k+(j+1)=k+1+j by omega] at this;exact this
theorem zdh{α:Type}[Inhabited α]{p:α->Prop}{l:List α}:(∀k,k<l.length->p (nth l k))↔∀y∈l,p y:=by
 constructor
 .intro h y hy;obtain⟨k,hk,e⟩:=I7.1 hy;have:=h k hk
  rwa [D9 l k hk,e] at this
 .intro h k hk;exact h _ (tE hk)
theorem D3{b:Bool}{e:Int}(he:e≠0):dt b e=0↔b=true:=⟨qc he,λh=>by rw[h];rfl⟩
theorem zdi{a b c:Int}:fg [a,b,c]=0↔a=0/\b=0/\c=0:=by
 constructor
 .intro h;obtain⟨h1,h⟩:=fh h;obtain⟨h2,h⟩:=fh h;exact⟨h1,h2,(fh h).1⟩
 .rintro⟨rfl,rfl,rfl⟩;rfl
theorem ze9{a b:Int}:fg [a,b]=0↔a=0/\b=0:=by
 constructor
 .intro h;obtain⟨h1,h⟩:=fh h;exact⟨h1,(fh h).1⟩
 .rintro⟨rfl,rfl⟩;rfl
theorem zfa{α:Type}[Inhabited α](nm:α->ByteArray)(mr:α->Int)(l:List α):(iu nm mr l).2=0↔(∀y∈l,gr (nm y)=true/\mr y=0)/\l.Pairwise λa b=>decide (nm a=nm b)=false:=by
 rw[<-ze7 (λa b=>decide (nm a=nm b)) l,<-zdh]
 have key:(iu nm mr l).2=0↔∀j,j<l.length->iP nm mr l j (nth l j)=0:=by
  constructor
  .intro h j hj;have:=zch h j hj
   rwa [eo] at this
  .intro h;show (gi nm mr l l 0).2=0;rw[ze8 λj hj=>by rw[eo];exact h j hj]
 rw[key];constructor
 .intro h;refine⟨λk hk=>?_,λk hk=>?_⟩
  .have:=zdi.1 (h k hk);exact⟨(D3 af).1 this.1,this.2.2⟩
  .have:=zdi.1 (h k hk);exact not_true ((D3 af).1 this.2.1)
 .rintro⟨h1,h2⟩ k hk
  refine zdi.2 ⟨?_,?_,(h1 k hk).2⟩
  .rw[(h1 k hk).1];rfl
  .rw[h2 k hk];rfl
theorem zfb{α:Type}[Inhabited α](E:Nat->α->Int)(l:List α):(fB E l 0).2=0↔∀j,j<l.length->E j (nth l j)=0:=by
 constructor
 .intro h j hj;have:=P2 h j hj
  rwa [eo] at this
 .intro h;rw[zc9 λj hj=>by rw[eo];exact h j hj]
theorem zg4(bz:List Car)(os:List Ord)(wt:List (List Int))(zs:List Par):(iR bz os wt zs).2=0↔Rt bz os wt zs:=by
 have hc:=zfa Prod.fst gu bz;have ho:=zfa Prod.fst fU os;have hw:=zfb (λ_=>hY bz.length) wt;have hz:=zfb (kY os.length bz.length zs) zs
 have mc:∀c:Car,gu c=0↔da c.2.1 1 8=true:=λc=>D3 af
 have mo:∀o:Ord,fU o=0↔da o.2.1 1 8=true/\da o.2.2.2 0 6=true:=λo=>by
  unfold fU;rw[D3 af,eT]
 have mw:∀w:List Int,hY bz.length w=0↔w.length=bz.length/\∀v∈w,da v 0 100000=true:=λw=>by
  unfold hY;rw[ze9,D3 af,D3 af,Dj,u6,decide_eq_true_eq]
  grind
 have mz:∀(k:Nat)(p:Par),kY os.length bz.length zs k p=0↔(da p.1 0 ((os.length:Int)-1)=true/\da p.2 0 ((bz.length:Int)-1)=true)/\((zs.take k).any λy=>decide (p.1=y.1)&&decide (p.2=y.2))=false:=λk p=>by
  unfold kY;rw[ze9,D3 af,D3 af,eT,Dj]
 have tz:(∀j,j<zs.length->kY os.length bz.length zs j (nth zs j)=0)↔(∀p∈zs,da p.1 0 ((os.length:Int)-1)=true/\da p.2 0 ((bz.length:Int)-1)=true)/\zs.Pairwise λa b=>(decide (b.1=a.1)&&decide (b.2=a.2))=false:=by
  rw[<-ze7 (λa b:Par=>decide (b.1=a.1)&&decide (b.2=a.2)) zs,<-zdh]
  grind
 have tw:(∀j,j<wt.length->hY bz.length (nth wt j)=0)↔∀w∈wt,w.length=bz.length/\∀v∈w,da v 0 100000=true:=by
  rw[zdh (p:=λw=>hY bz.length w=0)];simp_all
 rw[tw] at hw;rw[tz] at hz;constructor
 .intro h;unfold iR at h;split at h
  .simp at h
  rename_i g1;split at h
  .trivial
  rename_i g2;split at h
  .simp at h
  rename_i g3;split at h
  .trivial
  rename_i g4;split at h
  .simp at h
  rename_i g5;have a5:=Bu h
  have bc:(fB (λ_=>hY bz.length) wt 0).2=0:=by
   unfold gO at h
   grind
  rw[a5] at h;unfold iQ at h;split at h
  .simp at h
  rename_i g6;have a1:=hc.1 (pT.1 g2);have a2:=ho.1 (pT.1 g4);have a3:=hw.1 bc;have a4:=hz.1 h;exact⟨ab,ab,ab,ab,λc hc=>⟨(a1.1 c hc).1,(mc c).1 (a1.1 c hc).2⟩,a1.2,λo ho=>⟨(a2.1 o ho).1,(mo o).1 (a2.1 o ho).2⟩,a2.2,a3,a4.1,a4.2⟩
 .intro h;unfold iR
  rw[bH (by have:=h.lc;omega),bH (by rw[pT];exact hc.2 ⟨λc hc=>⟨(h.cn c hc).1,(mc c).2 (h.cn c hc).2⟩,h.cd⟩),bH (by have:=h.lo;omega),
   bH (by rw[pT];exact ho.2 ⟨λo ho=>⟨(h.on o ho).1,(mo o).2 (h.on o ho).2⟩,h.od⟩),bH (by have:=h.lw;omega)]
  unfold gO;rw[bH (by rw[pT];exact hw.2 h.wr)];unfold iQ;rw[bH (by have:=h.lz;omega)];exact hz.2 ⟨h.zr,h.zd⟩
theorem zdj(r:Tw.RND):ceR r=0↔Rt r.bz r.os r.wt r.zs:=zg4 _ _ _ _
theorem zfc{α:Type}[Inhabited α](l:List α)(ex:List Int):((bf ex l.length).map (nth l)).Sublist l:=by
 have h:((List.range l.length).map (nth l))=l:=by
  refine Jg ae λi h1 h2=>?_
  simp[D9 l i h2]
 have h2:(bf ex l.length).Sublist (List.range l.length):=List.filter_sublist;have:=h2.map (nth l)
 rwa [h] at this
theorem m6{ex:List Int}{a:Nat}(ha:cO ex a=true):∀{b:Nat},a<b->a9 ex a<a9 ex b
 |b+1,h=>by
  have e:a9 ex (b+1)=if cO ex b then a9 ex b+1 else a9 ex b:=by
   unfold a9;rw[mH];split<;>simp
  rw[e];by_cases hb:a=b
  .simp_all
  .have:=m6 ha (b:=b) ab
   split<;>omega
theorem EO{ex:List Int}{a b:Nat}(ha:cO ex a=true)(hb:cO ex b=true)(h:a9 ex a=a9 ex b):a=b:=by
 rcases Jb a b with h1|h1|h1
 .have:=m6 ha h1;omega
 .exact h1
 .have:=m6 hb h1;omega
theorem zck{os cs:List Int}{n c:Nat}{p q:Par}(h:q∈bF os cs n c p):∃a b:Nat,p=((a:Int),(b:Int))/\a<n/\b<c/\cO os a=true/\cO cs b=true/\q=((a9 os a:Int),(a9 cs b:Int)):=by
 unfold bF at h;rw[Bm,Bm] at h
 grind
theorem zdk{os cs:List Int}{n c:Nat}{a b:Nat}(ha:a<n)(hb:b<c)(h1:cO os a=true)(h2:cO cs b=true):bF os cs n c ((a:Int),(b:Int))=[((a9 os a:Int),(a9 cs b:Int))]:=by
 unfold bF;rw[Bm,Bm];simp_all
theorem zdl{x:Rd}(h:Rt x.bz x.os x.wt x.zs)(os cs:List Int):Rt (bu x cs x.bz.length) (bo x os x.os.length) (bn x os cs x.os.length) (br x os cs x.zs.length):=by
 have sc:(bu x cs x.bz.length).Sublist x.bz:=zfc x.bz cs;have so:(bo x os x.os.length).Sublist x.os:=zfc x.os os
 have e1:(bu x cs x.bz.length).length=a9 cs x.bz.length:=by simp[bu,a9]
 have e2:(bo x os x.os.length).length=a9 os x.os.length:=by simp[bo,a9]
 have ez:br x os cs x.zs.length=x.zs.flatMap (bF os cs x.os.length x.bz.length):=by unfold br;rw[yn]
 refine⟨dK sc.length_le h.lc,dK so.length_le h.lo,by simp[bn,bo],?_,λc hc=>h.cn c (sc.subset hc),h.cd.sublist sc,λo ho=>h.on o (so.subset ho),h.od.sublist so,λw hw=>?_,λp hp=>?_,?_⟩
 .rw[ez]
  have key:∀l:List Par,(l.flatMap (bF os cs x.os.length x.bz.length)).length<=l.length:=λl=>by
   induction l with
   |nil=>simp
   |cons p l ih=>
    rw[jq,nK,gw]
    have:(bF os cs x.os.length x.bz.length p).length<=1:=by
     unfold bF;split<;>simp
    omega
  exact dK (key _) h.lz
 .unfold bn at hw;obtain⟨i,hi,rfl⟩:=gA.1 hw
  have ao:i<x.wt.length:=by have:=rL _ _ _ hi;rw[h.lw];exact this
  obtain⟨r1,r2⟩:=h.wr (nth x.wt i) (tE ao);refine⟨by simp[eM,bu],λv hv=>?_⟩;unfold eM at hv;obtain⟨k,hk,rfl⟩:=gA.1 hv;exact r2 _ (tE (by rw[r1];exact rL _ _ _ hk))
 .rw[ez] at hp;obtain⟨q,_,hp⟩:=uZ.1 hp;obtain⟨a,b,_,ha,hb,ka,kb,rfl⟩:=zck hp;have h1:=m6 ka ha;have h2:=m6 kb hb;rw[e1,e2];exact⟨kQ.2 ⟨ae,ab⟩,kQ.2 ⟨ae,ab⟩⟩
 .rw[ez,List.pairwise_flatMap];refine⟨λp _=>?_,h.zd.imp λ{p q} ay y hy z hz=>?_⟩
  .unfold bF;split<;>simp
  .obtain⟨a,b,rfl,_,_,ka,kb,rfl⟩:=zck hy;obtain⟨a',b',rfl,_,_,bd,bg,rfl⟩:=zck hz;rw[Bool.and_eq_false_iff] at ay ⊢;simp only[decide_eq_false_iff_not] at ay ⊢
   rcases ay with h1|h1
   .left;intro e;exact h1 (by have:=EO (ex:=os) bd ka ab;omega)
   .right;intro e;exact h1 (by have:=EO (ex:=cs) bg kb ab;omega)
end Go.Proofs.YthpkmilhiganjaaGreat
