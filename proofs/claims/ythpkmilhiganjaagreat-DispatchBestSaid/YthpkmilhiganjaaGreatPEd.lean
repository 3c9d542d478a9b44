/- Lemmas. -/
import Derived.Test.YthpkmilhiganjaaGreatPEc
import Derived.Test.YthpkmilhiganjaaGreatPEa
import Derived.Test.YthpkmilhiganjaaGreatPLf
import Derived.Test.YthpkmilhiganjaaGreatPDb
import Derived.Test.YthpkmilhiganjaaGreatPDa
set_option linter.all false
set_option maxHeartbeats 32000000
set_option maxRecDepth 100000
namespace Go.Proofs.YthpkmilhiganjaaGreat
open Go Go.Fi
theorem zds(tk:List Int)(n:Nat):∀c,(∀k,k<c->nth tk k<(n:Int))->(∀j k,j<c->k<c->0<=nth tk j->nth tk j=nth tk k->j=k)->∀i,i<n->(∃k,k<c/\nth tk k=(i:Int)/\nth (kQ tk n c) i=(k:Int))\/((∀k,k<c->nth tk k≠(i:Int))/\nth (kQ tk n c) i=-1)
 |0,_,_,i,hi=>.inr ⟨λk hk=>absurd hk (by omega),C1 _ _ _ hi⟩
 |c+1,h1,h2,i,hi=>by
  have ih:=zds tk n c (λk hk=>h1 k (by omega)) (λj k hj hk=>h2 j k (by omega) (by omega)) i hi;have hc:=h1 c (by omega);unfold kQ;by_cases h0:0<=nth tk c
  .rw[aB h0,ku _ _ _ _ (by rw[z7];omega)];by_cases e:(nth tk c).toNat=i
   .rw[aB e];exact .inl ⟨c,by omega,by omega,rfl⟩
   .rw[ar e]
    rcases ih with ⟨k,hk,e1,e2⟩|⟨e1,e2⟩
    .exact .inl ⟨k,by omega,e1,e2⟩
    .refine .inr ⟨λk hk=>?_,e2⟩;by_cases a5:k=c
     .subst a5;omega
     .exact e1 k (by omega)
  .rw[ar h0]
   rcases ih with ⟨k,hk,e1,e2⟩|⟨e1,e2⟩
   .exact .inl ⟨k,by omega,e1,e2⟩
   .refine .inr ⟨λk hk=>?_,e2⟩;by_cases a5:k=c
    .subst a5;omega
    .exact e1 k (by omega)
structure zgk(x:Rd)(u v:List Int):Prop where
 u0:∀i,i<x.os.length->0<=nth u i/\nth u i<=1000000000000
 v0:∀k,k<x.ab.length->0<=nth v k/\nth v k<=1000000000000
 pe:∀i,i<x.os.length->nth u i<=bw (prio x i)
 wt:∀i k,i<x.os.length->k<x.ab.length->nth (nth x.fit i) k=true->nth u i<=nth (nth x.wt i) k+nth v k
 no:∀i,i<x.os.length->nth (bl x) i=-1->nth u i=bw (prio x i)
 at_:∀i,i<x.os.length->nth (bl x) i≠-1->∃k,k<x.ab.length/\nth (bl x) i=(k:Int)/\nth (nth x.fit i) k=true/\nth u i=nth (nth x.wt i) k+nth v k
 one:∀i j,i<x.os.length->j<x.os.length->nth (bl x) i≠-1->nth (bl x) i=nth (bl x) j->i=j
 fr:∀k,k<x.ab.length->(∀i,i<x.os.length->nth (bl x) i≠(k:Int))->nth v k=0
theorem C4(x:Rd)(ok:b9 x):zgk x (fh x).u (bO x):=by
 have m:=LP x ok;have hp:=EX x ok
 have hv:∀k,k<x.ab.length->nth (bO x) k=-(nth (fh x).v k):=λk hk=>by unfold bO;rw[C3 _ _ _ hk]
 have val:=zds (fh x).ow x.os.length x.ab.length (λk hk=>by rcases m.how k (by omega) with h|h<;>omega) (λj k hj hk=>m.dL j k (by omega) (by omega))
 have ag:=λl hl=>m.ub hp (l:=l) hl
 have tC:∀i k,i<x.os.length->k<x.ab.length->C9 x i k=if nth (nth x.fit i) k=true then nth (nth x.wt i) k else 1000000000000000:=λi k hi hk=>by
  rw[EO x i k hi (by omega)];unfold tw;by_cases hf:nth (nth x.fit i) k=true
  .rw[aB ⟨hk,hf⟩,aB hf]
  .rw[ar (λh=>hf h.2),ar (by omega),ar hf]
 have tP:∀i,i<x.os.length->C9 x i (x.ab.length+i)=bw (prio x i):=λi hi=>by
  rw[EO x i _ hi (by omega)];unfold tw;rw[ar (by omega),aB rfl]
 refine⟨λi hi=>⟨m.hu i hi,ag i hi⟩,λk hk=>zdm x ok k hk,λi hi=>?_,λi k hi hk hf=>?_,λi hi hn=>?_,λi hi hn=>?_,λi j hi hj hn e=>?_,λk hk ao=>?_⟩
 .have h1:=m.hf i (x.ab.length+i) hi (by omega);rw[tP i hi,m.hvp i hi] at h1;omega
 .have h1:=m.hf i k hi (by omega);rw[tC i k hi hk,aB hf] at h1;rw[hv k hk];omega
 .rcases val i hi with ⟨k,hk,_,e2⟩|⟨e1,_⟩
  .have:nth (bl x) i=(k:Int):=e2;omega
  .obtain⟨j,hj,ej⟩:=m.D6 i hi
   have aj:¬j<x.ab.length:=λh=>e1 j h ej
   have hq:=(m.own hp (aE _) hj (by omega)).resolve_left aj;have ht:=m.ht j hj (by omega);rw[ej] at hq ht;rw[bT] at hq ht;rw[hq,tP i hi,m.hvp i hi] at ht;omega
 .rcases val i hi with ⟨k,hk,e1,e2⟩|⟨_,e2⟩
  .refine⟨k,hk,e2,?_⟩;have ht:=m.ht k (by omega) (by omega);rw[e1,bT,tC i k hi hk] at ht;have h1:=ag i hi;have h2:=m.hv k (by omega);by_cases hf:nth (nth x.fit i) k=true
   .rw[aB hf] at ht;exact⟨hf,by rw[hv k hk];omega⟩
   .rw[ar hf] at ht;omega
  .exact absurd e2 hn
 .rcases val i hi with ⟨k,hk,e1,e2⟩|⟨_,e2⟩
  .rcases val j hj with ⟨l,hl,f1,f2⟩|⟨_,f2⟩
   .have e2:nth (bl x) i=(k:Int):=e2;have f2:nth (bl x) j=(l:Int):=f2
    have:k=l:=by omega
    subst this;omega
   .have e2:nth (bl x) i=(k:Int):=e2;have f2:nth (bl x) j=-1:=f2;omega
  .exact absurd e2 hn
 .rw[hv k hk]
  rcases m.how k (by omega) with h|h
  .rw[m.hvz k (by omega) h];rfl
  .obtain⟨i,hi⟩:∃i:Nat,nth (fh x).ow k=(i:Int):=⟨(nth (fh x).ow k).toNat,by omega⟩
   have aa:i<x.os.length:=by omega
   rcases val i aa with ⟨l,hl,e1,e2⟩|⟨e1,_⟩
   .have:l=k:=m.dL l k (by omega) (by omega) (by omega) (by omega);subst this;exact absurd e2 (ao i aa)
   .exact absurd hi (e1 k hk)
theorem zen(row:List Bool)(w p:List Int)(m0 u:Int)(h0:u<=m0):∀n,(∀k,k<n->nth row k=true->u<=nth w k+nth p k)->u<=mK row w p m0 n
 |0,_=>h0
 |n+1,h=>by
  have ih:=zen row w p m0 u h0 n (λk hk=>h k (by omega));unfold mK;by_cases hr:nth row n=true
  .have:=h n (by omega) hr;rw[aB hr]
   split<;>omega
  .rw[ar hr];exact ih
theorem LW(x:Rd)(ok:b9 x)(i:Nat)(hi:i<x.os.length):nth (cq x) i=nth (fh x).u i:=by
 have b:=C4 x ok;unfold cq;rw[C3 _ _ _ hi]
 have h1:nth (fh x).u i<=ft x i (bO x):=zen _ _ _ _ _ (b.pe i hi) _ λk hk hr=>b.wt i k hi (by rw[ok.fr i hi] at hk;exact hk) hr
 have h2:=zc3 (nth x.fit i) (nth x.wt i) (bO x) (bw (prio x i)) (nth x.fit i).length;have h3:mK (nth x.fit i) (nth x.wt i) (bO x) (bw (prio x i)) (nth x.fit i).length=ft x i (bO x):=rfl;rw[h3] at h2;by_cases hn:nth (bl x) i=-1
 .have:=b.no i hi hn;omega
 .obtain⟨k,hk,_,hf,e⟩:=b.at_ i hi hn;have:=h2.2 k (by rw[ok.fr i hi];exact hk) hf;omega
theorem E1(x:Rd):(bl x).length=x.os.length:=z7 _ _ _
theorem D5(x:Rd)(ok:b9 x):Bm x (bl x):=by
 have b:=C4 x ok;have hl:=E1 x;refine⟨zdo x ok,λk hk hn=>?_,λk hk hn j hj e=>?_⟩
 .obtain⟨c,_,e1,e2,_⟩:=b.at_ k (by omega) hn;rw[e1,bT];exact e2
 .have:=b.one k j (by omega) (by omega) hn e.symm;omega
theorem zdt{α:Type}[Inhabited α]{E:Nat->α->Int}:∀{l:List α}{k:Nat},(∀j,j<l.length->E (k+j) (nth l j)=0)->dk E l k=(0,0)
 |[],_,_=>rfl
 |y::r,k,h=>by
  unfold dk;have h0:E k y=0:=h 0 (by simp);rw[aB h0]
  exact zdt λj hj=>by
   have:=h (j+1) (by simpa using hj);rw[show k+(j+1)=k+1+j by omega] at this;exact this
theorem zdu(x:Rd)(plan:List Int)(h:Bm x plan):dh x plan=(0,0):=by
 unfold dh;rw[ar (by have:=h.len;omega)]
 refine zdt λk hk=>?_
 rw[cY];unfold ji;by_cases hn:nth plan k=-1
 .rw[aB hn]
 .rw[ar hn];have hr:=(h.at_ k hk).resolve_left hn;have hw:aU (nth plan k) 0 ((x.ab.length:Int)-1)=true:=mO.2 ⟨hr.1,by omega⟩;rw[hw,show ba true 6=0 from rfl,ar (by decide),h.fit k hk hn]
  have ha:((plan.take k).any λy=>decide (nth plan k=y))=false:=by
   rw[mY];intro y hy;rw[yk] at hy;obtain⟨j,hj,e⟩:=hy;have:=h.once k hk hn j (by omega);simp only[decide_eq_true_eq];intro e2;refine this ?_;rw[e2,<-e];simp[nth,bS,da (show j<plan.length by omega)]
  rw[ha];rfl
theorem zdv(x:Rd)(ok:b9 x):kx x (bl x)=bW (cq x) x.os.length-bW (bO x) x.ab.length:=by
 have b:=C4 x ok;have r:=D5 x ok;have hl:=E1 x
 have h1:∀k,k<=x.os.length->eB x (bl x) k=ic x x.os.length-ic x k+bW (cq x) k-mH (bO x) (bl x) k:=λk=>by
  induction k with
  |zero=>intro _;unfold eB mH;simp
  |succ k ih=>
   intro hk;have ih:=ih (by omega)
   rw[show eB x (bl x) (k+1)=if nth (bl x) k=-1 then eB x (bl x) k else eB x (bl x) k+(sZ x k (nth (bl x) k)-bw (prio x k)) from rfl,
    show mH (bO x) (bl x) (k+1)=if nth (bl x) k=-1 then mH (bO x) (bl x) k else mH (bO x) (bl x) k+nth (bO x) (nth (bl x) k).toNat from rfl,
    show ic x (k+1)=ic x k+bw (prio x k) from rfl,show bW (cq x) (k+1)=bW (cq x) k+nth (cq x) k from rfl,LW x ok k (by omega)]
   by_cases hn:nth (bl x) k=-1
   .rw[aB hn,aB hn];have:=b.no k (by omega) hn;omega
   .rw[ar hn,ar hn];obtain⟨c,_,e1,_,e2⟩:=b.at_ k (by omega) hn;unfold sZ;rw[e1,bT];omega
 have h2:=zcn x (bO x) (bl x) r (bl x).length (aE _)
 have h3:mC (λc=>if ((bl x).take (bl x).length).contains (c:Int) then nth (bO x) c else 0) x.ab.length=bW (bO x) x.ab.length:=by
  rw[zcm]
  refine zcl _ λc hc=>?_
  rw[uW];by_cases hm:(c:Int)∈bl x
  .rw[aB (by simpa using hm)]
  .rw[ar (by simpa using hm),b.fr c hc];intro i hi e;refine hm ?_;rw[<-e]
   have a':i<(bl x).length:=by omega
   have:nth (bl x) i=(bl x)[i]:=by simp[nth,bS,a']
   rw[this];exact Dh a'
 have h4:=h1 x.os.length (aE _);unfold kx;rw[hl] at h2 h3 ⊢;rw[h4,h2,h3];omega
theorem Ak(x:Rd):(cq x).length=x.os.length:=by simp[cq]
theorem C5(x:Rd):(bO x).length=x.ab.length:=by simp[bO]
theorem zdw{x:Rd}{pc:List Int}:∀{l:List Int}{k:Nat},(∀j,j<l.length->nth l j<=ft x (k+j) pc)->Bd x pc l k=false
 |[],_,_=>rfl
 |n::r,k,h=>by
  unfold Bd;rw[Bool.or_eq_false_iff];refine⟨decide_eq_false ?_,zdw λj hj=>?_⟩
  .have:=h 0 (by simp);have e:nth (n::r) 0=n:=rfl;rw[e] at this;simpa using this
  .have:=h (j+1) (by simpa using hj);rw[show k+(j+1)=k+1+j by omega] at this;exact this
theorem LZ{p:Int->Bool}{l:List Int}(h:∀j,j<l.length->p (nth l j)=false):l.any p=false:=by
 rw[mY];intro y hy;obtain⟨j,hj,e⟩:=yb.1 hy;have:=h j hj
 have e2:nth l j=y:=by rw[<-e];simp[nth,bS,hj]
 rw[e2] at this;simp[this]
theorem zco(x:Rd)(ok:b9 x):C8 x (cq x) (bO x)=(kx x (bl x),0):=by
 have b:=C4 x ok;unfold C8
 rw[ar (by
    rw[LZ λj hj=>by
     have hh:j<x.os.length:=by rw[<-Ak x];exact hj
     rw[LW x ok j hh];have:=b.u0 j hh;simp only[sW,ym]
     exact mO.2 (by omega)]
    decide),
  ar (by
   rw[LZ λj hj=>by
    have hh:j<x.ab.length:=by rw[<-C5 x];exact hj
    have:=b.v0 j hh;simp only[n5,ym]
    exact mO.2 (by omega)]
   decide),
  ar (by
   rw[zdw λj hj=>by
    have hh:j<x.os.length:=by rw[<-Ak x];exact hj
    rw[cY];unfold cq;rw[C3 _ _ _ hh]
    exact mZ _]
   decide),Ak,C5,zdv x ok]
theorem zff(x:Rd)(ok:b9 x)(plan:List Int)(h:(dh x plan).2=0):kx x (bl x)<=kx x plan:=by
 have:=zfe x ok (cq x) (bO x) plan h (Ak x) (C5 x) (by rw[zco x ok])
 rwa [zco x ok] at this
end Go.Proofs.YthpkmilhiganjaaGreat
namespace Go.Proofs.YthpkmilhiganjaaGreat
open Go Go.Fi
variable[av]
def pI(M:List (Int×Int)):List (PV×PV):=M.map λp=>(.int .i64 p.1,.int .i64 p.2)
def mI(M:List (Int×Int)):List AV:=[fR (pI M)]
@[simp]theorem zg5(M:List (Int×Int)):(mI M).length=1:=rfl
@[simp]theorem zhi(M:List (Int×Int))(n:Nat):AV.lt.ltL n (mI M)=true:=rfl
theorem zdx(l:List (List Int))(r:List Int):dS (l++[r])=dS l++[.w true false (.sl r.length (ints r))]:=by simp[dS]
end Go.Proofs.YthpkmilhiganjaaGreat
namespace Go.Proofs.YthpkmilhiganjaaGreat
open Go Go.Fi
noncomputable instance zhl:av:=LD
noncomputable instance zhn:av:=LD
structure Rt(ab:List Car)(os:List Ord)(wt:List (List Int))(zs:List Par):Prop where
 lc:ab.length<=8
 lo:os.length<=8
 lw:wt.length=os.length
 lz:zs.length<=64
 cn:∀c∈ab,fF c.1=true/\aU c.2.1 1 8=true
 cd:ab.Pairwise λa b=>decide (a.1=b.1)=false
 on:∀o∈os,fF o.1=true/\aU o.2.1 1 8=true/\aU o.2.2.2 0 6=true
 od:os.Pairwise λa b=>decide (a.1=b.1)=false
 wr:∀w∈wt,w.length=ab.length/\∀v∈w,aU v 0 100000=true
 zr:∀p∈zs,aU p.1 0 ((os.length:Int)-1)=true/\aU p.2 0 ((ab.length:Int)-1)=true
 zd:zs.Pairwise λa b=>(decide (b.1=a.1)&&decide (b.2=a.2))=false
end Go.Proofs.YthpkmilhiganjaaGreat
namespace Go.Proofs.YthpkmilhiganjaaGreat
open Go Go.Fi
variable[av]
theorem zdy(s:ByteArray)(hs:s.size<1000000):aC Tz.prog 134 [.str s] (.bool (fF s)) true:=by
 refine rcK Tz.func134 ?_;simp only[Tryz.results134,Tryz.ntmps134]
 repeat' first|(with_reducible first|apply ai|apply au|apply az|apply af|apply al|refine wS ?_ ?_|refine fz ?_ ?_|intro _)|(simp[*])
 .exact Oj (by omega)
 rotate_left
 .rename_i h0;exact GD (by have:=of_decide_eq_true h0;omega)
 rename_i hA hB
 have a6:s.size≠0:=by have:=of_decide_eq_false hA;omega
 refine wV (λk:Nat=>k<=s.size/\lI s k=true) [0] (λk=>[(3,.w false false (.int .i64 k))]) (λ_=>[]) (λk=>s.size-k)
  (λ_:Unit=>lI s s.size=true) [0] (λ_=>[]) (λ_=>[]) 0 ⟨aK _,rfl⟩ (by simp) (by simp) (λk hk=>?_) (λ_ hf=>?_)
 .obtain⟨hk,hf⟩:=hk
  repeat' first|(with_reducible first|apply ai|apply aF|apply au|apply az|apply aL|apply af|apply al|refine And.intro ?_ ?_|refine wS ?_ ?_|refine wR ?_ ?_|refine fz ?_ ?_|intro _)|(simp[*])
  all_goals first
   |exact aG (by omega) (by omega)
   |omega
   |(refine nx (k+1) ?_ ?_;(· refine⟨by omega,?_⟩;unfold lI;rw[hf];clear hf;simp[okB,uH] at *;omega);(refine aD ?_ ?_<;>first|trivial|(simp[*];done)))
   |(refine aZ () ?_ ?_;(· rw[show s.size=k by omega];exact hf);(refine aD ?_ ?_<;>first|trivial|(simp[*];done)))
   |(unfold fF;rw[Bn s k (by clear hf;simp[okB,uH] at *;omega) s.size (by omega)];rfl)
 .repeat' first|(with_reducible first|apply ai|apply az|apply af|intro _)|(simp[*])
  all_goals (rw[GF hf a6];simp;omega)
theorem zfg(ab:List Car)(os:List Ord)(wt:List (List Int))(zs:List Par)(i:Nat)(hi:i<ab.length)(hl:ab.length<=1000)(hs:∀x∈ab,x.1.size<1000000):aC Tz.prog 108 [.agg [.sl ab.length (aS ab),.sl os.length (aR os),.sl wt.length (a8 wt),.sl zs.length (aT zs)],.int .i64 i] (.int .i64 (g7 Prod.fst fG ab i (nth ab i))) true:=by
 have c1:=zdy (nth ab i).1 (hs _ (eJ hi));have c2:=ma (nth ab i).2.1 1 8;generalize hR:g7 Prod.fst fG ab i (nth ab i)=R;unfold g7 fG at hR;clear hs
 cases hb:fF (nth ab i).1 with
 |false=>
  rw[hb] at c1 hR;have hR:(4:Int)=R:=hR;subst hR;clear hb c2;refine rcK Tz.func108 ?_;simp only[Tryz.results108,Tryz.ntmps108]
  repeat' first|(with_reducible first|apply ai|apply az|apply af|apply al|refine And.intro ?_ ?_|refine cw (c1) ?_|intro _)|(simp[*,hi])|(refine ae (c1) ?_ ?_;(· (simp[*];done)))
  all_goals first|omega
 |true=>
  rw[hb] at c1 hR;clear hb;have hR:cX [ba (!((ab.take i).any λy=>decide (y.1=(nth ab i).1))) 5,ba (aU (nth ab i).2.1 1 8) 2]=R:=hR;generalize hA:((ab.take i).any λy=>decide (y.1=(nth ab i).1))=A at hR;have kA:aN (((ab.take i).drop 0).any (λy=>decide (y.1=(nth ab i).1))=A):=hA;have kR:=keep hR;clear hA hR;refine rcK Tz.func108 ?_;simp only[Tryz.results108,Tryz.ntmps108]
  repeat' first|(with_reducible first|apply ai|apply au|apply af|apply al|refine And.intro ?_ ?_|refine cw (c1) ?_|intro _)|(simp[*,hi])|(refine ae (c1) ?_ ?_;(· (simp[*];done)))
  all_goals try first|omega|assumption
  refine bQ (λ(k:Nat)=>k<=i/\((ab.take i).drop k).any (λy=>decide (y.1=(nth ab i).1))=A) [1,2] (λ(k:Nat)=>[(5,.w false false (.int .i64 k))]) [0] (λ(k:Nat)=>[]) (λ(k:Nat)=>i-k) (λ(_u:Unit)=>A=false) [1,2] (λ(_u:Unit)=>[]) [0] (λ(_u:Unit)=>[]) (0) ⟨aK _,kA⟩ (by simp) (by simp) (λk hk=>?_) (λ_u hf=>?_)
  .obtain⟨hk,hj⟩:=hk;clear c1;by_cases h5:k<i
   .have hg:k<ab.length:=by omega
    have h':k<(ab.take i).length:=by rw[ia];omega
    rw[dg _ k h',mX] at hj
    have e:nth (ab.take i) k=nth ab k:=by
     simp[nth,bS,jk,h5]
    rw[e] at hj;have kj:=keep hj;clear hj e h';by_cases hn:(nth ab k).1=(nth ab i).1
    .have hA:A=true:=by have h:=kj;unfold aN at h;rw[<-h];simp[hn]
     subst hA;have hR:(5:Int)=R:=kR;subst hR;clear kj kR kA
     repeat' first|(with_reducible first|apply ai|apply aF|apply au|apply az|apply af|refine aQ (id:=6) 13 mixed (by decide +kernel) ?_|apply al|intro _)|(simp[*,h5,hg,hi,hn])
     all_goals first|omega|exact aG (by omega) (by omega)
    .have kj2:aN (((ab.take i).drop (k+1)).any (λy=>decide (y.1=(nth ab i).1))=A):=by have h:=kj;unfold aN at h ⊢;rw[<-h];simp[hn]
     clear kj kA
     repeat' first|(with_reducible first|apply ai|apply aF|apply au|apply af|refine aQ (id:=6) 13 mixed (by decide +kernel) ?_|apply al|refine And.intro ?_ ?_|intro _)|(simp[*,h5,hg,hi,hn])
     all_goals first
      |omega
      |exact aG (by omega) (by omega)
      |(refine nx (k+1) ?_ ?_;(· exact⟨by omega,kj2⟩);(refine aD ?_ ?_<;>first|trivial|(simp[*];done)))
   .have h8:k=i:=by omega
    subst h8;have h9:aN (A=false):=keep (by rw[<-hj];simp);clear hj kA
    repeat' first|(with_reducible first|apply ai|apply aL|apply af|apply al|intro _)|(simp[*])
    all_goals first
     |omega
     |(refine aZ () ?_ ?_;(· exact h9);(refine aD ?_ ?_<;>first|trivial|(simp[*];done)))
  .subst hf;clear kA c1
   cases hw:aU (nth ab i).2.1 1 8 with
   |true=>
    rw[hw] at c2 kR;have hR:(0:Int)=R:=kR;subst hR;clear kR hw
    repeat' first|(with_reducible first|apply ai|apply au|apply az|apply af|apply al|refine And.intro ?_ ?_|refine cw (c2) ?_|intro _)|(simp[*,hi])|(refine ae (c2) ?_ ?_;(· (simp[*];done)))
    all_goals first|omega
   |false=>
    rw[hw] at c2 kR;have hR:(2:Int)=R:=kR;subst hR;clear kR hw
    repeat' first|(with_reducible first|apply ai|apply az|apply af|apply al|refine And.intro ?_ ?_|refine cw (c2) ?_|intro _)|(simp[*,hi])|(refine ae (c2) ?_ ?_;(· (simp[*];done)))
    all_goals first|omega
theorem zfh(ab:List Car)(os:List Ord)(wt:List (List Int))(zs:List Par)(i:Nat)(hi:i<os.length)(hl:os.length<=1000)(hs:∀x∈os,x.1.size<1000000):aC Tz.prog 109 [.agg [.sl ab.length (aS ab),.sl os.length (aR os),.sl wt.length (a8 wt),.sl zs.length (aT zs)],.int .i64 i] (.int .i64 (g7 Prod.fst eH os i (nth os i))) true:=by
 have c1:=zdy (nth os i).1 (hs _ (eJ hi));have c2:=ma (nth os i).2.1 1 8;have c3:=ma (nth os i).2.2.2 0 6;generalize hR:g7 Prod.fst eH os i (nth os i)=R;unfold g7 eH at hR;clear hs
 cases hb:fF (nth os i).1 with
 |false=>
  rw[hb] at c1 hR;have hR:(4:Int)=R:=hR;subst hR;clear hb c2 c3;refine rcK Tz.func109 ?_;simp only[Tryz.results109,Tryz.ntmps109]
  repeat' first|(with_reducible first|apply ai|apply az|apply af|apply al|refine And.intro ?_ ?_|refine cw (c1) ?_|intro _)|(simp[*,hi])|(refine ae (c1) ?_ ?_;(· (simp[*];done)))
  all_goals first|omega
 |true=>
  rw[hb] at c1 hR;clear hb;have hR:cX [ba (!((os.take i).any λy=>decide (y.1=(nth os i).1))) 5,ba (aU (nth os i).2.1 1 8&&aU (nth os i).2.2.2 0 6) 2]=R:=hR;generalize hA:((os.take i).any λy=>decide (y.1=(nth os i).1))=A at hR;have kA:aN (((os.take i).drop 0).any (λy=>decide (y.1=(nth os i).1))=A):=hA;have kR:=keep hR;clear hA hR;refine rcK Tz.func109 ?_;simp only[Tryz.results109,Tryz.ntmps109]
  repeat' first|(with_reducible first|apply ai|apply au|apply af|apply al|refine And.intro ?_ ?_|refine cw (c1) ?_|intro _)|(simp[*,hi])|(refine ae (c1) ?_ ?_;(· (simp[*];done)))
  all_goals try first|omega|assumption
  refine bQ (λ(k:Nat)=>k<=i/\((os.take i).drop k).any (λy=>decide (y.1=(nth os i).1))=A) [1,2] (λ(k:Nat)=>[(5,.w false false (.int .i64 k))]) [0] (λ(k:Nat)=>[]) (λ(k:Nat)=>i-k) (λ(_u:Unit)=>A=false) [1,2] (λ(_u:Unit)=>[]) [0] (λ(_u:Unit)=>[]) (0) ⟨aK _,kA⟩ (by simp) (by simp) (λk hk=>?_) (λ_u hf=>?_)
  .obtain⟨hk,hj⟩:=hk;clear c1;by_cases h5:k<i
   .have hg:k<os.length:=by omega
    have h':k<(os.take i).length:=by rw[ia];omega
    rw[dg _ k h',mX] at hj
    have e:nth (os.take i) k=nth os k:=by
     simp[nth,bS,jk,h5]
    rw[e] at hj;have kj:=keep hj;clear hj e h';by_cases hn:(nth os k).1=(nth os i).1
    .have hA:A=true:=by have h:=kj;unfold aN at h;rw[<-h];simp[hn]
     subst hA;have hR:(5:Int)=R:=kR;subst hR;clear kj kR kA
     repeat' first|(with_reducible first|apply ai|apply aF|apply au|apply az|apply af|refine aQ (id:=6) 13 mixed (by decide +kernel) ?_|apply al|intro _)|(simp[*,h5,hg,hi,hn])
     all_goals first|omega|exact aG (by omega) (by omega)
    .have kj2:aN (((os.take i).drop (k+1)).any (λy=>decide (y.1=(nth os i).1))=A):=by have h:=kj;unfold aN at h ⊢;rw[<-h];simp[hn]
     clear kj kA
     repeat' first|(with_reducible first|apply ai|apply aF|apply au|apply af|refine aQ (id:=6) 13 mixed (by decide +kernel) ?_|apply al|refine And.intro ?_ ?_|intro _)|(simp[*,h5,hg,hi,hn])
     all_goals first
      |omega
      |exact aG (by omega) (by omega)
      |(refine nx (k+1) ?_ ?_;(· exact⟨by omega,kj2⟩);(refine aD ?_ ?_<;>first|trivial|(simp[*];done)))
   .have h8:k=i:=by omega
    subst h8;have h9:aN (A=false):=keep (by rw[<-hj];simp);clear hj kA
    repeat' first|(with_reducible first|apply ai|apply aL|apply af|apply al|intro _)|(simp[*])
    all_goals first
     |omega
     |(refine aZ () ?_ ?_;(· exact h9);(refine aD ?_ ?_<;>first|trivial|(simp[*];done)))
  .subst hf;clear kA c1
   cases hw:aU (nth os i).2.1 1 8 with
   |true=>
    cases hv:aU (nth os i).2.2.2 0 6 with
    |true=>
     rw[hw,hv] at kR;rw[hw] at c2;rw[hv] at c3;have hR:(0:Int)=R:=kR;subst hR;clear kR hw hv
     repeat' first|(with_reducible first|apply ai|apply au|apply az|apply af|apply al|refine And.intro ?_ ?_|refine cw (c2) ?_|refine cw (c3) ?_|intro _)|(simp[*,hi])|(refine ae (c2) ?_ ?_;(· (simp[*];done)))|(refine ae (c3) ?_ ?_;(· (simp[*];done)))
     all_goals first|omega
    |false=>
     rw[hw,hv] at kR;rw[hw] at c2;rw[hv] at c3;have hR:(2:Int)=R:=kR;subst hR;clear kR hw hv
     repeat' first|(with_reducible first|apply ai|apply az|apply af|apply al|refine And.intro ?_ ?_|refine cw (c2) ?_|refine cw (c3) ?_|intro _)|(simp[*,hi])|(refine ae (c2) ?_ ?_;(· (simp[*];done)))|(refine ae (c3) ?_ ?_;(· (simp[*];done)))
     all_goals first|omega
   |false=>
    rw[hw] at c2 kR;have hR:(2:Int)=R:=kR;subst hR;clear kR hw c3
    repeat' first|(with_reducible first|apply ai|apply az|apply af|apply al|refine And.intro ?_ ?_|refine cw (c2) ?_|intro _)|(simp[*,hi])|(refine ae (c2) ?_ ?_;(· (simp[*];done)))
    all_goals first|omega
def hasB(l:List Par)(v:Par):Bool:=l.any λy=>decide (v.1=y.1)&&decide (v.2=y.2)
theorem zdz(l:List Par)(hl:l.length<100000)(v:Par):aC Tz.prog 110 [.sl l.length (aT l),.agg (Tw.cu v)] (.bool (hasB l v)) true:=by
 unfold hasB;generalize hR:(l.any λy=>decide (v.1=y.1)&&decide (v.2=y.2))=R;have kR:aN ((l.drop 0).any (λy=>decide (v.1=y.1)&&decide (v.2=y.2))=R):=keep hR;clear hR;obtain⟨v1,v2⟩:=v;simp only[Tw.cu];refine rcK Tz.func110 ?_;simp only[Tryz.results110,Tryz.ntmps110]
 repeat' first|(with_reducible first|apply ai|apply af|intro _)|(simp[*])
 refine bQ (λ(k:Nat)=>k<=l.length/\(l.drop k).any (λy=>decide (v1=y.1)&&decide (v2=y.2))=R) [0,3] (λ(k:Nat)=>[(5,.w false false (.int .i64 k))]) [0] (λ(k:Nat)=>[]) (λ(k:Nat)=>l.length-k) (λ(_u:Unit)=>R=false) [] (λ(_u:Unit)=>[]) [0] (λ(_u:Unit)=>[]) (0) ⟨aK _,kR⟩ (by simp) (by simp) (λk hk=>?_) (λ_u hf=>?_)
 .obtain⟨hk,hj⟩:=hk;by_cases h5:k<l.length
  .rw[dg l k h5,mX] at hj;by_cases h1:(nth l k).1=v1
   .by_cases h2:(nth l k).2=v2
    .have hR:R=true:=by rw[<-hj];simp[h1,h2]
     subst hR;clear hj kR
     repeat' first|(with_reducible first|apply ai|apply aF|apply au|apply az|apply af|refine aQ (id:=4) 6 mixed (by decide +kernel) ?_|apply al|refine And.intro ?_ ?_|intro _)|(simp[*,h5,h1,h2,Tw.cu])
     all_goals first|omega|exact aG (by omega) (by omega)
    .have a9:¬v2=(nth l k).2:=λe=>h2 e.symm
     have kj:aN ((l.drop (k+1)).any (λy=>decide (v1=y.1)&&decide (v2=y.2))=R):=keep (by rw[<-hj];simp[a9]);clear hj kR a9
     repeat' first|(with_reducible first|apply ai|apply aF|apply au|apply af|refine aQ (id:=4) 6 mixed (by decide +kernel) ?_|apply al|refine And.intro ?_ ?_|intro _)|(simp[*,h5,h1,h2,Tw.cu])
     all_goals first
      |omega
      |exact aG (by omega) (by omega)
      |(refine nx (k+1) ?_ ?_;(· exact⟨by omega,kj⟩);(refine aD ?_ ?_<;>first|trivial|(simp[*];done)))
   .have a7:¬v1=(nth l k).1:=λe=>h1 e.symm
    have kj:aN ((l.drop (k+1)).any (λy=>decide (v1=y.1)&&decide (v2=y.2))=R):=keep (by rw[<-hj];simp[a7]);clear hj kR a7
    repeat' first|(with_reducible first|apply ai|apply aF|apply au|apply af|refine aQ (id:=4) 6 mixed (by decide +kernel) ?_|apply al|refine And.intro ?_ ?_|intro _)|(simp[*,h5,h1,Tw.cu])
    all_goals first
     |omega
     |exact aG (by omega) (by omega)
     |(refine nx (k+1) ?_ ?_;(· exact⟨by omega,kj⟩);(refine aD ?_ ?_<;>first|trivial|(simp[*];done)))
  .have h8:k=l.length:=by omega
   subst h8;have kj:aN (R=false):=keep (by rw[<-hj];simp);clear hj kR
   repeat' first|(with_reducible first|apply ai|apply aL|apply af|apply al|intro _)|(simp[*])
   all_goals first
    |(refine aZ () ?_ ?_;(· exact kj);(refine aD ?_ ?_<;>first|trivial|(simp[*];done)))
 .subst hf
  repeat' first|(with_reducible first|apply ai|apply az|apply af|intro _)|(simp[*])
theorem zfi(ab:List Car)(os:List Ord)(wt:List (List Int))(zs:List Par)(ho:os.length<100000)(n:Int):aC Tz.prog 43 [.agg [.sl ab.length (aS ab),.sl os.length (aR os),.sl wt.length (a8 wt),.sl zs.length (aT zs)],.int .i64 n] (.bool (aU n 0 ((os.length:Int)-1))) true:=by
 refine rcK Tz.func43 ?_;simp only[Tryz.results43,Tryz.ntmps43]
 repeat' first|(with_reducible first|apply ai|apply az|apply af|refine And.intro ?_ ?_|refine cw (ma _ _ _) ?_|intro _)|(simp[*])|(refine ae (ma _ _ _) ?_ ?_;(· (simp[*];done)))
 all_goals first|omega|exact aG (by omega) (by omega)
theorem zd0(ab:List Car)(os:List Ord)(wt:List (List Int))(zs:List Par)(ho:ab.length<100000)(n:Int):aC Tz.prog 45 [.agg [.sl ab.length (aS ab),.sl os.length (aR os),.sl wt.length (a8 wt),.sl zs.length (aT zs)],.int .i64 n] (.bool (aU n 0 ((ab.length:Int)-1))) true:=by
 refine rcK Tz.func45 ?_;simp only[Tryz.results45,Tryz.ntmps45]
 repeat' first|(with_reducible first|apply ai|apply az|apply af|refine And.intro ?_ ?_|refine cw (ma _ _ _) ?_|intro _)|(simp[*])|(refine ae (ma _ _ _) ?_ ?_;(· (simp[*];done)))
 all_goals first|omega|exact aG (by omega) (by omega)
theorem zfj(ab:List Car)(os:List Ord)(wt:List (List Int))(zs:List Par)(aw:ab.length<=1000)(ay:os.length<=1000)(b4:wt.length<100000)(b5:zs.length<100000)(hc:∀x∈ab,x.1.size<1000000)(ho:∀x∈os,x.1.size<1000000)(hw:∀x∈wt,x.length<100000):aC Tz.prog 58 [.agg [.sl ab.length (aS ab),.sl os.length (aR os),.sl wt.length (a8 wt),.sl zs.length (aT zs)]] (.tup [.int .i64 (g9 ab os wt zs).1,.int .i64 (g9 ab os wt zs).2]) true:=by
 generalize hR:g9 ab os wt zs=R;obtain⟨R1,R2⟩:=R;unfold g9 at hR;have kc:=keep hc;have ko:=keep ho;have kw:=keep hw;clear hc ho hw;by_cases a1:(8:Int)<ab.length
 .rw[aB a1] at hR;obtain⟨q1,q2⟩:=br hR;subst q1 q2;clear hR;refine rcK Tz.func58 ?_;simp only[Tryz.results58,Tryz.ntmps58]
  repeat' first|(with_reducible first|apply ai|apply az|apply af|apply al|intro _)|(simp[*,a1])
  all_goals first|omega|exact aG (by omega) (by omega)|assumption
 rw[ar a1] at hR;generalize hN:gC Prod.fst fG ab=N at hR;obtain⟨N1,N2⟩:=N;have kN:aN (fq Prod.fst fG ab (ab.drop 0) 0=(N1,N2)):=hN;have kR:=keep hR;clear hR hN;refine rcK Tz.func58 ?_;simp only[Tryz.results58,Tryz.ntmps58]
 repeat' first|(with_reducible first|apply ai|apply au|apply af|apply al|intro _)|(simp[*,a1])
 refine bQ (λ(k:Nat)=>k<=ab.length/\fq Prod.fst fG ab (ab.drop k) k=(N1,N2)) [1] (λ(k:Nat)=>[(4,.w false false (.int .i64 k))]) [0] (λ(k:Nat)=>[]) (λ(k:Nat)=>ab.length-k) (λ(_u:Unit)=>N1=0/\N2=0) [1] (λ(_u:Unit)=>[]) [0] (λ(_u:Unit)=>[]) (0) ⟨aK _,kN⟩ (by simp) (by simp) (λk hk=>?_) (λ_u hf=>?_)
 .obtain⟨hk,hj⟩:=hk;by_cases h5:k<ab.length
  .have c1:=zfg ab os wt zs k h5 (by omega) kc;rw[dg ab k h5,fq] at hj;generalize g7 Prod.fst fG ab k (nth ab k)=e at hj c1;by_cases he:e=0
   .rw[aB he] at hj;subst he;have kj:=keep hj;clear hj
    repeat' first|(with_reducible first|apply ai|apply aF|apply au|apply af|apply al|refine And.intro ?_ ?_|refine cw (c1) ?_|intro _)|(simp[*,h5])|(refine ae (c1) ?_ ?_;(· (simp[*];done)))
    all_goals first
     |omega
     |exact aG (by omega) (by omega)
     |(refine nx (k+1) ?_ ?_;(· exact⟨by omega,kj⟩);(refine aD ?_ ?_<;>first|trivial|(simp[*];done)))
   .rw[ar he] at hj;obtain⟨g1,g2⟩:=br hj;have h1:=(br (show (N1,N2)=(R1,R2) by have h:=kR;unfold aN at h;rw[aB (show (N1,N2).2≠0 fromλh0=>he (g2.trans h0))] at h;exact h));have q1:(k:Int)=R1:=g1.trans h1.1;have q2:e=R2:=g2.trans h1.2;subst q1 q2;clear hj kR g1 g2 h1 kN
    repeat' first|(with_reducible first|apply ai|apply aF|apply au|apply az|apply af|apply al|refine And.intro ?_ ?_|refine cw (c1) ?_|intro _)|(simp[*,h5,he])|(refine ae (c1) ?_ ?_;(· (simp[*];done)))
    all_goals first|omega|exact aG (by omega) (by omega)|assumption
  .have h8:k=ab.length:=by omega
   subst h8;rw[fg] at hj;have hj:((0:Int),(0:Int))=(N1,N2):=hj;have kj:aN (N1=0/\N2=0):=keep ⟨(br hj).1.symm,(br hj).2.symm⟩;clear hj
   repeat' first|(with_reducible first|apply ai|apply aL|apply af|apply al|intro _)|(simp[*])
   all_goals first
    |omega
    |(refine aZ () ?_ ?_;(· exact kj);(refine aD ?_ ?_<;>first|trivial|(simp[*];done)))
 obtain⟨rfl,rfl⟩:=hf;have hR:(if (8:Int)<os.length then ((0:Int),(8:Int)) else if (gC Prod.fst eH os).2≠0 then gC Prod.fst eH os else if (wt.length:Int)≠os.length then (0,10) else fU (λ_=>gj ab.length) wt 0 (g8 os.length ab.length zs))=(R1,R2):=kR;clear kR kN;by_cases a2:(8:Int)<os.length
 .rw[aB a2] at hR;obtain⟨q1,q2⟩:=br hR;subst q1 q2;clear hR
  repeat' first|(with_reducible first|apply ai|apply az|apply af|apply al|intro _)|(simp[*,a2])
  all_goals first|omega|exact aG (by omega) (by omega)|assumption
 rw[ar a2] at hR;generalize hN:gC Prod.fst eH os=M at hR;obtain⟨M1,M2⟩:=M;have kM:aN (fq Prod.fst eH os (os.drop 0) 0=(M1,M2)):=hN;have kR:=keep hR;clear hR hN
 repeat' first|(with_reducible first|apply ai|apply au|apply af|apply al|intro _)|(simp[*,a2])
 refine bQ (λ(k:Nat)=>k<=os.length/\fq Prod.fst eH os (os.drop k) k=(M1,M2)) [1] (λ(k:Nat)=>[(6,.w false false (.int .i64 k))]) [0] (λ(k:Nat)=>[]) (λ(k:Nat)=>os.length-k) (λ(_u:Unit)=>M1=0/\M2=0) [1] (λ(_u:Unit)=>[]) [0] (λ(_u:Unit)=>[]) (0) ⟨aK _,kM⟩ (by simp) (by simp) (λk hk=>?_) (λ_u hf=>?_)
 .obtain⟨hk,hj⟩:=hk;by_cases h5:k<os.length
  .have c1:=zfh ab os wt zs k h5 (by omega) ko;rw[dg os k h5,fq] at hj;generalize g7 Prod.fst eH os k (nth os k)=e at hj c1;by_cases he:e=0
   .rw[aB he] at hj;subst he;have kj:=keep hj;clear hj
    repeat' first|(with_reducible first|apply ai|apply aF|apply au|apply af|apply al|refine And.intro ?_ ?_|refine cw (c1) ?_|intro _)|(simp[*,h5])|(refine ae (c1) ?_ ?_;(· (simp[*];done)))
    all_goals first
     |omega
     |exact aG (by omega) (by omega)
     |(refine nx (k+1) ?_ ?_;(· exact⟨by omega,kj⟩);(refine aD ?_ ?_<;>first|trivial|(simp[*];done)))
   .rw[ar he] at hj;obtain⟨g1,g2⟩:=br hj;have h1:=(br (show (M1,M2)=(R1,R2) by have h:=kR;unfold aN at h;rw[aB (show (M1,M2).2≠0 fromλh0=>he (g2.trans h0))] at h;exact h));have q1:(k:Int)=R1:=g1.trans h1.1;have q2:e=R2:=g2.trans h1.2;subst q1 q2;clear hj kR g1 g2 h1 kM
    repeat' first|(with_reducible first|apply ai|apply aF|apply au|apply az|apply af|apply al|refine And.intro ?_ ?_|refine cw (c1) ?_|intro _)|(simp[*,h5,he])|(refine ae (c1) ?_ ?_;(· (simp[*];done)))
    all_goals first|omega|exact aG (by omega) (by omega)|assumption
  .have h8:k=os.length:=by omega
   subst h8;rw[fg] at hj;have hj:((0:Int),(0:Int))=(M1,M2):=hj;have kj:aN (M1=0/\M2=0):=keep ⟨(br hj).1.symm,(br hj).2.symm⟩;clear hj
   repeat' first|(with_reducible first|apply ai|apply aL|apply af|apply al|intro _)|(simp[*])
   all_goals first
    |omega
    |(refine aZ () ?_ ?_;(· exact kj);(refine aD ?_ ?_<;>first|trivial|(simp[*];done)))
 obtain⟨rfl,rfl⟩:=hf;have hR:(if (wt.length:Int)≠os.length then ((0:Int),(10:Int)) else fU (λ_=>gj ab.length) wt 0 (g8 os.length ab.length zs))=(R1,R2):=kR;clear kR kM;by_cases a3:(wt.length:Int)=os.length
 rotate_left
 .rw[aB a3] at hR;obtain⟨q1,q2⟩:=br hR;subst q1 q2;clear hR
  repeat' first|(with_reducible first|apply ai|apply az|apply af|apply al|intro _)|(simp[*,a3])
  all_goals first|omega|exact aG (by omega) (by omega)|assumption
 rw[ar (λh=>h a3)] at hR;have kT:aN (fU (λ_=>gj ab.length) (wt.drop 0) 0 (g8 os.length ab.length zs)=(R1,R2)):=hR;clear hR
 repeat' first|(with_reducible first|apply ai|apply au|apply af|apply al|intro _)|(simp[*,a3])
 refine bQ (λ(k:Nat)=>k<=wt.length/\fU (λ_=>gj ab.length) (wt.drop k) k (g8 os.length ab.length zs)=(R1,R2)) [1] (λ(k:Nat)=>[(8,.w false false (.int .i64 k))]) [0] (λ(k:Nat)=>[]) (λ(k:Nat)=>wt.length-k) (λ(_u:Unit)=>g8 os.length ab.length zs=(R1,R2)) [1] (λ(_u:Unit)=>[]) [0] (λ(_u:Unit)=>[]) (0) ⟨aK _,kT⟩ (by simp) (by simp) (λk hk=>?_) (λ_u hf=>?_)
 .obtain⟨hk,hj⟩:=hk;clear kT;by_cases h5:k<wt.length
  .have aq:=kw _ (eJ h5);rw[dg wt k h5,GJ] at hj;unfold gj at hj;by_cases hl:((nth wt k).length:Int)=ab.length
   .rw[decide_eq_true hl] at hj
    have hj:(if ba (!((nth wt k).any λx=>!aU x 0 100000)) 2=0 then fU (λ_=>gj ab.length) (wt.drop (k+1)) (k+1) (g8 os.length ab.length zs) else ((k:Int),ba (!((nth wt k).any λx=>!aU x 0 100000)) 2))=(R1,R2):=by
     rw[<-hj];simp only[cX,ba]
     cases ((nth wt k).any λx=>!aU x 0 100000)<;>rfl
    generalize hA:((nth wt k).any λx=>!aU x 0 100000)=A at hj;have kA:aN (((nth wt k).drop 0).any (λx=>!aU x 0 100000)=A):=hA;have kj:=keep hj;clear hj hA
    repeat' first|(with_reducible first|apply ai|apply aF|apply au|apply aL|apply af|refine aQ (id:=22) 10 mixed (by decide +kernel) ?_|apply al|refine fz ?_ ?_|intro _)|(simp[*,h5,hl])
    all_goals try first|omega|assumption
    refine bQ (λ(j:Nat)=>j<=(nth wt k).length/\((nth wt k).drop j).any (λx=>!aU x 0 100000)=A) [1,8] (λ(j:Nat)=>[(9,.w false false (.int .i64 j))]) [0] (λ(j:Nat)=>[]) (λ(j:Nat)=>(nth wt k).length-j) (λ(_u:Unit)=>A=false) [1,8] (λ(_u:Unit)=>[]) [0] (λ(_u:Unit)=>[]) (0) ⟨aK _,kA⟩ (by simp) (by simp) (λj hk=>?_) (λ_u hf=>?_)
    .obtain⟨ax,h9⟩:=hk;clear kA;by_cases hx:j<(nth wt k).length
     .rw[dg _ j hx,mX] at h9;have c1:=ma (nth (nth wt k) j) 0 100000
      cases hb:aU (nth (nth wt k) j) 0 100000 with
      |true=>
       rw[hb] at h9 c1;have kj2:aN (((nth wt k).drop (j+1)).any (λx=>!aU x 0 100000)=A):=keep h9;clear h9 kj hb
       repeat' first|(with_reducible first|apply ai|apply aF|apply au|apply aL|apply af|apply al|refine And.intro ?_ ?_|refine fz ?_ ?_|refine cw (c1) ?_|intro _)|(simp[*,h5,hx])|(refine ae (c1) ?_ ?_;(· (simp[*];done)))
       all_goals first
        |omega
        |exact aG (by omega) (by omega)
        |(refine nx (j+1) ?_ ?_;(· exact⟨by omega,kj2⟩);(refine aD ?_ ?_<;>first|trivial|(simp[*];done)))
      |false=>
       rw[hb] at h9 c1
       have hA:A=true:=by rw[<-h9];rfl
       subst hA;have h1:((k:Int),(2:Int))=(R1,R2):=kj;obtain⟨q1,q2⟩:=br h1;subst q1 q2;clear h9 kj hb h1
       repeat' first|(with_reducible first|apply ai|apply aF|apply au|apply az|apply aL|apply af|apply al|refine And.intro ?_ ?_|refine fz ?_ ?_|refine cw (c1) ?_|intro _)|(simp[*,h5,hx])|(refine ae (c1) ?_ ?_;(· (simp[*];done)))
       all_goals first|omega|exact aG (by omega) (by omega)
     .have h8:j=(nth wt k).length:=by omega
      subst h8;have kj2:aN (A=false):=keep (by rw[<-h9];simp);clear h9 kj
      repeat' first|(with_reducible first|apply ai|apply aL|apply af|apply al|intro _)|(simp[*,h5])
      all_goals first
       |omega
       |(refine aZ () ?_ ?_;(· exact kj2);(refine aD ?_ ?_<;>first|trivial|(simp[*];done)))
    .subst hf;have kj2:aN (fU (λ_=>gj ab.length) (wt.drop (k+1)) (k+1) (g8 os.length ab.length zs)=(R1,R2)):=kj;clear kj kA
     repeat' first|(with_reducible first|apply af|refine And.intro ?_ ?_|intro _)|(simp[*,h5])
     all_goals first
      |omega
      |exact aG (by omega) (by omega)
      |(refine nx (k+1) ?_ ?_;(· exact⟨by omega,kj2⟩);(refine aD ?_ ?_<;>first|trivial|(simp[*];done)))
   .rw[decide_eq_false hl] at hj;have h1:((k:Int),(10:Int))=(R1,R2):=hj;obtain⟨q1,q2⟩:=br h1;subst q1 q2;clear hj h1
    repeat' first|(with_reducible first|apply ai|apply aF|apply au|apply az|apply aL|apply af|refine aQ (id:=22) 10 mixed (by decide +kernel) ?_|apply al|refine fz ?_ ?_|intro _)|(simp[*,h5,hl])
    all_goals first|omega|exact aG (by omega) (by omega)
  .have h8:k=wt.length:=by omega
   subst h8;rw[fg,GK] at hj;have kj:=keep hj;clear hj
   repeat' first|(with_reducible first|apply ai|apply aL|apply af|apply al|intro _)|(simp[*,a3])
   all_goals first
    |omega
    |(refine aZ () ?_ ?_;(· exact kj);(refine aD ?_ ?_<;>first|trivial|(simp[*];done)))
 clear kT;unfold g8 at hf;by_cases a4:(64:Int)<zs.length
 .rw[aB a4] at hf;obtain⟨q1,q2⟩:=br hf;subst q1 q2;clear hf
  repeat' first|(with_reducible first|apply ai|apply az|apply af|apply al|intro _)|(simp[*,a4])
  all_goals first|omega|exact aG (by omega) (by omega)|assumption
 rw[ar a4] at hf;have kS:aN (dk (jJ os.length ab.length zs) (zs.drop 0) 0=(R1,R2)):=hf;clear hf
 repeat' first|(with_reducible first|apply ai|apply au|apply af|apply al|intro _)|(simp[*,a4])
 refine df 1 (λ(k:Nat)=>k<=zs.length/\dk (jJ os.length ab.length zs) (zs.drop k) k=(R1,R2)) [1] (λ(k:Nat)=>[(10,.w false false (.int .i64 k))]) [0] (λ(k:Nat)=>[]) (λ(k:Nat)=>zs.length-k) (λ(_u:Unit)=>R1=0/\R2=0) [] (λ(_u:Unit)=>[]) [0] (λ(_u:Unit)=>[]) (0) ⟨aK _,kS⟩ (aO [] (by simp) (by simp)) (λk hk=>?_) (λ_u hf=>?_)
 .obtain⟨hk,hj⟩:=hk;clear kS;by_cases h5:k<zs.length
  .have c1:=zdz (zs.take k) (by rw[ia];omega) (nth zs k);rw[uS hk] at c1;have w1:=zfi ab os wt zs (by omega) (nth zs k).1;have w2:=zd0 ab os wt zs (by omega) (nth zs k).2;rw[dg zs k h5,dk] at hj;have hE:jJ os.length ab.length zs k (nth zs k)=cX [ba (aU (nth zs k).1 0 ((os.length:Int)-1)&&aU (nth zs k).2 0 ((ab.length:Int)-1)) 6,ba (!(hasB (zs.take k) (nth zs k))) 26]:=rfl;rw[hE] at hj;clear hE;unfold Tw.cu at c1;generalize aU (nth zs k).1 0 ((os.length:Int)-1)=g1 at *;generalize aU (nth zs k).2 0 ((ab.length:Int)-1)=g2 at *;generalize hasB (zs.take k) (nth zs k)=g3 at *
   have fin:∀e:Int,e≠0->((if e=0 then dk (jJ os.length ab.length zs) (zs.drop (k+1)) (k+1) else ((k:Int),e))=(R1,R2))->(k:Int)=R1/\e=R2:=λe he h=>by rw[ar he] at h;exact br h
   cases g1 with
   |false=>
    obtain⟨q1,q2⟩:=fin 6 (by decide) hj;subst q1 q2;clear hj fin
    repeat' first|(with_reducible first|apply ai|apply aF|apply au|apply az|apply af|apply al|refine And.intro ?_ ?_|refine cw (w1) ?_|intro _)|(simp[*,h5,Tw.cu])|(refine ae (w1) ?_ ?_;(· (simp[*];done)))
    all_goals first|omega|exact aG (by omega) (by omega)
   |true=>
    cases g2 with
    |false=>
     obtain⟨q1,q2⟩:=fin 6 (by decide) hj;subst q1 q2;clear hj fin
     repeat' first|(with_reducible first|apply ai|apply aF|apply au|apply az|apply af|apply al|refine And.intro ?_ ?_|refine cw (w1) ?_|refine cw (w2) ?_|intro _)|(simp[*,h5,Tw.cu])|(refine ae (w1) ?_ ?_;(· (simp[*];done)))|(refine ae (w2) ?_ ?_;(· (simp[*];done)))
     all_goals first|omega|exact aG (by omega) (by omega)
    |true=>
     cases g3 with
     |true=>
      obtain⟨q1,q2⟩:=fin 26 (by decide) hj;subst q1 q2;clear hj fin
      repeat' first|(with_reducible first|apply ai|apply aF|apply au|apply az|apply af|refine aQ (id:=37) 6 mixed (by decide +kernel) ?_|apply al|refine And.intro ?_ ?_|refine cw (w1) ?_|refine cw (w2) ?_|refine cw (c1) ?_|intro _)|(simp[*,h5,Tw.cu])|(refine ae (w1) ?_ ?_;(· (simp[*];done)))|(refine ae (w2) ?_ ?_;(· (simp[*];done)))|(refine ae (c1) ?_ ?_;(· (simp[*];done)))
      all_goals first|omega|exact aG (by omega) (by omega)
     |false=>
      have kj:aN (dk (jJ os.length ab.length zs) (zs.drop (k+1)) (k+1)=(R1,R2)):=hj;clear hj fin
      repeat' first|(with_reducible first|apply ai|apply aF|apply au|apply af|refine aQ (id:=37) 6 mixed (by decide +kernel) ?_|apply al|refine And.intro ?_ ?_|refine cw (w1) ?_|refine cw (w2) ?_|refine cw (c1) ?_|intro _)|(simp[*,h5,Tw.cu])|(refine ae (w1) ?_ ?_;(· (simp[*];done)))|(refine ae (w2) ?_ ?_;(· (simp[*];done)))|(refine ae (c1) ?_ ?_;(· (simp[*];done)))
      all_goals first
       |omega
       |exact aG (by omega) (by omega)
       |(refine nx (k+1) ?_ ?_;(· exact⟨by omega,kj⟩);(refine aO [] ?_ ?_<;>first|trivial|(simp[*];done)))
  .have h8:k=zs.length:=by omega
   subst h8;rw[fg] at hj;have hj:((0:Int),(0:Int))=(R1,R2):=hj;have kj:aN (R1=0/\R2=0):=keep ⟨(br hj).1.symm,(br hj).2.symm⟩;clear hj
   repeat' first|(with_reducible first|apply ai|apply aL|apply af|apply al|intro _)|(simp[*,a4])
   all_goals first
    |omega
    |(refine aZ () ?_ ?_;(· exact kj);(refine aD ?_ ?_<;>first|trivial|(simp[*];done)))
 .obtain⟨rfl,rfl⟩:=hf
  repeat' first|(with_reducible first|apply ai|apply az|apply af|intro _)|(simp[*])
end Go.Proofs.YthpkmilhiganjaaGreat
