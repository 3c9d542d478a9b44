/- Lemmas. -/
import Derived.Test.YthpkmilhiganjaaGreatPEd
import Derived.Test.YthpkmilhiganjaaGreatPEa
import Derived.Test.YthpkmilhiganjaaGreatPDb
import Derived.Test.YthpkmilhiganjaaGreatPLe
import Derived.Test.YthpkmilhiganjaaGreatPLg
set_option linter.all false
set_option maxHeartbeats 32000000
set_option maxRecDepth 100000
namespace Go.Proofs.YthpkmilhiganjaaGreat
open Go Go.Fi
variable[av]
def qi(ab:List Car)(os:List Ord)(zs:List Par)(i k:Nat):Bool:=
 (decide ((nth os i).2.1<=(nth ab k).2.1)&&((nth ab k).2.2 || !(nth os i).2.2.1)) && !hasB zs ((i:Int),(k:Int))
theorem FL(r:Tw.RND)(i k:Nat)(hi:i<r.os.length)(hk:k<r.ab.length):nth (nth (aj r).fit i) k=qi r.ab r.os r.zs i k:=by
 have e1:nth (aj r).fit i=Tw.lE r i:=by
  unfold aj;simp[nth,bS,hi]
 have e2:nth (Tw.lE r i) k=Tw.BV (Tw.odW (Tw.odR r) i 0 0 0) k:=by
  show nth ((List.range r.ab.length).map _) k=_;simp[nth,bS,hk]
 rw[e1,e2]
 have e3:Tw.qD r.zs (i:Int) (k:Int)=hasB r.zs ((i:Int),(k:Int)):=by
  unfold Tw.qD hasB;congr 1
  funext z
  obtain⟨a,b⟩:=z;rw[iS];simp only[beq_iff_eq,bX,bU,decide_eq_true_eq];exact⟨λh=>⟨h.1.symm,h.2.symm⟩,λh=>⟨h.1.symm,h.2.symm⟩⟩
 show ((decide (((r.ab.getD k (default,0,false)).2.1)>=(r.os.getD i (default,0,false,0)).2.1)&&((r.ab.getD k (default,0,false)).2.2 || !(r.os.getD i (default,0,false,0)).2.2.1))&&(!Tw.qD r.zs i k))=_;rw[e3]
 have h1:r.ab.getD k (default,0,false)=nth r.ab k:=by simp[nth,bS,hk]
 have h2:r.os.getD i (default,0,false,0)=nth r.os i:=by simp[nth,bS,hi]
 rw[h1,h2];rfl
theorem zd1(ab:List Car)(os:List Ord)(wt:List (List Int))(zs:List Par)(i k:Nat)(hi:i<os.length)(hk:k<ab.length)(hz:zs.length<100000):aC Tz.prog 60 [.agg [.sl ab.length (aS ab),.sl os.length (aR os),.sl wt.length (a8 wt),.sl zs.length (aT zs)],.int .i64 i,.int .i64 k] (.bool (qi ab os zs i k)) true:=by
 have c1:=zdz zs hz ((i:Int),(k:Int));unfold Tw.cu at c1;unfold qi;generalize hasB zs ((i:Int),(k:Int))=g at *;by_cases h1:(nth os i).2.1<=(nth ab k).2.1
 .rw[decide_eq_true h1]
  cases h2:(nth ab k).2.2 with
  |true=>
   simp only[fV,eo];refine rcK Tz.func60 ?_;simp only[Tryz.results60,Tryz.ntmps60]
   repeat' first|(with_reducible first|apply ai|apply az|apply af|refine iX (id:=1) [0,1,2,3,4,5,6,7,8,9,10,11] [12,13] [[],[],[],[],[],[.new 0],[.new 0],[.new 0],[.new 0],[.new 0],[],[]] [[.new 0],[.new 1]] mixed (by decide +kernel) ?_|refine And.intro ?_ ?_|refine cw (c1) ?_|intro _)|(simp[*,hi,hk,h1,h2,Tw.dt,Tw.cg,Tw.cu])|(refine ae (c1) ?_ ?_;(· (simp[*];done)))
   all_goals first|omega
  |false=>
   cases h3:(nth os i).2.2.1 with
   |true=>
    simp only[fJ,ij,ig,gG];refine rcK Tz.func60 ?_;simp only[Tryz.results60,Tryz.ntmps60]
    repeat' first|(with_reducible first|apply ai|apply az|apply af|refine iX (id:=1) [0,1,2,3,4,5,6,7,8,9,10,11] [12,13] [[],[],[],[],[],[.new 0],[.new 0],[.new 0],[.new 0],[.new 0],[],[]] [[.new 0],[.new 1]] mixed (by decide +kernel) ?_|refine And.intro ?_ ?_|intro _)|(simp[*,hi,hk,h1,h2,h3,Tw.dt,Tw.cg,Tw.cu])|(refine ae (c1) ?_ ?_;(· (simp[*];done)))
    all_goals first|omega
   |false=>
    simp only[gm,iI,eo];refine rcK Tz.func60 ?_;simp only[Tryz.results60,Tryz.ntmps60]
    repeat' first|(with_reducible first|apply ai|apply az|apply af|refine iX (id:=1) [0,1,2,3,4,5,6,7,8,9,10,11] [12,13] [[],[],[],[],[],[.new 0],[.new 0],[.new 0],[.new 0],[.new 0],[],[]] [[.new 0],[.new 1]] mixed (by decide +kernel) ?_|refine And.intro ?_ ?_|refine cw (c1) ?_|intro _)|(simp[*,hi,hk,h1,h2,h3,Tw.dt,Tw.cg,Tw.cu])|(refine ae (c1) ?_ ?_;(· (simp[*];done)))
    all_goals first|omega
 .rw[decide_eq_false h1];simp only[gG];refine rcK Tz.func60 ?_;simp only[Tryz.results60,Tryz.ntmps60]
  repeat' first|(with_reducible first|apply ai|apply az|apply af|refine iX (id:=1) [0,1,2,3,4,5,6,7,8,9,10,11] [12,13] [[],[],[],[],[],[.new 0],[.new 0],[.new 0],[.new 0],[.new 0],[],[]] [[.new 0],[.new 1]] mixed (by decide +kernel) ?_|refine And.intro ?_ ?_|intro _)|(simp[*,hi,hk,h1,Tw.dt,Tw.cg,Tw.cu])|(refine ae (c1) ?_ ?_;(· (simp[*];done)))
  all_goals first|omega
def cm(ab:List Car)(os:List Ord)(zs:List Par)(i n:Nat):List Int:=((List.range n).filter (qi ab os zs i)).map λk=>((k:Nat):Int)
theorem zfk(ab:List Car)(os:List Ord)(zs:List Par)(i n:Nat):cm ab os zs i (n+1)=if qi ab os zs i n then cm ab os zs i n++[(n:Int)] else cm ab os zs i n:=by
 unfold cm;rw[jN,uV,ou]
 cases h:qi ab os zs i n<;>simp[h]
theorem MC(ab:List Car)(os:List Ord)(zs:List Par)(i n:Nat):(cm ab os zs i n).length<=n:=by
 unfold cm;rw[fI];exact bN (yi _ _) (by simp)
theorem zd2(ab:List Car)(os:List Ord)(wt:List (List Int))(zs:List Par)(i:Nat)(hi:i<os.length)(hc:ab.length<=1000)(hz:zs.length<100000):aC Tz.prog 59 [.agg [.sl ab.length (aS ab),.sl os.length (aR os),.sl wt.length (a8 wt),.sl zs.length (aT zs)],.int .i64 i] (.sl (cm ab os zs i ab.length).length (ints (cm ab os zs i ab.length))) true:=by
 have c1:=λk hk=>zd1 ab os wt zs i k hi hk hz
 have e0:cm ab os zs i 0=[]:=rfl;have eK:=zfk ab os zs i;have hK:=MC ab os zs i;generalize cm ab os zs i=K at *;generalize qi ab os zs i=F at *;have kk:=keep (And.intro c1 (And.intro eK hK))
 have e1:(K 0).length=0:=by rw[e0];rfl
 have e2:iA (K 0)=[]:=by rw[e0];rfl
 clear c1 eK hK e0 hi hz;refine rcK Tz.func59 ?_;simp only[Tryz.results59,Tryz.ntmps59]
 repeat' first|(with_reducible first|apply ai|apply af|intro _)|(simp[*])
 refine df 2 (λ(k:Nat)=>k<=ab.length) [1,2] (λ(k:Nat)=>[(5,.msl 1 (K k).length 1 0 (K k).length),(6,.w false false (.int .i64 k))]) [0] (λ(k:Nat)=>[(1,iA (K k))]) (λ(k:Nat)=>ab.length-k) (λ(_u:Unit)=>True) [] (λ(_u:Unit)=>[(5,.msl 1 (K ab.length).length 1 0 (K ab.length).length)]) [] (λ(_u:Unit)=>[(1,iA (K ab.length))]) (0) (aK _) (aO [] (by simp[e1,e2]) (by simp[e1,e2])) (λk hk=>?_) (λ_u hf=>?_)
 .clear e1 e2;by_cases h9:k<ab.length
  .obtain⟨c1,eK,hK⟩:=kk;have c:=c1 k h9;have e:=eK k;have hh:inI .i64 ((k:Int)+1):=aG (by omega) (by omega)
   have hz:k+1<=ab.length:=by omega
   have hb:=hK k
   have bo:(K k).length+1<=1000000000:=by omega
   clear c1 eK hK
   cases hf:F k with
   |true=>
    rw[hf] at c e;rw[aB rfl] at e
    have e3:iA (K (k+1))=iA (K k)++[.w false false (.int .i64 k)]:=by rw[e,<-LK];rfl
    have e4:(K (k+1)).length=(K k).length+1:=by rw[e];simp
    clear e hf
    repeat' first|(with_reducible first|apply ai|apply aF|apply au|apply af|apply al|refine And.intro ?_ ?_|refine cw (c) ?_|intro _)|(simp[*,h9,hh])|(refine ae (c) ?_ ?_;(· (simp[*];done)))
    all_goals first
     |omega
     |assumption
     |(refine nx (k+1) ?_ ?_;(· exact hz);(refine aO [] ?_ ?_<;>first|trivial|(simp[*,e3,e4];done)))
   |false=>
    rw[hf] at c e;rw[ar (by decide)] at e;clear hf
    repeat' first|(with_reducible first|apply ai|apply aF|apply au|apply af|apply al|refine And.intro ?_ ?_|refine cw (c) ?_|intro _)|(simp[*,h9,hh])|(refine ae (c) ?_ ?_;(· (simp[*];done)))
    all_goals first
     |omega
     |assumption
     |(refine nx (k+1) ?_ ?_;(· exact hz);(refine aO [] ?_ ?_<;>first|trivial|(simp[*,e];done)))
  .have hx:k=ab.length:=by omega
   subst hx;clear kk
   repeat' first|(with_reducible first|apply ai|apply aL|apply af|apply al|intro _)|(simp[*,h9])
   all_goals first
    |omega
    |(refine aZ () ?_ ?_;(· trivial);(refine aD ?_ ?_<;>first|trivial|(simp[*];done)))
 .clear kk e1 e2
  repeat' first|(with_reducible first|apply ai|apply az|apply af|intro _)|(simp[*])
theorem zfl(ab:List Car)(os:List Ord)(wt:List (List Int))(zs:List Par)(b5:ab.length<=1000)(bf:os.length<=1000)(bj:wt.length<100000)(bk:zs.length<100000)(hc:∀x∈ab,x.1.size<1000000)(ho:∀x∈os,x.1.size<1000000)(hw:∀x∈wt,x.length<100000):aC Tz.prog 20 [.agg [.sl ab.length (aS ab),.sl os.length (aR os),.sl wt.length (a8 wt),.sl zs.length (aT zs)]] (.int .i64 (g9 ab os wt zs).2) true:=by
 have c:=zfj ab os wt zs b5 bf bj bk hc ho hw;generalize g9 ab os wt zs=R at *;clear hc ho hw;refine rcK Tz.func20 ?_;simp only[Tryz.results20,Tryz.ntmps20]
 repeat' first|(with_reducible first|apply ai|apply az|apply af|refine And.intro ?_ ?_|refine cw (c) ?_|intro _)|(simp[*])|(refine ae (c) ?_ ?_;(· (simp[*];done)))
end Go.Proofs.YthpkmilhiganjaaGreat
namespace Go.Proofs.YthpkmilhiganjaaGreat
open Go Go.Fi
noncomputable instance zhr:av:=LD
section
variable(x:Rd)(os cs:List Int)
end
section
variable(r:Tw.RND)(h:ceR r=0)(os cs:List Int)
end
def cn(f:Nat->Bool):Nat->Nat
 |0=>0
 |n+1=>cn f n+if f n then 1 else 0
theorem WS{f g:Nat->Bool}:∀n,(∀k,k<n->f k=true->g k=true)->cn f n<=cn g n
 |0,_=>aE _
 |n+1,h=>by
  have ih:=WS n (λk hk=>h k (by omega));have h1:=h n (by omega);unfold cn
  cases hf:f n with
  |true=>rw[h1 hf];simp;exact ih
  |false=>simp;omega
theorem zd3{f g:Nat->Bool}(n:Nat)(h:∀k,k<n->f k=g k):cn f n=cn g n:=
 Nat.le_antisymm (WS n λk hk e=>by rw[<-h k hk];exact e) (WS n λk hk e=>by rw[h k hk];exact e)
theorem zcp(f g:Nat->Bool):∀n,cn f n=cn (λk=>f k&&g k) n+cn (λk=>f k && !g k) n
 |0=>rfl
 |n+1=>by
  have ih:=zcp f g n;unfold cn
  cases f n<;>cases g n<;>simp<;>omega
theorem zd4(f:Nat->Bool):∀n,cn f n<=n
 |0=>aE _
 |n+1=>by have:=zd4 f n;unfold cn;split<;>omega
theorem zcq{f:Nat->Bool}:∀n,(∀k,k<n->f k=true)->cn f n=n
 |0,_=>rfl
 |n+1,h=>by have:=zcq n (λk hk=>h k (by omega));unfold cn;rw[h n (by omega),this];rfl
theorem zd5(f:Nat->Bool)(c:Nat):∀n,c<n->f c=true->cn f n=cn (λk=>f k && !(decide (k=c))) n+1
 |n+1,hc,hf=>by
  unfold cn;by_cases e:c=n
  .subst e;rw[hf]
   have:=zd3 (f:=f) (g:=λk=>f k && !(decide (k=c))) c (λk hk=>by
    have:¬k=c:=by omega
    simp[this])
   rw[this];simp
  .have:=zd5 f c n (by omega) hf
   have e2:¬n=c:=λh=>e h.symm
   rw[this];simp[e2];omega
theorem E2{f:Nat->Bool}(m:Nat)(g:Nat->Nat):∀(n:Nat)(h:Nat->Bool),(∀k,k<n->f k=true->g k<m/\h (g k)=true)->(∀j k,j<n->k<n->f j=true->f k=true->g j=g k->j=k)->cn f n<=cn h m
 |0,_,_,_=>aK _
 |n+1,h,h1,h2=>by
  rw[show cn f (n+1)=cn f n+if f n then 1 else 0 from rfl]
  cases hf:f n with
  |false=>
   have:=E2 m g n h (λk hk=>h1 k (by omega)) (λj k hj hk=>h2 j k (by omega) (by omega));simpa using this
  |true=>
   obtain⟨b1,b2⟩:=h1 n (by omega) hf;have e:=zd5 h (g n) m b1 b2
   have:=E2 m g n (λk=>h k && !(decide (k=g n))) (λk hk a7=>by
    obtain⟨c1,c2⟩:=h1 k (by omega) a7;refine⟨c1,?_⟩
    have:¬g k=g n:=λe=>by have:=h2 k n (by omega) (by omega) a7 hf e;omega
    simp[c2,this]) (λj k hj hk=>h2 j k (by omega) (by omega))
   simp only[aX];omega
theorem MO{p q:Nat}(h:p<=q):bw p<=bw q:=by
 obtain⟨d,rfl⟩:=Nat.le.dest h;clear h
 induction d with
 |zero=>exact mZ _
 |succ d ih=>
  have e:bw (p+(d+1))=bw (p+d)*10:=rfl
  have:∀k,0<=bw k:=λk=>by
   induction k with
   |zero=>decide
   |succ k ih=>unfold bw;omega
  have:=this (p+d);omega
theorem zfm(k:Nat):1000000<=bw k:=MO (aK k)
theorem zfn{p q:Nat}(h:p<q):bw p*10<=bw q:=MO (p:=p+1) h
def ql(x:Rd)(plan:List Int)(p:Nat)(i:Nat):Bool:=!(decide (nth plan i=-1))&&decide (p<=prio x i)
def HR(x:Rd)(plan:List Int)(p:Nat):Nat:=cn (ql x plan p) plan.length
theorem zfo(u:List Int)(P W:Int)(n:Nat)(hW:0<W):∃j:Nat,j<=n/\∀i,i<n->¬(P-W*j-W<=nth u i/\nth u i<P-W*j):=by
 apply pW;intro ao
 have h:∀j:Nat,j<n+1->∃i,i<n/\(P-W*j-W<=nth u i/\nth u i<P-W*j):=λj hj=>by
  apply pW;intro h2;exact ao ⟨j,by omega,λi hi h3=>h2 ⟨i,hi,h3⟩⟩
 have h':∀j:Nat,∃i,j<n+1->(i<n/\(P-W*j-W<=nth u i/\nth u i<P-W*j)):=λj=>by
  by_cases hj:j<n+1
  .obtain⟨i,hi⟩:=h j hj;exact⟨i,λ_=>hi⟩
  .exact⟨0,λh=>absurd h hj⟩
 obtain⟨g,hg⟩:=SK h'
 have:=E2 (f:=λ_=>true) n g (n+1) (λ_=>true) (λk hk _=>⟨(hg k hk).1,rfl⟩) (λj k hj hk _ _ e=>by
  have a:=(hg j hj).2;have b:=(hg k hk).2;rw[e] at a
  rcases sT j k with h9|he|h9
  .exfalso
   have:W*(j:Int)+W<=W*(k:Int):=by
    have e2:W*(j:Int)+W=W*((j:Int)+1):=by rw[Int.mul_add,Int.mul_one]
    rw[e2];exact SL (by omega) (by omega)
   omega
  .exact he
  .exfalso
   have:W*(k:Int)+W<=W*(j:Int):=by
    have e2:W*(k:Int)+W=W*((k:Int)+1):=by rw[Int.mul_add,Int.mul_one]
    rw[e2];exact SL (by omega) (by omega)
   omega)
 rw[zcq (n+1) (λ_ _=>rfl),zcq n (λ_ _=>rfl)] at this;omega
theorem zfp(x:Rd)(ok:b9 x)(p:Nat)(q:List Int)(hq:Bm x q):HR x q p<=HR x (bl x) p:=by
 have b:=C4 x ok;generalize hU:(fh x).u=u at b;generalize hV:bO x=v at b;have b':=E1 x;have bb:=hq.len;have lo:=ok.lo;obtain⟨j,hj,a5⟩:=zfo u (bw p) 100000 x.os.length (by decide);have hP:=zfm p;generalize bp:bw p-100000*(j:Int)=θ at a5
 have hθ:θ<=bw p:=by omega
 have bh:0<θ-100000:=by omega
 have a6:∀i,i<x.os.length->θ-100000<=nth u i->p<=prio x i:=λi hi h=>by
  apply pW;intro hn;have h1:=b.pe i hi;have h2:=zfn (show prio x i<p by omega);by_cases h0:p=0
  .omega
  .have:bw 1<=bw p:=MO (by omega);have e:bw 1=10000000:=rfl;omega
 unfold HR;rw[b',bb];rw[zcp (ql x q p) (λi=>decide (θ<=nth u i)),zcp (ql x (bl x) p) (λi=>decide (θ<=nth u i))]
 have qk:∀i,i<x.os.length->nth q i≠-1->∃k,k<x.ab.length/\nth q i=(k:Int)/\nth (nth x.fit i) k=true:=λi hi hn=>by
  have:=(hq.at_ i (by omega)).resolve_left hn;exact⟨(nth q i).toNat,by omega,by omega,hq.fit i (by omega) hn⟩
 have s1:cn (λk=>ql x q p k&&decide (θ<=nth u k)) x.os.length<=cn (λk=>decide (θ-100000<=nth v k)) x.ab.length:=by
  refine E2 _ (λi=>(nth q i).toNat) _ _ (λi hi hf=>?_) (λi l hi hl a' a4 e=>?_)
  .simp only[ql,bU,gH,decide_eq_true_eq,decide_eq_false_iff_not] at hf;obtain⟨⟨hn,_⟩,h2⟩:=hf;obtain⟨k,hk,e,aa⟩:=qk i hi hn;rw[e,bT];refine⟨hk,decide_eq_true ?_⟩;have h3:=b.wt i k hi hk aa;have h4:=ok.wn i hi k hk;omega
  .simp only[ql,bU,gH,decide_eq_true_eq,decide_eq_false_iff_not] at a' a4;have h1:=qk i hi a'.1.1;have h2:=qk l hl a4.1.1;obtain⟨k,_,e1,_⟩:=h1;obtain⟨k',_,e2,_⟩:=h2
   have e3:nth q i=nth q l:=by
    simp only[e1,e2,bT] at e ⊢;omega
   rcases sT i l with h|h|h
   .exact absurd e3 (hq.once l (by omega) a4.1.1 i h)
   .exact h
   .exact absurd e3.symm (hq.once i (by omega) a'.1.1 l h)
 have kb:∀k,k<x.ab.length->∃i,θ-100000<=nth v k->i<x.os.length/\nth (bl x) i=(k:Int):=λk hk=>by
  by_cases h:θ-100000<=nth v k
  .have:∃i,i<x.os.length/\nth (bl x) i=(k:Int):=by
    apply pW;intro ao;have:=b.fr k hk (λi hi e=>ao ⟨i,hi,e⟩);omega
   obtain⟨i,hi⟩:=this;exact⟨i,λ_=>hi⟩
  .exact⟨0,λh2=>absurd h2 h⟩
 have s2:cn (λk=>decide (θ-100000<=nth v k)) x.ab.length<=cn (λk=>ql x (bl x) p k&&decide (θ<=nth u k)) x.os.length:=by
  have bm:∀k,∃i,k<x.ab.length->θ-100000<=nth v k->i<x.os.length/\nth (bl x) i=(k:Int):=λk=>by
   by_cases hk:k<x.ab.length
   .obtain⟨i,hi⟩:=kb k hk;exact⟨i,λ_=>hi⟩
   .exact⟨0,λh=>absurd h hk⟩
  obtain⟨g,hg⟩:=SK bm;refine E2 _ g _ _ (λk hk hf=>?_) (λk l hk hl a7 a4 e=>?_)
  .have hf:=of_decide_eq_true hf;obtain⟨h1,h2⟩:=hg k hk hf;refine⟨h1,?_⟩
   have hn:nth (bl x) (g k)≠-1:=by omega
   obtain⟨c,hc,e1,_,e2⟩:=b.at_ (g k) h1 hn
   have:c=k:=by omega
   subst this;have h4:=ok.wn (g c) h1 c hk
   have h5:θ-100000<=nth u (g c):=by omega
   have h6:=a6 (g c) h1 h5;have h7:=a5 (g c) h1
   have h8:θ<=nth u (g c):=by omega
   simp only[ql,bU,gH,decide_eq_true_eq,decide_eq_false_iff_not];exact⟨⟨hn,h6⟩,h8⟩
  .have h1:=hg k hk (of_decide_eq_true a7);have h2:=hg l hl (of_decide_eq_true a4);rw[e] at h1;have:=h1.2;have:=h2.2;omega
 have s3:cn (λk=>ql x q p k && !decide (θ<=nth u k)) x.os.length<=cn (λk=>ql x (bl x) p k && !decide (θ<=nth u k)) x.os.length:=by
  refine WS _ λi hi hf=>?_
  simp only[ql,bU,gH,decide_eq_true_eq,decide_eq_false_iff_not] at hf ⊢;obtain⟨⟨_,h2⟩,h3⟩:=hf;refine⟨⟨λhn=>?_,h2⟩,h3⟩;have h4:=b.no i hi hn;have h5:=MO h2;omega
 omega
noncomputable instance zht:av:=LD
def mz(F:Nat->List Int):Nat->List (List Int)
 |0=>[[]]
 |i+1=>(mz F i).flatMap λp=>(p++[-1])::((F i).filter λf=>!(p.any λy=>decide (f=y))).map λf=>p++[f]
theorem zcr{α:Type}[Inhabited α](l m:List α){j:Nat}(h:j<l.length):nth (l++m) j=nth l j:=by
 simp[nth,bS,om h]
theorem zfq{α:Type}[Inhabited α](l:List α)(i:α):nth (l++[i]) l.length=i:=by
 simp[nth,bS]
theorem zfr{l:List Int}{v:Int}:v∈l↔∃j,j<l.length/\nth l j=v:=by
 constructor
 .intro h;obtain⟨j,hj,e⟩:=yb.1 h;exact⟨j,hj,by rw[<-e];simp[nth,bS,hj]⟩
 .rintro⟨j,hj,rfl⟩
  exact eJ hj
theorem zcs(F:Nat->List Int):∀(n:Nat)(plan:List Int),plan∈mz F n↔plan.length=n/\∀k,k<n->nth plan k=-1\/(nth plan k∈F k/\∀j,j<k->nth plan j≠nth plan k)
 |0,plan=>by
  unfold mz;constructor
  .intro h
   have:plan=[]:=by simpa using h
   subst this;exact⟨rfl,λk hk=>absurd hk (by omega)⟩
  .rintro⟨h,_⟩
   have:plan=[]:=gF h;subst this;simp
 |n+1,plan=>by
  have ih:=zcs F n;unfold mz;rw[sU];constructor
  .rintro⟨p,hp,h⟩
   obtain⟨h1,h2⟩:=(ih p).1 hp
   obtain⟨v,hv,e⟩:∃v,(v=-1\/(v∈F n/\v ∉ p))/\plan=p++[v]:=by
    rcases cD.1 h with h|h
    .exact⟨-1,.inl rfl,h⟩
    .obtain⟨f,hf,e⟩:=dW.1 h;obtain⟨g1,g2⟩:=jm.1 hf;refine⟨f,.inr ⟨g1,λhm=>?_⟩,e.symm⟩;have:(p.any λy=>decide (f=y))=true:=kE.2 ⟨f,hm,by simp⟩;rw[this] at g2;cases g2
   subst e;refine⟨by simp[h1],λk hk=>?_⟩;by_cases b6:k<n
   .rw[zcr _ _ (by omega)]
    rcases h2 k b6 with h3|⟨h3,h4⟩
    .exact .inl h3
    .exact .inr ⟨h3,λj hj=>by rw[zcr _ _ (by omega)];exact h4 j hj⟩
   .have:k=p.length:=by omega
    subst this;rw[zfq]
    rcases hv with hv|⟨bg,bi⟩
    .exact .inl hv
    .refine .inr ⟨by rw[h1];exact bg,λj hj e=>bi ?_⟩;rw[zcr _ _ hj] at e;rw[<-e];exact eJ hj
  .rintro⟨h1,h2⟩
   have hs:plan=plan.take n++[nth plan n]:=by
    have:plan.take (n+1)=plan.take n++[nth plan n]:=by
     rw[sV (by omega)];simp[nth,bS,da (show n<plan.length by omega)]
    rw[<-this,Jd (by omega)]
   have tk:∀j,j<n->nth (plan.take n) j=nth plan j:=λj hj=>by
    simp[nth,bS,jk,hj]
   refine⟨plan.take n,(ih _).2 ⟨by rw[ia];omega,λk hk=>?_⟩,?_⟩
   .rw[tk k hk]
    rcases h2 k (by omega) with h3|⟨h3,h4⟩
    .exact .inl h3
    .exact .inr ⟨h3,λj hj=>by rw[tk j (by omega)];exact h4 j hj⟩
   .rcases h2 n (by omega) with h3|⟨h3,h4⟩
    .rw[h3] at hs;exact cD.2 (.inl hs)
    .refine cD.2 (.inr (dW.2 ⟨nth plan n,jm.2 ⟨h3,?_⟩,hs.symm⟩));rw[gH,mY];intro y hy;obtain⟨j,hj,e⟩:=zfr.1 hy
     have ax:j<n:=by rw[ia] at hj;omega
     rw[tk j ax] at e;have:=h4 j ax;simp only[decide_eq_true_eq];intro e2;exact this (by rw[e,e2])
def zb7(r:Tw.RND)(i:Nat):List Int:=cm r.ab r.os r.zs i r.ab.length
theorem zd6(r:Tw.RND)(i:Nat)(v:Int):v∈zb7 r i↔∃k:Nat,k<r.ab.length/\v=(k:Int)/\qi r.ab r.os r.zs i k=true:=by
 unfold zb7 cm;rw[dW];constructor
 .rintro⟨k,hk,rfl⟩
  obtain⟨h1,h2⟩:=jm.1 hk;exact⟨k,gl.1 h1,rfl,h2⟩
 .rintro⟨k,hk,rfl,hf⟩
  exact⟨k,jm.2 ⟨gl.2 hk,hf⟩,rfl⟩
noncomputable def ez(r:Tw.RND):List (List Int):=mz (zb7 r) r.os.length
theorem C6(r:Tw.RND)(plan:List Int):Bm (aj r) plan↔plan∈ez r:=by
 unfold ez;rw[zcs];constructor
 .intro h;have hl:plan.length=r.os.length:=h.len;refine⟨hl,λk hk=>?_⟩;by_cases hn:nth plan k=-1
  .exact .inl hn
  .have h1:=(h.at_ k (by omega)).resolve_left hn;have h2:=h.fit k (by omega) hn;have hc:nth plan k<(r.ab.length:Int):=h1.2;refine .inr ⟨(zd6 r k _).2 ⟨(nth plan k).toNat,by omega,by omega,?_⟩,h.once k (by omega) hn⟩;rw[<-FL r k _ hk (by omega)];exact h2
 .rintro⟨hl,h⟩
  have at_:∀k,k<plan.length->nth plan k≠-1->∃c:Nat,c<r.ab.length/\nth plan k=(c:Int)/\qi r.ab r.os r.zs k c=true:=λk hk hn=>
   (zd6 r k _).1 ((h k (by omega)).resolve_left hn).1
  refine⟨⟨hl,λk hk=>?_⟩,λk hk hn=>?_,λk hk hn=>((h k (by omega)).resolve_left hn).2⟩
  .by_cases hn:nth plan k=-1
   .exact .inl hn
   .obtain⟨c,hc,e,_⟩:=at_ k hk hn;refine .inr ⟨by omega,?_⟩;show nth plan k<(r.ab.length:Int);omega
  .obtain⟨c,hc,e,hf⟩:=at_ k hk hn;rw[e,bT,FL r k c (by omega) hc];exact hf
def rcQ(os:List Ord)(wt:List (List Int))(plan:List Int):Nat->Int
 |0=>0
 |k+1=>rcQ os wt plan k+if nth plan k=-1 then bw (nth os k).2.2.2.toNat else nth (nth wt k) (nth plan k).toNat
def rcS(os:List Ord)(wt:List (List Int))(plan:List Int):Int:=rcQ os wt plan plan.length
theorem zd7(x:Rd)(plan:List Int):∀k,eB x plan k=ic x x.os.length-ic x k+rcQ x.os x.wt plan k
 |0=>by unfold eB rcQ;simp
 |k+1=>by
  have ih:=zd7 x plan k
  rw[show eB x plan (k+1)=if nth plan k=-1 then eB x plan k else eB x plan k+(sZ x k (nth plan k)-bw (prio x k)) from rfl,
   show rcQ x.os x.wt plan (k+1)=rcQ x.os x.wt plan k+if nth plan k=-1 then bw (nth x.os k).2.2.2.toNat else nth (nth x.wt k) (nth plan k).toNat from rfl,
   show ic x (k+1)=ic x k+bw (prio x k) from rfl,ih]
  unfold sZ prio
  split<;>omega
theorem zct(x:Rd)(plan:List Int)(hl:plan.length=x.os.length):kx x plan=rcS x.os x.wt plan:=by
 unfold kx rcS;rw[zd7,hl];omega
def sf(c:List Int->Int):List (List Int)->List Int->List Int
 |[],b=>b
 |p::r,b=>sf c r (if c p<c b then p else b)
theorem zd8(c:List Int->Int):∀(l:List (List Int))(b:List Int),(sf c l b=b\/sf c l b∈l)/\c (sf c l b)<=c b/\∀p,p∈l->c (sf c l b)<=c p
 |[],b=>⟨.inl rfl,mZ _,λp hp=>absurd hp (by simp)⟩
 |q::r,b=>by
  obtain⟨h1,h2,h3⟩:=zd8 c r (if c q<c b then q else b);unfold sf;by_cases hc:c q<c b
  .rw[aB hc] at h1 h2 h3 ⊢;refine⟨.inr ?_,by omega,λp hp=>?_⟩
   .rcases h1 with h1|h1
    .rw[h1];exact fO
    .exact dm _ h1
   .rcases cD.1 hp with rfl|hp
    .exact h2
    .exact h3 p hp
  .rw[ar hc] at h1 h2 h3 ⊢;refine⟨?_,h2,λp hp=>?_⟩
   .rcases h1 with h1|h1
    .exact .inl h1
    .exact .inr (dm _ h1)
   .rcases cD.1 hp with rfl|hp
    .omega
    .exact h3 p hp
def sC(c:List Int->Int):List (List Int)->Int->Int
 |[],b=>b
 |p::r,b=>sC c r (if b<c p then c p else b)
theorem zd9(c:List Int->Int):∀(l:List (List Int))(b:Int),(sC c l b=b\/∃p,p∈l/\sC c l b=c p)/\b<=sC c l b/\∀p,p∈l->c p<=sC c l b
 |[],b=>⟨.inl rfl,mZ _,λp hp=>absurd hp (by simp)⟩
 |q::r,b=>by
  obtain⟨h1,h2,h3⟩:=zd9 c r (if b<c q then c q else b);unfold sC;by_cases hc:b<c q
  .rw[aB hc] at h1 h2 h3 ⊢;refine⟨.inr ?_,by omega,λp hp=>?_⟩
   .rcases h1 with h1|⟨p,hp,h1⟩
    .exact⟨q,fO,h1⟩
    .exact⟨p,dm _ hp,h1⟩
   .rcases cD.1 hp with rfl|hp
    .exact h2
    .exact h3 p hp
  .rw[ar hc] at h1 h2 h3 ⊢;refine⟨?_,h2,λp hp=>?_⟩
   .rcases h1 with h1|⟨p,hp,h1⟩
    .exact .inl h1
    .exact .inr ⟨p,dm _ hp,h1⟩
   .rcases cD.1 hp with rfl|hp
    .omega
    .exact h3 p hp
noncomputable def D3(r:Tw.RND):List Int:=sf (rcS r.os r.wt) ((ez r).drop 1) (nth (ez r) 0)
theorem zfs(r:Tw.RND)(h:ceR r=0):rcS r.os r.wt (D3 r)=kx (aj r) (bl (aj r)):=by
 have ok:=C7 r h;have hb:=(C6 r _).1 (D5 (aj r) ok)
 have hle:∀p,p∈ez r->kx (aj r) (bl (aj r))<=rcS r.os r.wt p:=λp hp=>by
  have h1:=(C6 r p).2 hp;have:=zff (aj r) ok p (by rw[zdu _ _ h1])
  rwa [zct (aj r) p h1.len] at this
 have ay:0<(ez r).length:=SN hb
 have he:ez r=nth (ez r) 0::(ez r).drop 1:=by
  have:=dg (ez r) 0 ay;simpa using this
 obtain⟨h1,h2,h3⟩:=zd8 (rcS r.os r.wt) ((ez r).drop 1) (nth (ez r) 0);refine Dj ?_ (hle _ ?_)
 .rw[zct (aj r) _ (D5 (aj r) ok).len];rw[he] at hb
  rcases cD.1 hb with hb|hb
  .have b4:bl (aj r)=nth (ez r) 0:=hb;rw[b4];exact h2
  .exact h3 _ hb
 .show sf _ _ _∈_
  rcases h1 with h1|h1
  .rw[h1];exact eJ ay
  .exact List.mem_of_mem_drop h1
def m6(os:List Ord)(p:Int)(plan:List Int):Int:=(cn (λi=>!(decide (nth plan i=-1))&&decide (p<=(nth os i).2.2.2)) plan.length:Nat)
theorem zea(x:Rd)(ok:b9 x)(p:Nat)(plan:List Int)(hl:plan.length=x.os.length):m6 x.os p plan=HR x plan p:=by
 unfold m6 HR ql;congr 1
 refine zd3 _ λi hi=>?_
 have:=(D4 x ok i (by omega)).2;congr 1;rw[iS];simp only[decide_eq_true_eq];omega
noncomputable def IC(r:Tw.RND)(p:Int):Int:=sC (m6 r.os p) (ez r) 0
theorem zft(r:Tw.RND)(h:ceR r=0)(p:Nat):IC r p=m6 r.os p (bl (aj r)):=by
 have ok:=C7 r h;have hr:=D5 (aj r) ok;have hb:=(C6 r _).1 hr;obtain⟨h1,h2,h3⟩:=zd9 (m6 r.os p) (ez r) 0
 have hle:∀q,q∈ez r->m6 r.os p q<=m6 r.os p (bl (aj r)):=λq hq=>by
  have hk:=(C6 r q).2 hq;have:=zfp (aj r) ok p q hk;rw[show r.os=(aj r).os from rfl,zea (aj r) ok p q hk.len,zea (aj r) ok p _ hr.len];omega
 have h4:=h3 _ hb
 have h5:0<=m6 r.os p (bl (aj r)):=by unfold m6;omega
 show sC _ _ _=_
 rcases h1 with h1|⟨q,hq,h1⟩
 .omega
 .have:=hle q hq;omega
noncomputable instance zhu:av:=LD
section
variable[av]
theorem zfu(l:List Int):dj (iA l)=true:=tV false false _ (eh.2 λy hy=>by obtain⟨v,_,rfl⟩:=dW.1 hy;rfl)
theorem zfv(l:List Int)(h:l.length<100000):nI Tz.prog 24 [.sl l.length (ints l)] [iA l] (.msl 0 l.length 1 0 l.length):=by
 have e:(ints l).map (AV.w false false)=iA l:=rfl;have g:=zfu l;refine xg 0 [] Tz.func24 (by kernel_rfl) rfl (di (by kernel_rfl)) (by simp) (by intro c hc;simp only[pT] at hc;subst hc;exact zdl l) ?_;simp only[Tryz.results24,Tryz.ntmps24]
 repeat' first|(with_reducible first|apply ai|apply az|apply af|refine And.intro ?_ ?_|intro _)|(simp[*,e,g])
 all_goals first|omega|assumption
end
noncomputable instance zhw:av:=LD
end Go.Proofs.YthpkmilhiganjaaGreat
namespace Go.Proofs.YthpkmilhiganjaaGreat
open Go Go.Fi
variable[av]
theorem zeb(l:List Int)(hl:l.length<100000)(v:Int):aC Tz.prog 89 [.sl l.length (ints l),.int .i64 v] (.bool (l.any λy=>decide (v=y))) true:=by
 generalize hR:(l.any λy=>decide (v=y))=R;have kR:aN ((l.drop 0).any (λy=>decide (v=y))=R):=keep hR;clear hR;refine rcK Tz.func89 ?_;simp only[Tryz.results89,Tryz.ntmps89]
 repeat' first|(with_reducible first|apply ai|apply af|intro _)|(simp[*])
 refine bQ (λ(k:Nat)=>k<=l.length/\(l.drop k).any (λy=>decide (v=y))=R) [0,1] (λ(k:Nat)=>[(5,.w false false (.int .i64 k))]) [] (λ(k:Nat)=>[]) (λ(k:Nat)=>l.length-k) (λ(_u:Unit)=>R=false) [] (λ(_u:Unit)=>[]) [] (λ(_u:Unit)=>[]) (0) ⟨aK _,kR⟩ (by simp) (by simp) (λk hk=>?_) (λ_u hf=>?_)
 .obtain⟨hk,hj⟩:=hk;by_cases h9:k<l.length
  .rw[dg l k h9,mX] at hj;by_cases h1:nth l k=v
   .have hR:R=true:=by rw[<-hj];simp[h1]
    subst hR;clear hj kR
    repeat' first|(with_reducible first|apply ai|apply aF|apply au|apply az|apply af|apply al|intro _)|(simp[*,h9,h1])
    all_goals first|omega|exact aG (by omega) (by omega)
   .have aq:¬v=nth l k:=λe=>h1 e.symm
    have kj:aN ((l.drop (k+1)).any (λy=>decide (v=y))=R):=keep (by rw[<-hj];simp[aq]);clear hj kR aq
    repeat' first|(with_reducible first|apply ai|apply aF|apply au|apply af|apply al|refine And.intro ?_ ?_|intro _)|(simp[*,h9,h1])
    all_goals first
     |omega
     |exact aG (by omega) (by omega)
     |(refine nx (k+1) ?_ ?_;(· exact⟨by omega,kj⟩);(refine aD ?_ ?_<;>first|trivial|(simp[*];done)))
  .have hx:k=l.length:=by omega
   subst hx;have kj:aN (R=false):=keep (by rw[<-hj];simp);clear hj kR
   repeat' first|(with_reducible first|apply ai|apply aL|apply af|apply al|intro _)|(simp[*])
   all_goals first
    |(refine aZ () ?_ ?_;(· exact kj);(refine aD ?_ ?_<;>first|trivial|(simp[*];done)))
 .subst hf
  repeat' first|(with_reducible first|apply ai|apply az|apply af|intro _)|(simp[*])
theorem zfw(r:Tw.RND)(ok:b9 (aj r))(plan:List Int)(hp:plan.length<100000):aC Tz.prog 67 [Tw.aM r,.sl plan.length (ints plan)] (.tup [.int .i64 (dh (aj r) plan).1,.int .i64 (dh (aj r) plan).2]) true:=by
 have lo:r.os.length<=8:=ok.lo;have lc:r.ab.length<=8:=ok.lc
 have hz:r.zs.length<100000:=by have:r.zs.length<=64:=ok.lz;omega
 have c1:=λn=>zd0 r.ab r.os r.wt r.zs (by omega) n
 have c2:=λi k hi hk=>zd1 r.ab r.os r.wt r.zs i k hi hk hz
 have eR:∀i k,i<r.os.length->k<r.ab.length->nth (nth (aj r).fit i) k=qi r.ab r.os r.zs i k:=λi k hi hk=>FL r i k hi hk
 change aC Tz.prog 67 [.agg [.sl r.ab.length (aS r.ab),.sl r.os.length (aR r.os),.sl r.wt.length (a8 r.wt),.sl r.zs.length (aT r.zs)],.sl plan.length (ints plan)] _ true
 generalize hR:dh (aj r) plan=R;obtain⟨R1,R2⟩:=R;unfold dh at hR;have e1:(aj r).os.length=r.os.length:=rfl
 have eP:∀k n,ji (aj r) plan k n=if n=-1 then 0 else if ba (aU n 0 ((r.ab.length:Int)-1)) 6≠0 then ba (aU n 0 ((r.ab.length:Int)-1)) 6 else
  cX [ba (nth (nth (aj r).fit k) n.toNat) 13,ba (!((plan.take k).any λy=>decide (n=y))) 26]:=λk n=>rfl
 rw[e1] at hR;clear e1 ok;generalize hPE:ji (aj r) plan=PE at hR eP;clear hPE;generalize (aj r).fit=fit at eR eP;have kR:=keep hR;have kk:=keep (And.intro c1 (And.intro c2 (And.intro eR (And.intro eP (And.intro lo lc)))));clear hR c1 c2 eR eP lo lc hz;generalize r.ab=ab at *;generalize r.os=os at *;generalize r.wt=wt at *;generalize r.zs=zs at *;refine rcK Tz.func67 ?_;simp only[Tryz.results67,Tryz.ntmps67]
 repeat' first|(with_reducible first|apply ai|apply au|apply az|apply af|apply al|refine And.intro ?_ ?_ |  refine kZ ?_ ?_|intro _)|(simp[*])
 rotate_right
 .rename_i b1
  have a9:(plan.length:Int)=os.length:=by simpa using b1
  have kT:aN (dk PE (plan.drop 0) 0=(R1,R2)):=by
   rw[ar (λh=>h a9)] at kR;exact kR
  have kb:=keep a9;clear kR b1 a9;refine bQ (λ(k:Nat)=>k<=plan.length/\dk PE (plan.drop k) k=(R1,R2)) [1,2] (λ(k:Nat)=>[(6,.w false false (.int .i64 k))]) [0] (λ(k:Nat)=>[]) (λ(k:Nat)=>plan.length-k) (λ(_u:Unit)=>R1=0/\R2=0) [] (λ(_u:Unit)=>[]) [0] (λ(_u:Unit)=>[]) (0) ⟨aK _,kT⟩ (by simp) (by simp) (λk hk=>?_) (λ_u hf=>?_)
  .obtain⟨hk,hj⟩:=hk;clear kT;by_cases h9:k<plan.length
   .obtain⟨c1,c2,eR,eP,lo,lc⟩:=kk
    have ha:k<os.length:=by have h:(plan.length:Int)=os.length:=kb;omega
    have hh:inI .i64 ((k:Int)+1):=aG (by omega) (by omega)
    have hz:k+1<=plan.length:=by omega
    rw[dg plan k h9,dk] at hj;have c3:=zeb (plan.take k) (by rw[ia];omega) (nth plan k);rw[uS hk] at c3;generalize hn:nth plan k=n at hj c3;have c1:=c1 n;have e:=eP k n;clear eP lo lc kb;by_cases h1:n=-1
    .rw[aB h1] at e;rw[aB e] at hj;have kj:=keep hj;subst h1;clear hj e c1 c2 c3 eR
     repeat' first|(with_reducible first|apply ai|apply aF|apply au|apply aL|apply af|apply al|intro _)|(simp[*,h9,ha,hn,hh])
     all_goals first
      |omega
      |(refine nx (k+1) ?_ ?_;(· exact⟨hz,kj⟩);(refine aD ?_ ?_<;>first|trivial|(simp[*];done)))
    .rw[ar h1] at e
     cases hw:aU n 0 ((ab.length:Int)-1) with
     |false=>
      rw[hw] at c1 e;have e:PE k n=6:=e;rw[e] at hj;have kj:aN (((k:Int),(6:Int))=(R1,R2)):=hj;clear hj e hw c2 c3 eR
      repeat' first|(with_reducible first|apply ai|apply aF|apply au|apply az|apply af|refine aQ (id:=7) 7 mixed (by decide +kernel) ?_|apply al|refine And.intro ?_ ?_|refine cw (c1) ?_|intro _)|(simp[*,h9,ha,hn,h1,hh])|(refine ae (c1) ?_ ?_;(· (simp[*];done)))
      all_goals first
       |omega
       |exact (br kj).1
       |exact (br kj).2
     |true=>
      rw[hw] at c1 e;have hb:=mO.1 hw;obtain⟨m,rfl⟩:∃m:Nat,n=m:=⟨n.toNat,by omega⟩
      have hm:m<ab.length:=by omega
      have c2:=c2 k m ha hm;rw[bT,eR k m ha hm] at e;have e:PE k m=cX [ba (qi ab os zs k m) 13,ba (!((plan.take k).any λy=>decide ((m:Int)=y))) 26]:=e;have ag:¬(m:Int)=-1:=h1;clear hw hb h1 eR;generalize qi ab os zs k m=fb at *;generalize ((plan.take k).any λy=>decide ((m:Int)=y))=hb at *
      cases fb with
      |false=>
       have e:PE k m=13:=e;rw[e] at hj;have kj:aN (((k:Int),(13:Int))=(R1,R2)):=hj;clear hj e c3
       repeat' first|(with_reducible first|apply ai|apply aF|apply au|apply az|apply af|refine aQ (id:=7) 7 mixed (by decide +kernel) ?_|refine aQ (id:=9) 8 mixed (by decide +kernel) ?_|apply al|refine And.intro ?_ ?_|refine cw (c1) ?_|refine cw (c2) ?_|intro _)|(simp[*,h9,ha,hn,ag,hh])|(refine ae (c1) ?_ ?_;(· (simp[*];done)))|(refine ae (c2) ?_ ?_;(· (simp[*];done)))
       all_goals first
        |omega
        |exact (br kj).1
        |exact (br kj).2
      |true=>
       cases hb with
       |true=>
        have e:PE k m=26:=e;rw[e] at hj;have kj:aN (((k:Int),(26:Int))=(R1,R2)):=hj;clear hj e
        repeat' first|(with_reducible first|apply ai|apply aF|apply au|apply az|apply af|refine aQ (id:=7) 7 mixed (by decide +kernel) ?_|refine aQ (id:=9) 8 mixed (by decide +kernel) ?_|refine aQ (id:=11) 8 mixed (by decide +kernel) ?_|apply al|refine And.intro ?_ ?_|refine cw (c1) ?_|refine cw (c2) ?_|refine cw (c3) ?_|intro _)|(simp[*,h9,ha,hn,ag,hh])|(refine ae (c1) ?_ ?_;(· (simp[*];done)))|(refine ae (c2) ?_ ?_;(· (simp[*];done)))|(refine ae (c3) ?_ ?_;(· (simp[*];done)))
        all_goals first
         |omega
         |exact (br kj).1
         |exact (br kj).2
       |false=>
        have e:PE k m=0:=e;rw[aB e] at hj;have kj:=keep hj;clear hj e
        repeat' first|(with_reducible first|apply ai|apply aF|apply au|apply af|refine aQ (id:=7) 7 mixed (by decide +kernel) ?_|refine aQ (id:=9) 8 mixed (by decide +kernel) ?_|refine aQ (id:=11) 8 mixed (by decide +kernel) ?_|apply al|refine And.intro ?_ ?_|refine cw (c1) ?_|refine cw (c2) ?_|refine cw (c3) ?_|intro _)|(simp[*,h9,ha,hn,ag,hh])|(refine ae (c1) ?_ ?_;(· (simp[*];done)))|(refine ae (c2) ?_ ?_;(· (simp[*];done)))|(refine ae (c3) ?_ ?_;(· (simp[*];done)))
        all_goals first
         |omega
         |(refine nx (k+1) ?_ ?_;(· exact⟨hz,kj⟩);(refine aD ?_ ?_<;>first|trivial|(simp[*];done)))
   .have hx:k=plan.length:=by omega
    subst hx;rw[fg] at hj;have kj:aN (((0:Int),(0:Int))=(R1,R2)):=hj;clear hj kk kb
    repeat' first|(with_reducible first|apply ai|apply aL|apply af|apply al|intro _)|(simp[*])
    all_goals first
     |omega
     |(refine aZ () ?_ ?_;(· exact⟨(br kj).1.symm,(br kj).2.symm⟩);(refine aD ?_ ?_<;>first|trivial|(simp[*];done)))
  .obtain⟨rfl,rfl⟩:=hf;clear kk kb kT
   repeat' first|(with_reducible first|apply ai|apply az|apply af|intro _)|(simp[*])
 all_goals first
  |(rename_i b1;rw[aB (by simpa using b1)] at kR;first|exact (br kR).1|exact (br kR).2)
theorem zfx(r:Tw.RND)(ok:b9 (aj r))(plan:List Int)(hp:plan.length<100000):aC Tz.prog 27 [Tw.aM r,.sl plan.length (ints plan)] (.int .i64 (dh (aj r) plan).2) true:=by
 have c1:=zfw r ok plan hp;generalize dh (aj r) plan=R at *;clear ok;unfold Tw.aM at *;generalize r.cz=p1 at *;generalize r.osP=p2 at *;generalize r.cT=p3 at *;generalize r.zsP=p4 at *;refine rcK Tz.func27 ?_;simp only[Tryz.results27,Tryz.ntmps27]
 repeat' first|(with_reducible first|apply ai|apply az|apply af|refine And.intro ?_ ?_|refine cw (c1) ?_|intro _)|(simp[*])|(refine ae (c1) ?_ ?_;(· (simp[*];done)))
structure zb8(os:List Ord)(wt:List (List Int))(plan:List Int):Prop where
 lo:os.length<=8
 pl:plan.length=os.length
 wl:wt.length=os.length
 pr:∀i,i<os.length->0<=(nth os i).2.2.2/\(nth os i).2.2.2<=6
 wn:∀i,i<plan.length->nth plan i=-1\/(0<=nth plan i/\nth plan i<((nth wt i).length:Int)/\0<=nth (nth wt i) (nth plan i).toNat/\nth (nth wt i) (nth plan i).toNat<=100000)
theorem zec(r:Tw.RND)(ok:b9 (aj r))(plan:List Int)(h:PlanIn (aj r) plan):zb8 r.os r.wt plan:=by
 have lo:r.os.length<=8:=ok.lo;have hl:plan.length=r.os.length:=h.len;refine⟨lo,hl,ok.lw,ok.pr,λi hi=>?_⟩
 rcases h.at_ i hi with h1|⟨h1,h2⟩
 .exact .inl h1
 .have hc:nth plan i<(r.ab.length:Int):=h2;have hr:(nth r.wt i).length=r.ab.length:=ok.wr i (by show i<r.os.length;omega);have:=ok.wn i (by show i<r.os.length;omega) (nth plan i).toNat (by show _<r.ab.length;omega);exact .inr ⟨h1,by omega,this⟩
theorem zed{os:List Ord}{wt:List (List Int)}{plan:List Int}(h:zb8 os wt plan):∀k,k<=plan.length->0<=rcQ os wt plan k/\rcQ os wt plan k<=1000000000000*(k:Int)
 |0,_=>by unfold rcQ;simp
 |k+1,hk=>by
  have ih:=zed h k (by omega);have h1:=h.wn k (by omega);have h2:=h.pr k (by have:=h.pl;omega);have h3:=nz (nth os k).2.2.2.toNat (by omega);unfold rcQ;split
  .omega
  .rename_i hn;have h4:=h1.resolve_left hn;omega
theorem zee(ab:List Car)(os:List Ord)(wt:List (List Int))(zs:List Par)(plan:List Int)(h:zb8 os wt plan):aC Tz.prog 28 [.agg [.sl ab.length (aS ab),.sl os.length (aR os),.sl wt.length (a8 wt),.sl zs.length (aT zs)],.sl plan.length (ints plan)] (.int .i64 (rcS os wt plan)) true:=by
 have eS:rcS os wt plan=rcQ os wt plan plan.length:=rfl
 have eK:∀k,rcQ os wt plan (k+1)=rcQ os wt plan k+if nth plan k=-1 then bw (nth os k).2.2.2.toNat else nth (nth wt k) (nth plan k).toNat:=λ_=>rfl
 have e0:rcQ os wt plan 0=0:=rfl;have bd:=zed h;rw[eS];generalize rcQ os wt plan=K at *;obtain⟨lo,pl,wl,pr,wn⟩:=h;have kk:=keep (And.intro eK (And.intro bd (And.intro lo (And.intro pl (And.intro wl (And.intro pr wn))))));clear eS eK bd lo pl wl pr wn;refine rcK Tz.func28 ?_;simp only[Tryz.results28,Tryz.ntmps28]
 repeat' first|(with_reducible first|apply ai|apply af|intro _)|(simp[*])
 refine bQ (λ(k:Nat)=>k<=plan.length) [1,2] (λ(k:Nat)=>[(6,.w false false (.int .i64 k)),(5,.w false false (.int .i64 (K k)))]) [0] (λ(k:Nat)=>[]) (λ(k:Nat)=>plan.length-k) (λ(_u:Unit)=>True) [] (λ(_u:Unit)=>[(5,.w false false (.int .i64 (K plan.length)))]) [0] (λ(_u:Unit)=>[]) (0) (aK _) (by simp[e0]) (by simp[e0]) (λk hk=>?_) (λ_u hf=>?_)
 .clear e0;by_cases h9:k<plan.length
  .obtain⟨eK,bd,lo,pl,wl,pr,wn⟩:=kk
   have ha:k<os.length:=by omega
   have bc:k<wt.length:=by omega
   have hh:inI .i64 ((k:Int)+1):=aG (by omega) (by omega)
   have hz:k+1<=plan.length:=by omega
   have b7:(k:Int)<8:=by omega
   have b2:=bd (k+1) hz;have e:=eK k;have pr:=pr k ha;have wn:=wn k h9;obtain⟨q,hq⟩:∃q:Nat,(nth os k).2.2.2=(q:Int):=⟨(nth os k).2.2.2.toNat,by omega⟩;rw[hq,bT] at e;have c1:=GM q (by omega);generalize hn:nth plan k=n at *;clear eK bd lo pl wl;have aw:inI .i64 (K (k+1)):=aG (by omega) (by omega);clear b2 b7 pr
   rcases wn with h1|⟨h1,h2,h3,h4⟩
   .rw[aB h1] at e;subst h1;generalize bw q=pp at *;have e':=e.symm;clear e
    repeat' first|(with_reducible first|apply ai|apply aF|apply au|apply af|apply al|refine And.intro ?_ ?_|refine cw (c1) ?_|intro _)|(simp[*,h9,ha,hn,hq,e',hh,aw,Tw.cg])|(refine ae (c1) ?_ ?_;(· (simp[*];done)))
    all_goals first
     |omega
     |assumption
     |(refine nx (k+1) ?_ ?_;(· exact hz);(refine aD ?_ ?_<;>first|trivial|(simp[*];done)))
   .obtain⟨m,rfl⟩:∃m:Nat,n=m:=⟨n.toNat,by omega⟩
    have h0:¬(m:Int)=-1:=by omega
    rw[ar h0,bT] at e
    have hm:m<(nth wt k).length:=by omega
    have e':=e.symm;clear e h1 h2 h3 h4 c1
    repeat' first|(with_reducible first|apply ai|apply aF|apply au|apply af|refine aQ (id:=7) 13 mixed (by decide +kernel) ?_|apply al|intro _)|(simp[*,h9,ha,bc,hn,h0,hm,e',hh,aw])
    all_goals first
     |omega
     |assumption
     |(refine nx (k+1) ?_ ?_;(· exact hz);(refine aD ?_ ?_<;>first|trivial|(simp[*];done)))
  .have hx:k=plan.length:=by omega
   subst hx;clear kk
   repeat' first|(with_reducible first|apply ai|apply aL|apply af|apply al|intro _)|(simp[*])
   all_goals first
    |omega
    |(refine aZ () ?_ ?_;(· trivial);(refine aD ?_ ?_<;>first|trivial|(simp[*];done)))
 .clear kk
  repeat' first|(with_reducible first|apply ai|apply az|apply af|intro _)|(simp[*])
end Go.Proofs.YthpkmilhiganjaaGreat
