/- Lemmas. -/
import Derived.Test.YthpkmilhiganjaaGreatPEa
import Derived.Test.YthpkmilhiganjaaGreatPDb
import Derived.Test.YthpkmilhiganjaaGreatPLg
import Derived.Test.YthpkmilhiganjaaGreatPLf
set_option linter.all false
set_option maxHeartbeats 32000000
set_option maxRecDepth 100000
namespace Go.Proofs.YthpkmilhiganjaaGreat
open Go Go.Fi
variable[av]
theorem lV(l:List Int)(hl:l.length<100000)(g:FuncId)(aH:List PV)(p:Int->Bool)(h:∀k,k<l.length->aC Tz.prog g (.int .i64 (nth l k)::aH) (.bool (p (nth l k))) true):aC Tz.prog 124 [.sl l.length (ints l),.fn g aH] (.int .i64 (idxOf p l)) true:=by
 generalize hR:idxOf p l=R;have kR:aN (fH p l 0=R):=keep hR;clear hR;refine rcK Tz.func124 ?_;simp only[Tryz.results124,Tryz.ntmps124]
 repeat' first|(with_reducible first|apply ai|apply af|intro _)|(simp[*])
 refine bQ (λ(k:Nat)=>k<=l.length/\fH p (l.drop k) k=R) [0,1,7] (λ(k:Nat)=>[(8,.w false false (.int .i64 k))]) [] (λ(k:Nat)=>[]) (λ(k:Nat)=>l.length-k) (λ(_u:Unit)=>R=-1) [] (λ(_u:Unit)=>[]) [] (λ(_u:Unit)=>[]) (0) ⟨aK _,kR⟩ (by simp) (by simp) (λk hk=>?_) (λ_u hf=>?_)
 .obtain⟨hk,hj⟩:=hk;by_cases h5:k<l.length
  .have c1:=h k h5;have hh:=hj;rw[dg l k h5] at hh;unfold fH at hh;have kj:=keep hh;clear hj hh h
   repeat' first|(with_reducible first|apply ai|apply aF|apply au|apply az|apply af|apply al|refine And.intro ?_ ?_|refine qu ?_ ?_|refine cw (c1) ?_|intro _)|(simp[*,h5])|(refine ae (c1) ?_ ?_;(· (simp[*];done)))
   all_goals first
    |exact aG (by omega) (by omega)
    |omega
    |(rename_i hp;rw[aB hp] at kj;exact kj)
    |(rename_i hp;rw[ar (by rw[hp];decide)] at kj;(refine nx (k+1) ?_ ?_;(· exact⟨by omega,kj⟩);(refine aD ?_ ?_<;>first|trivial|(simp[*];done))))
    |skip
  .have hq:k=l.length:=by omega
   subst hq
   repeat' first|(with_reducible first|apply ai|apply aL|apply af|apply al|intro _)|(simp[*])
   all_goals (refine aZ () ?_ ?_;(· rw[<-hj,fg];rfl);(refine aD ?_ ?_<;>first|trivial|(simp[*];done)))
 .subst hf
  repeat' first|(with_reducible first|apply ai|apply az|apply af|intro _)|(simp[*])
theorem mi(l:List Int)(hl:l.length<100000)(g:FuncId)(aH:List PV)(p:Int->Bool)(h:∀k,k<l.length->aC Tz.prog g (.int .i64 (nth l k)::aH) (.bool (p (nth l k))) true):aC Tz.prog 93 [.sl l.length (ints l),.fn g aH] (.bool (l.any p)) true:=by
 have c1:=lV l hl g aH p h;have h:=rA p l;generalize idxOf p l=i at *;rw[<-h];clear h;refine rcK Tz.func93 ?_;simp only[Tryz.results93,Tryz.ntmps93]
 repeat' first|(with_reducible first|apply ai|apply az|apply af|refine And.intro ?_ ?_|refine cw (c1) ?_|intro _)|(simp[*])|(refine ae (c1) ?_ ?_;(· (simp[*];done)))
theorem ml(x:Rd)(ok:eL x)(i k:Nat)(hi:i<x.os.length)(hk:k<x.ab.length):aC Tz.prog 125 [.int .i64 i,.ip [x.pv] 0,.ip [.int .i64 k] 0] (.bool (nth (nth x.fit i) k)) true:=by
 have a2:i<x.fit.length:=by have:=ok.lf;omega
 have a3:k<(nth x.fit i).length:=by have:=ok.fr i hi;omega
 clear ok hk hi;unfold Rd.pv;refine rcK Tz.func125 ?_;simp only[Tryz.results125,Tryz.ntmps125]
 repeat' first|(with_reducible first|apply ai|apply az|apply af|refine aQ (id:=1) 11 mixed (by decide +kernel) ?_|intro _)|(simp[*,a2,a3])
def cM(x:Rd)(os:List Int)(k:Nat):Bool:=os.any λi=>nth (nth x.fit i.toNat) k
def bW(x:Rd)(os:List Int)(n:Nat):List Int:=((List.range n).filter (cM x os)).map λk=>((k:Nat):Int)
def cp(x:Rd)(os:List Int):List Int:=bW x os x.ab.length
theorem mz(x:Rd)(os:List Int)(n:Nat):bW x os (n+1)=if cM x os n then bW x os n++[(n:Int)] else bW x os n:=by
 unfold bW;rw[jN,uV,ou]
 cases h:cM x os n<;>simp[h]
theorem mC(x:Rd)(os:List Int)(n:Nat):(bW x os n).length<=n:=by
 unfold bW;rw[fI];exact bN (yi _ _) (by simp)
theorem eZ(x:Rd)(ok:eL x)(os:List Int)(hl:os.length<100000)(ho:∀i,i<os.length->0<=nth os i/\nth os i<(x.os.length:Int)):aC Tz.prog 95 [x.pv,.sl os.length (ints os)] (.sl (cp x os).length (ints (cp x os))) true:=by
 have c1:∀k,k<x.ab.length->aC Tz.prog 93 [.sl os.length (ints os),.fn 125 [.ip [x.pv] 0,.ip [.int .i64 k] 0]] (.bool (cM x os k)) true:=λk hk=>
  mi os hl 125 _ (λi=>nth (nth x.fit i.toNat) k) (λj hj=>by
   have:=ho j hj;have c:=ml x ok (nth os j).toNat k (by omega) hk;rw[show (((nth os j).toNat:Nat):Int)=nth os j by omega] at c
   exact c)
 have hc:=ok.lc;have eS:cp x os=bW x os x.ab.length:=rfl;have e0:bW x os 0=[]:=rfl;have eK:=mz x os;have hK:=mC x os;rw[eS];generalize bW x os=K at *;generalize cM x os=F at *;have kk:=keep (And.intro c1 (And.intro hc (And.intro eK hK)))
 have e1:(K 0).length=0:=by rw[e0];rfl
 have e2:iA (K 0)=[]:=by rw[e0];rfl
 clear c1 hc eK hK eS e0 ok ho;unfold Rd.pv;refine rcK Tz.func95 ?_;simp only[Tryz.results95,Tryz.ntmps95]
 repeat' first|(with_reducible first|apply ai|apply af|intro _)|(simp[*])
 refine df 2 (λ(k:Nat)=>k<=x.ab.length) [1,2,12] (λ(k:Nat)=>[(5,.msl 1 (K k).length 1 0 (K k).length),(13,.w false false (.int .i64 k))]) [0] (λ(k:Nat)=>[(1,iA (K k))]) (λ(k:Nat)=>x.ab.length-k) (λ(_u:Unit)=>True) [] (λ(_u:Unit)=>[(5,.msl 1 (K x.ab.length).length 1 0 (K x.ab.length).length)]) [] (λ(_u:Unit)=>[(1,iA (K x.ab.length))]) (0) (aK _) (aO [] (by simp[e1,e2]) (by simp[e1,e2])) (λk hk=>?_) (λ_u hf=>?_)
 .clear e1 e2;by_cases h5:k<x.ab.length
  .obtain⟨c1,hc,eK,hK⟩:=kk;have c:=c1 k h5;have e:=eK k;have h9:inI .i64 ((k:Int)+1):=aG (by omega) (by omega)
   have hz:k+1<=x.ab.length:=by omega
   have hb:=hK k
   have a7:(K k).length+1<=1000000000:=by omega
   unfold Rd.pv at c;clear c1 hc eK hK
   cases hf:F k with
   |true=>
    rw[hf] at c e;rw[aB rfl] at e
    have e3:iA (K (k+1))=iA (K k)++[.w false false (.int .i64 k)]:=by rw[e,<-eC];rfl
    have e4:(K (k+1)).length=(K k).length+1:=by rw[e];simp
    clear e hf
    repeat' first|(with_reducible first|apply ai|apply aF|apply au|apply af|apply al|refine And.intro ?_ ?_|refine cw (c) ?_|intro _)|(simp[*,h5,h9])|(refine ae (c) ?_ ?_;(· (simp[*];done)))
    all_goals first
     |omega
     |assumption
     |(refine nx (k+1) ?_ ?_;(· exact hz);(refine aO [] ?_ ?_<;>first|trivial|(simp[*,e3,e4];done)))
   |false=>
    rw[hf] at c e;rw[ar (by decide)] at e;clear hf
    repeat' first|(with_reducible first|apply ai|apply aF|apply au|apply af|apply al|refine And.intro ?_ ?_|refine cw (c) ?_|intro _)|(simp[*,h5,h9])|(refine ae (c) ?_ ?_;(· (simp[*];done)))
    all_goals first
     |omega
     |assumption
     |(refine nx (k+1) ?_ ?_;(· exact hz);(refine aO [] ?_ ?_<;>first|trivial|(simp[*,e];done)))
  .have hq:k=x.ab.length:=by omega
   subst hq;clear kk
   repeat' first|(with_reducible first|apply ai|apply aL|apply af|apply al|intro _)|(simp[*,h5])
   all_goals first
    |omega
    |(refine aZ () ?_ ?_;(· trivial);(refine aD ?_ ?_<;>first|trivial|(simp[*];done)))
 .clear kk e1 e2
  repeat' first|(with_reducible first|apply ai|apply az|apply af|intro _)|(simp[*])
end Go.Proofs.YthpkmilhiganjaaGreat
namespace Go.Proofs.YthpkmilhiganjaaGreat
open Go Go.Fi
theorem mE[av](x:Rd)(h:x.os.length<100000)(n:Int):aC Tz.prog 90 [x.pv,.int .i64 n] (.int .i64 (ba (aU n 0 ((x.os.length:Int)-1)) 6)) true:=by
 obtain⟨ab,os,wt,zs,fit⟩:=x;unfold Rd.pv;simp only[] at h ⊢;refine rcK Tz.func90 ?_;simp only[Tryz.results90,Tryz.ntmps90]
 repeat' first|(with_reducible first|apply ai|apply az|apply af|refine And.intro ?_ ?_|refine cw (fL _ _ _) ?_|refine cw (dG _ _) ?_|intro _)|(simp[*])|(refine ae (fL _ _ _) ?_ ?_;(· (simp[*];done)))|(refine ae (dG _ _) ?_ ?_;(· (simp[*];done)))
 all_goals first
  |exact aG (by omega) (by omega)
  |omega
noncomputable instance wv:av:=LD
end Go.Proofs.YthpkmilhiganjaaGreat
namespace Go.Proofs.YthpkmilhiganjaaGreat
open Go Go.Fi
variable[av]
theorem mF(n s:Int):aC Tz.prog 96 [.int .i64 n,.int .i64 s] (.fn 126 [.ip [.int .i64 s] 0,.ip [.int .i64 n] 0]) true:=by
 refine rcK Tz.func96 ?_;simp only[Tryz.results96,Tryz.ntmps96]
 repeat' first|(with_reducible first|apply ai|apply az|apply af|intro _)|(simp[*])
def bA(bad:List Int->Bool)(n:Nat):Nat->Nat->List Int->Option (List Int)
 |0,_,l=>if bad l then some l else none
 |r+1,a,l=>(List.range' a (n-a)).findSome? λi=>bA bad n r (i+1) (l++[(i:Int)])
theorem mH(bad:List Int->Bool)(n r:Nat)(l:List Int):((List.range' n (n-n)).findSome? λi=>bA bad n r (i+1) (l++[(i:Int)]))=none:=by simp
theorem dn(f:Nat->Option (List Int))(n a:Nat)(h:a<n):(List.range' a (n-a)).findSome? f=match f a with|some l=>some l|none=>(List.range' (a+1) (n-(a+1))).findSome? f:=by
 rw[show n-a=(n-(a+1))+1 by omega,IM,Je]
 cases f a<;>rfl
@[simp]theorem zd:dK Tz.prog 160=some [.w false false .undef]:=by kernel_rfl
def bd(s n:Int):List AV:=[.w false false (.ip [.int .i64 s] 0),.ptr 5 1 0,.w false false (.ip [.int .i64 n] 0),.ptr 6 1 0]
def chH(x:Rd)(lp:Nat)(s n:Int)(p1 p2:PV):ak:=
 [(6,[.fn 127 (bd s n)]),(5,[.w false false (.yl lp)]),(4,[.w false false (.int .i64 s)]),(3,[.w false false x.pv]),(2,[.w false false p2]),(1,[.w false false p1])]
section
variable(x:Rd)(lp:Nat)(s n:Int)(p1 p2:PV)
@[simp]theorem z7:bf (chH x lp s n p1 p2) 6=some [.fn 127 (bd s n)]:=rfl
@[simp]theorem Ao:bf (chH x lp s n p1 p2) 5=some [.w false false (.yl lp)]:=rfl
end
theorem mO(l m:List Int){j:Nat}(h:j<l.length):nth (l++m) j=nth l j:=by
 simp[nth,bS,om h]
theorem nn(l:List Int)(i:Int):nth (l++[i]) l.length=i:=by
 simp[nth,bS]
theorem fh(x:Rd)(bad:List Int->Bool)(N s:Nat)(hN:N<1000)(hs:s<1000)(p1 p2:PV)(ri:Go.Fi.RI)(hy:∀(l:List Int)(o f:Bool)(m:Nat)(K Kl:ak->Nat->Prop),7<=m->l.length=s->(∀j,j<l.length->0<=nth l j/\nth l j<(N:Int))->(bad l=false->K (chH x ri.l s N p1 p2) m)->(bad l=true->Kl (chH x ri.l s N (.sl l.length (ints l)) (.int .i64 0)) m)->CL Tz.prog ri [.w o f (.sl l.length (ints l))] (chH x ri.l s N p1 p2) m K Kl):∀(r a:Nat)(l:List Int)(o f:Bool)(m:Nat)(K Kd:AV->ak->Nat->Prop),7<=m->l.length+r=s->a<=N->(∀j,j<l.length->0<=nth l j/\nth l j<(N:Int))->(bA bad N r a l=none->K (.w false false (.bool true)) (chH x ri.l s N p1 p2) m)->(∀q,bA bad N r a l=some q->∀m',m<=m'->Kd (.w false false (.bool false)) (chH x ri.l s N (.sl q.length (ints q)) (.int .i64 0)) m')->dJ m ri Tz.prog (Tryz.f127.body.getD .skip) ⟨dR 0 ([.w false false (.int .i64 a),.w o f (.sl l.length (ints l))]++bd s N),chH x ri.l s N p1 p2,m,Tryz.f127.ntmps⟩ (fp Tz.prog Tryz.f127.results.toList K) (fp Tz.prog Tryz.f127.results.toList Kd)
 |0,a,l,o,f,m,K,Kd,hm,hl,ha,hr,hK,hKd=>by
  have h1:=λK Kl=>hy l o f m K Kl hm (by omega) hr
  have hK2:bad l=false->K (.w false false (.bool true)) (chH x ri.l s N p1 p2) m:=λe=>hK (by simp[bA,e])
  have hKd2:bad l=true->Kd (.w false false (.bool false)) (chH x ri.l s N (.sl l.length (ints l)) (.int .i64 0)) m:=λe=>hKd l (by simp[bA,e]) m (aE _)
  have ht:(l.length:Int)=(s:Int):=by omega
  have kk:=keep (And.intro h1 (And.intro hK2 hKd2));clear hK hKd hy h1 hK2 hKd2 hr ha;have hb:Tryz.f127.body=some _:=rfl;rw[hb];clear hb;simp only[gk,Tryz.ntmps127,Tryz.results127];refine gL (gq ?_);unfold bd
  repeat' first|(with_reducible first|apply af|intro _)|(simp[*])
  refine gL (gL (gq ?_))
  repeat' first|(with_reducible first|apply af|intro _)|(simp[*,ht])
  refine qx (o:=false) (f:=false) (b:=true) rfl ?_;simp only[cond_true];refine gL (G9 (id:=2) 2 (by decide) rfl rfl (by simp) ?_);simp;refine⟨⟨_,_,rfl⟩,?_⟩;refine kk.1 _ _ (λe=>?_) (λe=>?_)
  .have h:=keep (kk.2.1 e);clear kk
   repeat' first|(with_reducible first|intro _)|(simp[*])
   refine gq ?_
   repeat' first|(with_reducible first|apply az|intro _)|(simp[*])
   simp[dC,eX,gz,oneOf];exact h
  .have h:=keep (kk.2.2 e);clear kk
   repeat' first|(with_reducible first|apply az|intro _)|(simp[*])
   simp[dC,eX,gz,oneOf];exact h
 |r+1,a,l,o,f,m,K,Kd,hm,hl,ha,hr,hK,hKd=>by
  have ih:=λ(i:Nat)(hi:i<N)(o' f':Bool)(m':Nat)(K' h8:AV->ak->Nat->Prop)(hg:7<=m')=>
   fh x bad N s hN hs p1 p2 ri hy r (i+1) (l++[(i:Int)]) o' f' m' K' h8 hg (by simp;omega) (by omega) (λj hj=>by
    rcases dF j l.length with h|h
    .rw[mO _ _ h];exact hr j h
    .have:j=l.length:=by simp at hj;omega
     subst this
     rw[nn];omega)
  rw[show bA bad N (r+1) a l=(List.range' a (N-a)).findSome? λi=>bA bad N r (i+1) (l++[(i:Int)]) from rfl] at hK hKd;have h':=mH bad N r l;generalize hF:(λi=>bA bad N r (i+1) (l++[(i:Int)]))=F at *
  have hu:∀(i:Nat)(hi:i<N)(o' f':Bool)(m':Nat)(K' h8:AV->ak->Nat->Prop)(hg:7<=m'),(F i=none->K' (.w false false (.bool true)) (chH x ri.l s N p1 p2) m')->(∀q,F i=some q->∀m2,m'<=m2->h8 (.w false false (.bool false)) (chH x ri.l s N (.sl q.length (ints q)) (.int .i64 0)) m2) ->
   dJ m' ri Tz.prog (Tryz.f127.body.getD .skip) ⟨dR 0 ([.w false false (.int .i64 ((i:Int)+1)),.w o' f' (.sl (l.length+1) (ints l++[.int .i64 i]))]++bd s N),chH x ri.l s N p1 p2,m',Tryz.f127.ntmps⟩ (fp Tz.prog Tryz.f127.results.toList K') (fp Tz.prog Tryz.f127.results.toList h8):=by
   intro i hi o' f' m' K' h8 hg h1 h2;have h:=ih i hi o' f' m' K' h8 hg (by rw[<-hF] at h1;exact h1) (by rw[<-hF] at h2;exact h2);rw[show ((i+1:Nat):Int)=(i:Int)+1 by omega,show (l++[(i:Int)]).length=l.length+1 by simp,show ints (l++[(i:Int)])=ints l++[.int .i64 i] by simp[ints]] at h;exact h
  clear ih hF
  have hw:=λi=>dn F N i
  generalize hR:(List.range' a (N-a)).findSome? F=R at hK hKd
  have ht:¬(l.length:Int)=(s:Int):=by omega
  have a4:l.length<1000:=by omega
  have m0:0<m:=by omega
  have m1:1<m:=by omega
  have m2:2<m:=by omega
  have m3:3<m:=by omega
  have m4:4<m:=by omega
  have m5:5<m:=by omega
  have m6:6<m:=by omega
  have kk:=keep (And.intro hu (And.intro h' (And.intro hw (And.intro hK (And.intro hKd hR)))));clear hu h' hw hK hKd hR hy hr;have hb:Tryz.f127.body=some _:=rfl;rw[hb];clear hb;simp only[gk,Tryz.ntmps127,Tryz.results127];refine gL (gq ?_);unfold bd
  repeat' first|(with_reducible first|apply af|intro _)|(simp[*])
  refine gL (gL (gq ?_))
  repeat' first|(with_reducible first|apply af|intro _)|(simp[*,ht])
  refine qx (o:=false) (f:=false) (b:=false) rfl ?_;simp only[cond_false];refine gq ?_
  repeat' first|(with_reducible first|apply au|intro _)|(simp[*])
  refine gL (gL (gq ?_))
  repeat' first|(with_reducible first|apply af|intro _)|(simp[*])
  refine Bz (G8 (λi:Nat=>a<=i/\i<=N/\aN ((List.range' i (N-i)).findSome? F=R)) (λi=>⟨[(9,.w false false (.int .i64 i)),(1,.w o f (.sl l.length (ints l))),(2,.w false false (.ip [.int .i64 s] 0)),(3,.ptr 5 1 0),(4,.w false false (.ip [.int .i64 N] 0)),(5,.ptr 6 1 0)],chH x ri.l s N p1 p2,m,37⟩) (λi=>N-i) a ?_ ?_ (λi hi=>?_))
  .exact⟨aE _,ha,kk.2.2.2.2.2⟩
  .clear kk;unfold chH bd Rd.pv
   refine aO [] ?_ ?_<;>first|trivial|(simp[m0,m1,m2,m3,m4,m5,m6];done)
  obtain⟨h1,h2,h3⟩:=hi;refine gL (gL (gq ?_));by_cases h5:i<N
  .have hltI:(i:Int)<(N:Int):=by omega
   have h9:inI .i64 ((i:Int)+1):=aG (by omega) (by omega)
   repeat' first|(with_reducible first|apply af|intro _)|(simp[*,hltI])
   refine qx (o:=false) (f:=false) (b:=true) rfl ?_;simp only[cond_true];refine gq ?_
   repeat' first|(with_reducible first|apply au|intro _)|(simp[*])
   refine gL (Bz (gL (Hc (id:=6) 12 127 mixed (by decide +kernel) (by decide +kernel) Tz.func127 (by kernel_rfl) (show Tryz.f127.body=some (Tryz.f127.body.getD .skip) from rfl) rfl ?_)))
   repeat' first|(with_reducible first|refine And.intro ?_ ?_|intro _)|(simp[*,h9])
   all_goals try first|exact a4|omega
   refine BA (bd s N) rfl (di (by kernel_rfl)) (by simp) rfl ?_;refine G7 (st':=⟨dR 0 ([.w false false (.int .i64 ((i:Int)+1)),.w false false (.sl (l.length+1) (ints l++[.int .i64 i]))]++bd s N),chH x ri.l s N p1 p2,m+1,Tryz.f127.ntmps⟩) ?_ ?_
   .clear kk
    have n0:¬m=0:=by omega
    have q0:0<m+1:=by omega
    have n1:¬m=1:=by omega
    have q1:1<m+1:=by omega
    have n2:¬m=2:=by omega
    have q2:2<m+1:=by omega
    have n3:¬m=3:=by omega
    have q3:3<m+1:=by omega
    have n4:¬m=4:=by omega
    have q4:4<m+1:=by omega
    have n5:¬m=5:=by omega
    have q5:5<m+1:=by omega
    have n6:¬m=6:=by omega
    have q6:6<m+1:=by omega
    unfold chH bd Rd.pv
    refine aO [] ?_ ?_<;>first|trivial|(simp[n0,q0,n1,q1,n2,q2,n3,q3,n4,q4,n5,q5,n6,q6];done)
   refine kk.1 i h5 _ _ (m+1) _ _ (by omega) (λe=>?_) (λq e m2 a5=>?_)
   .have hj:=keep ((kk.2.2.1 i h5).symm.trans h3);rw[e] at hj;have hj:aN (List.findSome? F (List.range' (i+1) (N-(i+1)))=R):=hj;clear kk
    repeat' first|(with_reducible first|intro _)|(simp[*])
    refine qx (o:=false) (f:=false) (b:=false) rfl ?_;simp only[cond_false];refine gq ?_
    repeat' first|(with_reducible first|apply au|intro _)|(simp[*])
    refine gq ?_
    repeat' first|(with_reducible first|apply af|intro _)|(simp[*])
    refine wT _ _ _ _ _ (i+1) _ ⟨by omega,by omega,hj⟩ (by omega) ?_
    have n0:¬m=0:=by omega
    have q0:0<m+1:=by omega
    have n1:¬m=1:=by omega
    have q1:1<m+1:=by omega
    have n2:¬m=2:=by omega
    have q2:2<m+1:=by omega
    have n3:¬m=3:=by omega
    have q3:3<m+1:=by omega
    have n4:¬m=4:=by omega
    have q4:4<m+1:=by omega
    have n5:¬m=5:=by omega
    have q5:5<m+1:=by omega
    have n6:¬m=6:=by omega
    have q6:6<m+1:=by omega
    unfold chH bd Rd.pv
    refine aO [] ?_ ?_<;>first|trivial|(simp[m0,n0,q0,m1,n1,q1,m2,n2,q2,m3,n3,q3,m4,n4,q4,m5,n5,q5,m6,n6,q6];done)
   .have hj:some q=R:=by have:=(kk.2.2.1 i h5).symm.trans h3;rw[e] at this;exact this
    have h:=keep (kk.2.2.2.2.1 q hj.symm m2 (by omega));clear kk
    repeat' first|(with_reducible first|apply ai|apply az|apply af|apply al|intro _)|(simp[*])
    simp[dC,eX,gz,oneOf];exact h
  .have a1:i=N:=by omega
   subst a1
   have hltI:¬(i:Int)<(i:Int):=by omega
   repeat' first|(with_reducible first|apply af|intro _)|(simp[*,hltI])
   have hj:none=R:=kk.2.1.symm.trans h3;have h:=keep (kk.2.2.2.1 hj.symm);clear kk;refine qx (o:=false) (f:=false) (b:=false) rfl ?_;simp only[cond_false];refine gq ?_
   repeat' first|(with_reducible first|apply aL|intro _)|(simp[*])
   refine gq ?_
   repeat' first|(with_reducible first|apply ai|apply az|apply af|intro _)|(simp[*])
   simp[dC,eX,gz,oneOf];exact h
def pI(M:List (Int×Int)):List (PV×PV):=M.map λp=>(.int .i64 p.1,.int .i64 p.2)
def mI(M:List (Int×Int)):List AV:=[fR (pI M)]
@[simp]theorem tP(M:List (Int×Int)):(mI M).length=1:=rfl
@[simp]theorem Au(M:List (Int×Int))(n:Nat):AV.lt.ltL n (mI M)=true:=rfl
theorem nU(l:List (List Int))(r:List Int):bL (l++[r])=bL l++[.w true false (.sl r.length (ints r))]:=by simp[bL]
end Go.Proofs.YthpkmilhiganjaaGreat
namespace Go.Proofs.YthpkmilhiganjaaGreat
open Go Go.Fi
noncomputable instance instLD23:av:=LD
noncomputable instance Bd:av:=LD
noncomputable instance BO:av:=LD
def cm(x:Rd)(s:Nat)(l:List Int):Bool:=decide ((cp x l).length<s)
def eb(x:Rd):Option (List Int):=(List.range' 0 (x.os.length+1-0)).findSome? λs=>bA (cm x s) x.os.length s 0 []
def cr:Option (List Int)->PV
 |none=>.tup [.sl 0 [],.int .i64 12]
 |some l=>.tup [.sl l.length (ints l),.int .i64 0]
theorem nV(r:Tw.RND)(h:ceR r=0):aC Tz.prog 50 [Tw.aM r] (cr (eb (aj r))) false:=by
 have ok:=eM r h;have c1:=dI r;rw[gr r h] at c1;generalize hx:aj r=x at *;clear hx h
 have cc:=λl h1 h2=>eZ x ok l h1 h2
 have cl:=λl h1=>GP l h1
 have ch:=mF;have lo:=ok.lo;generalize hR:eb x=R;have kR:aN ((List.range' 0 (x.os.length+1-0)).findSome? (λs=>bA (cm x s) x.os.length s 0 [])=R):=hR;have kk:=keep (And.intro cc (And.intro cl (And.intro ch kR)));clear cc cl ch hR kR ok;unfold Tw.aM at *;unfold Rd.pv at c1;generalize r.cz=q1 at *;generalize r.osP=q2 at *;generalize r.cT=q3 at *;generalize r.zsP=q4 at *;refine oO Tz.func50 (by kernel_rfl) rfl (di (by kernel_rfl)) ?_;simp only[Tryz.results50,Tryz.ntmps50];refine cP (cO ?_)
 repeat' first|(with_reducible first|apply af|intro _)|(simp[*])
 refine cP (cO ?_)
 repeat' first|(with_reducible first|apply af|refine And.intro ?_ ?_|refine cw (c1) ?_|intro _)|(simp[*])|(refine ae (c1) ?_ ?_;(· (simp[*];done)))
 refine cP (cP (cO ?_))
 repeat' first|(with_reducible first|apply af|intro _)|(simp[*])
 refine oS (o:=false) (f:=false) (b:=false) rfl ?_;simp only[cond_false];refine cO ?_
 repeat' first|(with_reducible first|apply au|intro _)|(simp[*])
 refine cP (cP (cO ?_));have hv:inI .i64 ((x.os.length:Int)+1):=aG (by omega) (by omega)
 repeat' first|(with_reducible first|apply af|intro _)|(simp[*,hv])
 clear c1 hv;refine l8 (Hd (λs:Nat=>s<=x.os.length+1/\aN ((List.range' s (x.os.length+1-s)).findSome? (λs=>bA (cm x s) x.os.length s 0 [])=R)) (λs=>⟨[(23,.w false false (.int .i64 s)),(22,.w false false (.int .i64 ((x.os.length:Int)+1))),(2,.ptr 1 1 0),(3,.ptr 2 1 0),(4,.ptr 3 1 0)],[(3,[.w false false x.pv]),(2,[.w false false (.int .i64 0)]),(1,[.w false false (.sl 0 [])])],4,44⟩) (λs=>x.os.length+1-s) 0 ?_ ?_ (λs hs=>?_))
 .exact⟨aK _,kk.2.2.2⟩
 .clear kk;unfold Rd.pv
  refine aO [] ?_ ?_<;>first|trivial|(simp;done)
 obtain⟨h1,h2⟩:=hs;refine cP (cO ?_);by_cases h5:s<x.os.length+1
 .have hltI:(s:Int)<(x.os.length:Int)+1:=by omega
  repeat' first|(with_reducible first|apply af|intro _)|(simp[*,hltI])
  refine cP (oS (o:=false) (f:=false) (b:=true) rfl ?_);simp only[cond_true];refine cO ?_
  repeat' first|(with_reducible first|apply au|intro _)|(simp[*])
  refine cP (l8 (cP (cO ?_)))
  repeat' first|(with_reducible first|apply af|intro _)|(simp[*])
  refine cP (cO ?_);have c3:=kk.2.2.1 x.os.length s;unfold Rd.pv
  repeat' first|(with_reducible first|refine aQ (id:=7) 8 mixed (by decide +kernel) ?_|refine And.intro ?_ ?_|refine cw (c3) ?_|intro _)|(simp[*])|(refine ae (c3) ?_ ?_;(· (simp[*];done)))
  clear c3;refine l8 (Od (st':=⟨[(33,.w false false (.fn 126 [.ip [.int .i64 s] 0,.ip [.int .i64 x.os.length] 0])),(23,.w false false (.int .i64 s)),(22,.w false false (.int .i64 ((x.os.length:Int)+1))),(2,.ptr 1 1 0),(3,.ptr 2 1 0),(4,.ptr 3 1 0),(6,.ptr 4 1 0)],[(4,[.w false false (.int .i64 s)]),(3,[.w false false x.pv]),(2,[.w false false (.int .i64 0)]),(1,[.w false false (.sl 0 [])])],5,44⟩) ?_ (Bl (gf:=126) (aH:=[.w false false (.ip [.int .i64 s] 0),.w false false (.ip [.int .i64 x.os.length] 0)]) rfl Tz.func126 (by kernel_rfl) rfl (di (by kernel_rfl)) (λlp=>?_)))
  .clear kk;unfold Rd.pv
   refine aO [] ?_ ?_<;>first|trivial|(simp;done)
  simp only[Tryz.results126,Tryz.ntmps126];refine gL (gq ?_);unfold Rd.pv
  repeat' first|(with_reducible first|apply af|intro _)|(simp[*])
  refine gL (gq ?_)
  repeat' first|(with_reducible first|apply af|intro _)|(simp[*])
  refine gL (gq ?_)
  repeat' first|(with_reducible first|apply af|intro _)|(simp[*])
  refine Hb (id:=3) 1 127 Tz.func127 (by kernel_rfl) (show Tryz.f127.body=some (Tryz.f127.body.getD .skip) from rfl) (by decide) rfl ?_
  repeat' first|(with_reducible first|intro _)|(simp[*])
  refine BA (bd s x.os.length) rfl (di (by kernel_rfl)) (by simp) rfl ?_;refine G7 (st':=⟨dR 0 ([.w false false (.int .i64 (0:Nat)),.w false false (.sl ([]:List Int).length (ints []))]++bd s x.os.length),chH x lp s x.os.length (.sl 0 []) (.int .i64 0),7,Tryz.f127.ntmps⟩) ?_ (fh x (cm x s) x.os.length s (by omega) (by omega) (.sl 0 []) (.int .i64 0) _ ?_ s 0 [] false false 7 _ _ (aE _) (by simp) (aK _) (by simp) (λe=>?_) (λq e m2 a5=>?_))
  .clear kk;unfold chH bd Rd.pv
   refine aO [] ?_ ?_<;>first|trivial|(simp[ints];done)
  .intro l o f m K Kl hm hl hr hK hKl;have c3:=kk.1 l (by omega) hr;have c4:=kk.2.1 l (by omega);clear kk h2;unfold cm at hK hKl
   have m0:0<m:=by omega
   have m1:1<m:=by omega
   have m2:2<m:=by omega
   have m3:3<m:=by omega
   have m4:4<m:=by omega
   have m5:5<m:=by omega
   have m6:6<m:=by omega
   refine⟨rfl,by simp,?_⟩;by_cases hb:(cp x l).length<s
   .have hbI:((cp x l).length:Int)<(s:Int):=by omega
    have kK:=keep (hKl (by simp[hb]));clear hK hKl;unfold Rd.pv at c3;unfold chH bd Rd.pv
    repeat' first|(with_reducible first|apply ai|apply aF|apply az|apply af|refine aQ (id:=9) 6 mixed (by decide +kernel) ?_|apply al|refine And.intro ?_ ?_|intro _)|(simp[*,hbI])|(refine ae (c3) ?_ ?_;(· (simp[*];done)))|(refine ae (c4) ?_ ?_;(· (simp[*];done)))
    refine Gz _ _ 44 ?_ kK
    .unfold chH bd Rd.pv
     refine aO [] ?_ ?_<;>first|trivial|(simp[m0,m1,m2,m3,m4,m5,m6];done)|(simp[m0,m1,m2,m3,m4,m5,m6];omega)
   .have hbI:¬((cp x l).length:Int)<(s:Int):=by omega
    have kK:=keep (hK (by simp[hb]));clear hK hKl;unfold Rd.pv at c3;unfold chH bd Rd.pv
    repeat' first|(with_reducible first|apply ai|apply aF|apply au|apply af|refine aQ (id:=9) 6 mixed (by decide +kernel) ?_|apply al|refine And.intro ?_ ?_|intro _)|(simp[*,hbI])|(refine ae (c3) ?_ ?_;(· (simp[*];done)))
    refine Gy _ _ 44 ?_ kK
    .unfold chH bd Rd.pv
     refine aO [] ?_ ?_<;>first|trivial|(simp[m0,m1,m2,m3,m4,m5,m6];done)|(simp[m0,m1,m2,m3,m4,m5,m6];omega)
  .have hj:=keep ((dn (λs=>bA (cm x s) x.os.length s 0 []) (x.os.length+1) s h5).symm.trans h2);have h9:inI .i64 ((s:Int)+1):=aG (by omega) (by omega);rw[e] at hj;clear kk h2;unfold chH bd Rd.pv
   repeat' first|(with_reducible first|intro _)|(simp[*])
   simp[dC,eX,gz,oneOf];refine cO ?_
   repeat' first|(with_reducible first|apply af|intro _)|(simp[*,h9])
   refine wT _ _ _ _ _ (s+1) _ ⟨by omega,hj⟩ (by omega) ?_
   refine aO [] ?_ ?_<;>first|trivial|(simp;done)
  .have hj:=(dn (λs=>bA (cm x s) x.os.length s 0 []) (x.os.length+1) s h5).symm.trans h2;rw[e] at hj;have hj:some q=R:=hj;subst hj;clear kk h2;unfold chH bd Rd.pv cr
   repeat' first|(with_reducible first|intro _)|(simp[*])
   simp[dC,eX,gz,oneOf]
 .have hltI:¬(s:Int)<(x.os.length:Int)+1:=by omega
  repeat' first|(with_reducible first|apply af|intro _)|(simp[*,hltI])
  have a6:s=x.os.length+1:=by omega
  subst a6
  have hj:none=R:=by rw[<-(show _=R from h2)];simp
  subst hj;clear kk h2;refine cP (oS (o:=false) (f:=false) (b:=false) rfl ?_);simp only[cond_false];refine cO ?_;unfold cr
  repeat' first|(with_reducible first|apply aL|intro _)|(simp[*])
  refine cO ?_
  repeat' first|(with_reducible first|apply ai|apply az|apply af|intro _)|(simp[*])
end Go.Proofs.YthpkmilhiganjaaGreat
