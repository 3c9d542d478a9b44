/- Lemmas. -/
import Derived.Test.YthpkmilhiganjaaGreatPEc
set_option linter.all false
set_option maxHeartbeats 32000000
set_option maxRecDepth 100000
namespace Go.Proofs.YthpkmilhiganjaaGreat
open Go Go.Fi
noncomputable instance zep:av:=LD
def eQ(x:Rd)(s:Nat)(l:List Int):Bool:=decide ((eW x l).length<s)
def qk(x:Rd):Option (List Int):=(List.range' 0 (x.os.length+1-0)).findSome? λs=>cp (eQ x s) x.os.length s 0 []
def k7:Option (List Int)->PV
 |none=>.tup [.sl 0 [],.int .i64 12]
 |some l=>.tup [.sl l.length (ints l),.int .i64 0]
theorem zce(r:Tw.RND)(h:ceR r=0):aC Tz.prog 50 [Tw.aM r] (k7 (qk (aj r))) false:=by
 have ok:=k6 r h;have c1:=dI r;rw[gr r h] at c1;generalize hx:aj r=x at *;clear hx h
 have cc:=λl h1 h2=>BO x ok l h1 h2
 have cl:=λl h1=>GP l h1
 have ch:=zb9;have lo:=ok.lo;generalize hR:qk x=R;have kR:aN ((List.range' 0 (x.os.length+1-0)).findSome? (λs=>cp (eQ x s) x.os.length s 0 [])=R):=hR;have kk:=keep (And.intro cc (And.intro cl (And.intro ch kR)));clear cc cl ch hR kR ok;unfold Tw.aM at *;unfold Rd.pv at c1;generalize r.cz=q1 at *;generalize r.osP=q2 at *;generalize r.cT=q3 at *;generalize r.zsP=q4 at *;refine oO Tz.func50 (by kernel_rfl) rfl (di (by kernel_rfl)) ?_;simp only[Tryz.results50,Tryz.ntmps50];refine cP (cO ?_)
 repeat' first|(with_reducible first|apply af|intro _)|(simp[*])
 refine cP (cO ?_)
 repeat' first|(with_reducible first|apply af|refine And.intro ?_ ?_|refine cw (c1) ?_|intro _)|(simp[*])|(refine ae (c1) ?_ ?_;(· (simp[*];done)))
 refine cP (cP (cO ?_))
 repeat' first|(with_reducible first|apply af|intro _)|(simp[*])
 refine oS (o:=false) (f:=false) (b:=false) rfl ?_;simp only[cond_false];refine cO ?_
 repeat' first|(with_reducible first|apply au|intro _)|(simp[*])
 refine cP (cP (cO ?_));have bh:inI .i64 ((x.os.length:Int)+1):=aG (by omega) (by omega)
 repeat' first|(with_reducible first|apply af|intro _)|(simp[*,bh])
 clear c1 bh;refine l8 (Hd (λs:Nat=>s<=x.os.length+1/\aN ((List.range' s (x.os.length+1-s)).findSome? (λs=>cp (eQ x s) x.os.length s 0 [])=R)) (λs=>⟨[(23,.w false false (.int .i64 s)),(22,.w false false (.int .i64 ((x.os.length:Int)+1))),(2,.ptr 1 1 0),(3,.ptr 2 1 0),(4,.ptr 3 1 0)],[(3,[.w false false x.pv]),(2,[.w false false (.int .i64 0)]),(1,[.w false false (.sl 0 [])])],4,44⟩) (λs=>x.os.length+1-s) 0 ?_ ?_ (λs hs=>?_))
 .exact⟨aK _,kk.2.2.2⟩
 .clear kk;unfold Rd.pv
  refine aO [] ?_ ?_<;>first|trivial|(simp;done)
 obtain⟨h1,h2⟩:=hs;refine cP (cO ?_);by_cases h5:s<x.os.length+1
 .have hltI:(s:Int)<(x.os.length:Int)+1:=by omega
  repeat' first|(with_reducible first|apply af|intro _)|(simp[*,hltI])
  refine cP (oS (o:=false) (f:=false) (b:=true) rfl ?_);simp only[cond_true];refine cO ?_
  repeat' first|(with_reducible first|apply au|intro _)|(simp[*])
  refine cP (l8 (cP (cO ?_)))
  repeat' first|(with_reducible first|apply af|intro _)|(simp[*])
  refine cP (cO ?_);have c3:=kk.2.2.1 x.os.length s;unfold Rd.pv
  repeat' first|(with_reducible first|refine aQ (id:=7) 8 mixed (by decide +kernel) ?_|refine And.intro ?_ ?_|refine cw (c3) ?_|intro _)|(simp[*])|(refine ae (c3) ?_ ?_;(· (simp[*];done)))
  clear c3;refine l8 (Od (st':=⟨[(33,.w false false (.fn 126 [.ip [.int .i64 s] 0,.ip [.int .i64 x.os.length] 0])),(23,.w false false (.int .i64 s)),(22,.w false false (.int .i64 ((x.os.length:Int)+1))),(2,.ptr 1 1 0),(3,.ptr 2 1 0),(4,.ptr 3 1 0),(6,.ptr 4 1 0)],[(4,[.w false false (.int .i64 s)]),(3,[.w false false x.pv]),(2,[.w false false (.int .i64 0)]),(1,[.w false false (.sl 0 [])])],5,44⟩) ?_ (Bl (gf:=126) (aH:=[.w false false (.ip [.int .i64 s] 0),.w false false (.ip [.int .i64 x.os.length] 0)]) rfl Tz.func126 (by kernel_rfl) rfl (di (by kernel_rfl)) (λlp=>?_)))
  .clear kk;unfold Rd.pv
   refine aO [] ?_ ?_<;>first|trivial|(simp;done)
  simp only[Tryz.results126,Tryz.ntmps126];refine gL (gq ?_);unfold Rd.pv
  repeat' first|(with_reducible first|apply af|intro _)|(simp[*])
  refine gL (gq ?_)
  repeat' first|(with_reducible first|apply af|intro _)|(simp[*])
  refine gL (gq ?_)
  repeat' first|(with_reducible first|apply af|intro _)|(simp[*])
  refine Hb (id:=3) 1 127 Tz.func127 (by kernel_rfl) (show Tryz.f127.body=some (Tryz.f127.body.getD .skip) from rfl) (by decide) rfl ?_
  repeat' first|(with_reducible first|intro _)|(simp[*])
  refine BA (bO s x.os.length) rfl (di (by kernel_rfl)) (by simp) rfl ?_;refine G7 (st':=⟨dR 0 ([.w false false (.int .i64 (0:Nat)),.w false false (.sl ([]:List Int).length (ints []))]++bO s x.os.length),chH x lp s x.os.length (.sl 0 []) (.int .i64 0),7,Tryz.f127.ntmps⟩) ?_ (BP x (eQ x s) x.os.length s (by omega) (by omega) (.sl 0 []) (.int .i64 0) _ ?_ s 0 [] false false 7 _ _ (aE _) (by simp) (aK _) (by simp) (λe=>?_) (λq e m2 bi=>?_))
  .clear kk;unfold chH bO Rd.pv
   refine aO [] ?_ ?_<;>first|trivial|(simp[ints];done)
  .intro l o f m K Kl hm hl hr hK hKl;have c3:=kk.1 l (by omega) hr;have c4:=kk.2.1 l (by omega);clear kk h2;unfold eQ at hK hKl
   have m0:0<m:=by omega
   have m1:1<m:=by omega
   have m2:2<m:=by omega
   have m3:3<m:=by omega
   have m4:4<m:=by omega
   have m5:5<m:=by omega
   have m6:6<m:=by omega
   refine⟨rfl,by simp,?_⟩;by_cases hb:(eW x l).length<s
   .have hbI:((eW x l).length:Int)<(s:Int):=by omega
    have kK:=keep (hKl (by simp[hb]));clear hK hKl;unfold Rd.pv at c3;unfold chH bO Rd.pv
    repeat' first|(with_reducible first|apply ai|apply aF|apply az|apply af|refine aQ (id:=9) 6 mixed (by decide +kernel) ?_|apply al|refine And.intro ?_ ?_|intro _)|(simp[*,hbI])|(refine ae (c3) ?_ ?_;(· (simp[*];done)))|(refine ae (c4) ?_ ?_;(· (simp[*];done)))
    refine Gz _ _ 44 ?_ kK
    .unfold chH bO Rd.pv
     refine aO [] ?_ ?_<;>first|trivial|(simp[m0,m1,m2,m3,m4,m5,m6];done)|(simp[m0,m1,m2,m3,m4,m5,m6];omega)
   .have hbI:¬((eW x l).length:Int)<(s:Int):=by omega
    have kK:=keep (hK (by simp[hb]));clear hK hKl;unfold Rd.pv at c3;unfold chH bO Rd.pv
    repeat' first|(with_reducible first|apply ai|apply aF|apply au|apply af|refine aQ (id:=9) 6 mixed (by decide +kernel) ?_|apply al|refine And.intro ?_ ?_|intro _)|(simp[*,hbI])|(refine ae (c3) ?_ ?_;(· (simp[*];done)))
    refine Gy _ _ 44 ?_ kK
    .unfold chH bO Rd.pv
     refine aO [] ?_ ?_<;>first|trivial|(simp[m0,m1,m2,m3,m4,m5,m6];done)|(simp[m0,m1,m2,m3,m4,m5,m6];omega)
  .have hj:=keep ((mO (λs=>cp (eQ x s) x.os.length s 0 []) (x.os.length+1) s h5).symm.trans h2);have h':inI .i64 ((s:Int)+1):=aG (by omega) (by omega);rw[e] at hj;clear kk h2;unfold chH bO Rd.pv
   repeat' first|(with_reducible first|intro _)|(simp[*])
   simp[dC,eX,gz,oneOf];refine cO ?_
   repeat' first|(with_reducible first|apply af|intro _)|(simp[*,h'])
   refine wT _ _ _ _ _ (s+1) _ ⟨by omega,hj⟩ (by omega) ?_
   refine aO [] ?_ ?_<;>first|trivial|(simp;done)
  .have hj:=(mO (λs=>cp (eQ x s) x.os.length s 0 []) (x.os.length+1) s h5).symm.trans h2;rw[e] at hj;have hj:some q=R:=hj;subst hj;clear kk h2;unfold chH bO Rd.pv k7
   repeat' first|(with_reducible first|intro _)|(simp[*])
   simp[dC,eX,gz,oneOf]
 .have hltI:¬(s:Int)<(x.os.length:Int)+1:=by omega
  repeat' first|(with_reducible first|apply af|intro _)|(simp[*,hltI])
  have bf:s=x.os.length+1:=by omega
  subst bf
  have hj:none=R:=by rw[<-(show _=R from h2)];simp
  subst hj;clear kk h2;refine cP (oS (o:=false) (f:=false) (b:=false) rfl ?_);simp only[cond_false];refine cO ?_;unfold k7
  repeat' first|(with_reducible first|apply aL|intro _)|(simp[*])
  refine cO ?_
  repeat' first|(with_reducible first|apply ai|apply az|apply af|intro _)|(simp[*])
theorem CK{l:List Int}{v:Int}(h:v∈l):∃j,j<l.length/\nth l j=v:=by
 obtain⟨j,hj,e⟩:=yb.1 h;exact⟨j,hj,by rw[<-e];simp[nth,bS,hj]⟩
def cL(ab:List Car)(os:List Ord)(zs:List Par)(l:List Int)(k:Nat):Bool:=l.any λi=>kB ab os zs i.toNat k
def bo(ab:List Car)(os:List Ord)(zs:List Par)(l:List Int)(n:Nat):List Int:=((List.range n).filter (cL ab os zs l)).map λk=>((k:Nat):Int)
theorem CN(ab:List Car)(os:List Ord)(zs:List Par)(l:List Int)(n:Nat):bo ab os zs l (n+1)=if cL ab os zs l n then bo ab os zs l n++[(n:Int)] else bo ab os zs l n:=by
 unfold bo;rw[jN,uV,ou]
 cases h:cL ab os zs l n<;>simp[h]
theorem CO(ab:List Car)(os:List Ord)(zs:List Par)(l:List Int)(n:Nat):(bo ab os zs l n).length<=n:=by
 unfold bo;rw[fI];exact bN (yi _ _) (by simp)
theorem C1[av](r:Tw.RND)(l:List Int)(h:∀i,i<l.length->0<=nth l i/\nth l i<(r.os.length:Int)):eW (aj r) l=bo r.ab r.os r.zs l r.ab.length:=by
 unfold eW eC bo;congr 1
 refine yj λk hk=>?_
 have hk:k<r.ab.length:=gl.1 hk;unfold kJ cL;rw[iS,kE,kE];constructor
 .rintro⟨v,hv,e⟩
  obtain⟨j,hj,rfl⟩:=CK hv;have:=h j hj;exact⟨_,hv,by rw[<-qi r _ k (by omega) hk];exact e⟩
 .rintro⟨v,hv,e⟩
  obtain⟨j,hj,rfl⟩:=CK hv;have:=h j hj;exact⟨_,hv,by rw[qi r _ k (by omega) hk];exact e⟩
section
variable[av]
theorem zcf(ab:List Car)(os:List Ord)(wt:List (List Int))(zs:List Par)(l:List Int)(hl:l.length<100000)(hc:ab.length<=1000)(hz:zs.length<100000)(ho:∀i,i<l.length->0<=nth l i/\nth l i<(os.length:Int)):aC Tz.prog 54 [.agg [.sl ab.length (aS ab),.sl os.length (aR os),.sl wt.length (a8 wt),.sl zs.length (aT zs)],.sl l.length (ints l)] (.sl (bo ab os zs l ab.length).length (ints (bo ab os zs l ab.length))) true:=by
 have c1:=λi k hi hk=>PK ab os wt zs i k hi hk hz
 have e0:bo ab os zs l 0=[]:=rfl;have eK:=CN ab os zs l;have bK:=CO ab os zs l
 have eA:∀k,cL ab os zs l k=((l.drop 0).any λi=>kB ab os zs i.toNat k):=λ_=>rfl
 generalize bo ab os zs l=K at *;generalize cL ab os zs l=A at *;generalize kB ab os zs=F at *;have kk:=keep (And.intro c1 (And.intro eK (And.intro bK (And.intro eA (And.intro ho hc)))))
 have e1:(K 0).length=0:=by rw[e0];rfl
 have e2:iA (K 0)=[]:=by rw[e0];rfl
 clear c1 e0 eK bK eA ho hc hz;refine rcK Tz.func54 ?_;simp only[Tryz.results54,Tryz.ntmps54]
 repeat' first|(with_reducible first|apply ai|apply af|intro _)|(simp[*])
 refine df 2 (λ(k:Nat)=>k<=ab.length) [1,2] (λ(k:Nat)=>[(5,.msl 1 (K k).length 1 0 (K k).length),(6,.w false false (.int .i64 k))]) [0] (λ(k:Nat)=>[(1,iA (K k))]) (λ(k:Nat)=>ab.length-k) (λ(_u:Unit)=>True) [] (λ(_u:Unit)=>[(5,.msl 1 (K ab.length).length 1 0 (K ab.length).length)]) [0] (λ(_u:Unit)=>[(1,iA (K ab.length))]) (0) (aK _) (aO [] (by simp[e1,e2]) (by simp[e1,e2])) (λk hk=>?_) (λ_u hf=>?_)
 .clear e1 e2;by_cases h5:k<ab.length
  .obtain⟨c1,eK,bK,eA,ho,hc⟩:=kk;have e:=eK k;have b:=bK k;have h':inI .i64 ((k:Int)+1):=aG (by omega) (by omega)
   have hz:k+1<=ab.length:=by omega
   have bc:(K k).length+1<=1000000000:=by omega
   have a:=eA k
   obtain⟨T,t0,tS,tE⟩:∃T:Nat->Bool,T 0=false/\(∀i,i<l.length->T (i+1)=(T i || F (nth l i).toNat k))/\T l.length=A k:=by
    refine⟨λi=>(l.take i).any λi=>F i.toNat k,by simp,λi hi=>?_,by rw[a];simp⟩;show (l.take (i+1)).any _=_;rw[sV hi,List.any_append];simp[nth,bS,hi]
   have kq:=keep (And.intro (λi hi=>c1 i k hi h5) (And.intro ho tS));clear c1 eK bK eA a ho hc b tS;generalize A k=Ak at *
   repeat' first|(with_reducible first|apply ai|apply aF|apply au|apply af|apply al|intro _)|(simp[*,h5])
   refine bQ (λ(i:Nat)=>i<=l.length) [1,2,5,6] (λ(i:Nat)=>[(8,.w false false (.int .i64 i)),(7,.w false false (.bool (T i)))]) [0,1] (λ(i:Nat)=>[]) (λ(i:Nat)=>l.length-i) (λ(_u:Unit)=>True) [1,2,5,6] (λ(_u:Unit)=>[(7,.w false false (.bool (T l.length)))]) [0,1] (λ(_u:Unit)=>[]) (0) (aK _) (by simp[t0]) (by simp[t0]) (λi hk=>?_) (λ_u hf=>?_)
   .by_cases ao:i<l.length
    .obtain⟨c1,ho,tS⟩:=kq;have b6:inI .i64 ((i:Int)+1):=aG (by omega) (by omega)
     have bb:i+1<=l.length:=by omega
     have tS:=tS i ao;have ho:=ho i ao;obtain⟨q,hq⟩:∃q:Nat,nth l i=(q:Int):=⟨(nth l i).toNat,by omega⟩;have c1:=c1 q (by omega);rw[hq,bT] at tS;clear e ho
     cases hT:T i with
     |true=>
      rw[hT] at tS;have tS:T (i+1)=true:=tS
      repeat' first|(with_reducible first|apply ai|apply iV|apply au|apply af|refine aQ (id:=9) 10 mixed (by decide +kernel) ?_|apply al|intro _)|(simp[*,h5,ao,hT,b6,hq])
      all_goals first
       |omega
       |assumption
       |(refine nx (i+1) ?_ ?_;(· exact bb);(refine aD ?_ ?_<;>first|trivial|(simp[*,tS];done)))
     |false=>
      rw[hT] at tS;have tS:T (i+1)=F q k:=tS;generalize F q k=fb at *
      repeat' first|(with_reducible first|apply ai|apply iV|apply au|apply af|refine aQ (id:=9) 10 mixed (by decide +kernel) ?_|apply al|refine And.intro ?_ ?_|refine cw (c1) ?_|intro _)|(simp[*,h5,ao,hT,b6,hq])|(refine ae (c1) ?_ ?_;(· (simp[*];done)))
      all_goals first
       |omega
       |assumption
       |(refine nx (i+1) ?_ ?_;(· exact bb);(refine aD ?_ ?_<;>first|trivial|(simp[*,tS];done)))
    .have hg:i=l.length:=by omega
     subst hg;clear kq e
     repeat' first|(with_reducible first|apply ai|apply aL|apply af|apply al|intro _)|(simp[*,ao])
     all_goals first
      |omega
      |(refine aZ () ?_ ?_;(· trivial);(refine aD ?_ ?_<;>first|trivial|(simp[*];done)))
   .clear kq t0
    cases Ak with
    |true=>
     simp only[aX] at e
     have e3:iA (K (k+1))=iA (K k)++[.w false false (.int .i64 k)]:=by rw[e,<-rL];rfl
     have e4:(K (k+1)).length=(K k).length+1:=by rw[e];simp
     clear e
     repeat' first|(with_reducible first|apply ai|apply af|apply al|intro _)|(simp[*,h5,h',tE])
     all_goals first
      |omega
      |assumption
      |(refine nx (k+1) ?_ ?_;(· exact hz);(refine aO [] ?_ ?_<;>first|trivial|(simp[*,e3,e4];done)))
    |false=>
     simp only[bI,a9] at e
     repeat' first|(with_reducible first|apply ai|apply au|apply af|apply al|intro _)|(simp[*,h5,h',tE])
     all_goals first
      |omega
      |assumption
      |(refine nx (k+1) ?_ ?_;(· exact hz);(refine aO [] ?_ ?_<;>first|trivial|(simp[*,e];done)))
  .have hg:k=ab.length:=by omega
   subst hg;clear kk
   repeat' first|(with_reducible first|apply ai|apply aL|apply af|apply al|intro _)|(simp[*,h5])
   all_goals first
    |omega
    |(refine aZ () ?_ ?_;(· trivial);(refine aD ?_ ?_<;>first|trivial|(simp[*];done)))
 .clear kk e1 e2
  repeat' first|(with_reducible first|apply ai|apply az|apply af|intro _)|(simp[*])
  all_goals first|omega|trivial
def kC(no:Nat)(l:List Int)(k:Nat)(n:Int):Int:=if aU n 0 ((no:Int)-1)=false then 6 else if k≠0/\n<=nth l (k-1) then 9 else 0
def cC(no:Nat)(l:List Int):Int:=(dk (kC no l) l 0).2
theorem zdr(ab:List Car)(os:List Ord)(wt:List (List Int))(zs:List Par)(l:List Int)(hl:l.length<100000)(ho:os.length<100000):aC Tz.prog 53 [.agg [.sl ab.length (aS ab),.sl os.length (aR os),.sl wt.length (a8 wt),.sl zs.length (aT zs)],.sl l.length (ints l)] (.int .i64 (cC os.length l)) true:=by
 have c1:=λn=>BF ab os wt zs ho n
 unfold cC
 have eE:∀k n,kC os.length l k n=if aU n 0 ((os.length:Int)-1)=false then 6 else if k≠0/\n<=nth l (k-1) then 9 else 0:=λ_ _=>rfl
 generalize kC os.length l=E at *;generalize hR:(dk E l 0).2=R;have kR:aN ((dk E (l.drop 0) 0).2=R):=hR;have kk:=keep (And.intro c1 eE);clear hR c1 eE ho;refine rcK Tz.func53 ?_;simp only[Tryz.results53,Tryz.ntmps53]
 repeat' first|(with_reducible first|apply ai|apply af|intro _)|(simp[*])
 refine bQ (λ(k:Nat)=>k<=l.length/\(dk E (l.drop k) k).2=R) [1,2] (λ(k:Nat)=>[(5,.w false false (.int .i64 k))]) [0] (λ(k:Nat)=>[]) (λ(k:Nat)=>l.length-k) (λ(_u:Unit)=>R=0) [] (λ(_u:Unit)=>[]) [0] (λ(_u:Unit)=>[]) (0) ⟨aK _,kR⟩ (by simp) (by simp) (λk hk=>?_) (λ_u hf=>?_)
 .obtain⟨hk,hj⟩:=hk;clear kR;by_cases h5:k<l.length
  .obtain⟨c1,eE⟩:=kk;have h':inI .i64 ((k:Int)+1):=aG (by omega) (by omega)
   have hz:k+1<=l.length:=by omega
   rw[dg l k h5,dk] at hj;have e:=eE k (nth l k);have c1:=c1 (nth l k);clear eE
   cases hw:aU (nth l k) 0 ((os.length:Int)-1) with
   |false=>
    rw[hw] at e c1;have e:E k (nth l k)=6:=e;rw[e] at hj;have hR:(6:Int)=R:=hj;subst hR;clear hj e hw
    repeat' first|(with_reducible first|apply ai|apply aF|apply au|apply az|apply af|refine aQ (id:=4) 7 mixed (by decide +kernel) ?_|apply al|refine And.intro ?_ ?_|refine cw (c1) ?_|intro _)|(simp[*,h5,h'])|(refine ae (c1) ?_ ?_;(· (simp[*];done)))
    all_goals first|omega|assumption
   |true=>
    rw[hw,ar (by decide)] at e;rw[hw] at c1;clear hw;by_cases h0:k=0
    .subst h0;have e:E 0 (nth l 0)=0:=e;rw[aB e] at hj;have kj:=keep hj;clear hj e
     repeat' first|(with_reducible first|apply ai|apply aF|apply au|apply af|refine aQ (id:=4) 7 mixed (by decide +kernel) ?_|refine aQ (id:=6) 14 mixed (by decide +kernel) ?_|apply al|refine And.intro ?_ ?_|refine cw (c1) ?_|intro _)|(simp[*,h5,h'])|(refine ae (c1) ?_ ?_;(· (simp[*];done)))
     all_goals first
      |omega
      |assumption
      |(refine nx (0+1) ?_ ?_;(· exact⟨hz,kj⟩);(refine aD ?_ ?_<;>first|trivial|(simp[*];done)))
    .obtain⟨m,rfl⟩:∃m,k=m+1:=⟨k-1,by omega⟩
     have hm:m<l.length:=by omega
     have ag:((m+1:Nat):Int)-1=(m:Int):=by omega
     have b':(0:Int)<((m+1:Nat):Int):=by omega
     have a':inI .i64 (m:Int):=aG (by omega) (by omega);rw[show m+1-1=m from rfl] at e;by_cases hle:nth l (m+1)<=nth l m
     .rw[aB ⟨h0,hle⟩] at e;rw[e] at hj;have hR:(9:Int)=R:=hj;subst hR;clear hj e h0
      repeat' first|(with_reducible first|apply ai|apply aF|apply au|apply az|apply aL|apply af|refine aQ (id:=4) 7 mixed (by decide +kernel) ?_|refine aQ (id:=6) 14 mixed (by decide +kernel) ?_|apply al|refine And.intro ?_ ?_|refine fz ?_ ?_|refine cw (c1) ?_|intro _)|(simp[*,h5,hm,ag,b',h',a',hle])|(refine ae (c1) ?_ ?_;(· (simp[*];done)))
      all_goals first|omega|assumption
     .rw[ar (λh=>hle h.2)] at e;rw[aB e] at hj;have kj:=keep hj;clear hj e h0
      repeat' first|(with_reducible first|apply ai|apply aF|apply au|apply aL|apply af|refine aQ (id:=4) 7 mixed (by decide +kernel) ?_|refine aQ (id:=6) 14 mixed (by decide +kernel) ?_|apply al|refine And.intro ?_ ?_|refine fz ?_ ?_|refine cw (c1) ?_|intro _)|(simp[*,h5,hm,ag,b',h',a',hle])|(refine ae (c1) ?_ ?_;(· (simp[*];done)))
      all_goals first
       |omega
       |assumption
       |(refine nx (m+1+1) ?_ ?_;(· exact⟨hz,kj⟩);(refine aD ?_ ?_<;>first|trivial|(simp[*];done)))
  .have hg:k=l.length:=by omega
   subst hg
   have kj:aN (R=0):=by
    rw[fg] at hj;exact hj.symm
   clear hj kk
   repeat' first|(with_reducible first|apply ai|apply aL|apply af|apply al|intro _)|(simp[*,h5])
   all_goals first
    |omega
    |(refine aZ () ?_ ?_;(· exact kj);(refine aD ?_ ?_<;>first|trivial|(simp[*];done)))
 .subst hf;clear kk kR
  repeat' first|(with_reducible first|apply ai|apply az|apply af|intro _)|(simp[*])
theorem zcg{no:Nat}{l:List Int}(h:cC no l=0):∀i,i<l.length->0<=nth l i/\nth l i<(no:Int):=λi hi=>by
 have:=lU h i hi;rw[cY] at this;unfold kC at this;split at this
 .exact absurd this (by decide)
 .rename_i hw;have:=ic.1 (by simpa using hw);omega
end
noncomputable instance zes:av:=LD
noncomputable def chS(r:Tw.RND)(l:List Int):Int:=if cC r.os.length l≠0 then cC r.os.length l else if (l.length:Int)<=(bo r.ab r.os r.zs l r.ab.length).length then 20 else 0
noncomputable def chP(r:Tw.RND)(l:List Int):PV:=if chS r l≠0 then .tup [.sl 0 [],.int .i64 (chS r l)] else .tup [.sl (bo r.ab r.os r.zs l r.ab.length).length (ints (bo r.ab r.os r.zs l r.ab.length)),.int .i64 0]
theorem zch(r:Tw.RND)(l:List Int)(hl:l.length<100000)(h:ceR r=0):aC Tz.prog 49 [Tw.aM r,.sl l.length (ints l)] (chP r l) true:=by
 have ok:=k6 r h;have c1:=dI r;rw[gr r h] at c1
 have c2:=λn=>zb8 (aj r) (by have:=ok.lo;omega) n
 have c3:cC r.os.length l=0->aC Tz.prog 95 [(aj r).pv,.sl l.length (ints l)] (.sl (bo r.ab r.os r.zs l r.ab.length).length (ints (bo r.ab r.os r.zs l r.ab.length))) true:=λh0=>by
  have hin:=zcg h0;have:=BO (aj r) ok l hl hin
  rwa [C1 r l hin] at this
 have e1:(aj r).os.length=r.os.length:=rfl;rw[e1] at c2
 have P1:∀e,cC r.os.length l=e->e≠0->chP r l=.tup [.sl 0 [],.int .i64 e]:=λe h1 h2=>by
  subst h1;unfold chP chS;rw[aB h2,aB h2]
 have P2:cC r.os.length l=0->(l.length:Int)<=(bo r.ab r.os r.zs l r.ab.length).length->chP r l=.tup [.sl 0 [],.int .i64 20]:=λh1 h2=>by
  have hn:¬(cC r.os.length l≠0):=λh=>h h1
  unfold chP chS;rw[ar hn,aB h2,aB (by decide)]
 have P3:cC r.os.length l=0->¬(l.length:Int)<=(bo r.ab r.os r.zs l r.ab.length).length->chP r l=.tup [.sl (bo r.ab r.os r.zs l r.ab.length).length (ints (bo r.ab r.os r.zs l r.ab.length)),.int .i64 0]:=λh1 h2=>by
  have hn:¬(cC r.os.length l≠0):=λh=>h h1
  unfold chP chS;rw[ar hn,ar h2,ar (λh=>h rfl)]
 have eE:∀k n,kC r.os.length l k n=if aU n 0 ((r.os.length:Int)-1)=false then 6 else if k≠0/\n<=nth l (k-1) then 9 else 0:=λ_ _=>rfl
 have eS:cC r.os.length l=(dk (kC r.os.length l) (l.drop 0) 0).2:=rfl;generalize kC r.os.length l=E at *;generalize chP r l=P at *;generalize cC r.os.length l=R at *;have kR:aN ((dk E (l.drop 0) 0).2=R):=eS.symm;generalize hN:r.os.length=N at *;generalize bo r.ab r.os r.zs l r.ab.length=C at *;have hP:=And.intro P1 (And.intro P2 P3);clear P1 P2 P3;have kk:=keep (And.intro c2 (And.intro c3 (And.intro eE hP)));clear c2 c3 eE eS e1 ok h hN hP;generalize aj r=x at *;unfold Rd.pv at *;unfold Tw.aM at *;generalize r.cz=p1 at *;generalize r.osP=p2 at *;generalize r.cT=p3 at *;generalize r.zsP=p4 at *;refine rcK Tz.func49 ?_;simp only[Tryz.results49,Tryz.ntmps49]
 repeat' first|(with_reducible first|apply ai|apply au|apply af|apply al|refine And.intro ?_ ?_|refine cw (c1) ?_|intro _)|(simp[*])|(refine ae (c1) ?_ ?_;(· (simp[*];done)))
 clear c1;refine bQ (λ(k:Nat)=>k<=l.length/\(dk E (l.drop k) k).2=R) [1,6,20,21] (λ(k:Nat)=>[(22,.w false false (.int .i64 k))]) [0] (λ(k:Nat)=>[]) (λ(k:Nat)=>l.length-k) (λ(_u:Unit)=>R=0) [1,6] (λ(_u:Unit)=>[]) [0] (λ(_u:Unit)=>[]) (0) ⟨aK _,kR⟩ (by simp) (by simp) (λk hk=>?_) (λ_u hf=>?_)
 .obtain⟨hk,hj⟩:=hk;clear kR;by_cases h5:k<l.length
  .obtain⟨c1,c3,eE,hP⟩:=kk;clear c3;have h':inI .i64 ((k:Int)+1):=aG (by omega) (by omega)
   have hz:k+1<=l.length:=by omega
   rw[dg l k h5,dk] at hj;have e:=eE k (nth l k);have c1:=c1 (nth l k);clear eE
   have u:=λb=>dG b 9
   cases hw:aU (nth l k) 0 ((N:Int)-1) with
   |false=>
    rw[hw] at e c1;have e:E k (nth l k)=6:=e;rw[e] at hj;have hR:(6:Int)=R:=hj;subst hR;obtain rfl:=hP.1 6 rfl (by decide);have c1:aC Tz.prog _ _ (.int .i64 6) true:=c1;clear hP
    have f:∀z:Int,aC Tz.prog 70 [.sl 2 [.int .i64 6,.int .i64 z]] (.int .i64 6) true:=λz=>jV 6 z
    clear hj e hw;by_cases h0:k=0
    .subst h0
     repeat' first|(with_reducible first|apply ai|apply aF|apply au|apply az|apply af|apply al|refine And.intro ?_ ?_|refine cw (c1) ?_|refine cw (u _) ?_|refine cw (f _) ?_|intro _)|(simp[*,h5,h'])|(refine ae (c1) ?_ ?_;(· (simp[*];done)))|(refine ae (u _) ?_ ?_;(· (simp[*];done)))|(refine ae (f _) ?_ ?_;(· (simp[*];done)))
     all_goals first|omega|assumption
    .obtain⟨m,rfl⟩:∃m,k=m+1:=⟨k-1,by omega⟩
     have hm:m<l.length:=by omega
     have ag:((m+1:Nat):Int)-1=(m:Int):=by omega
     have aw:¬(m:Int)+1=0:=by omega
     have a':inI .i64 (m:Int):=aG (by omega) (by omega)
     have ax:(if 0<m then (m:Int) else 0)=(m:Int):=by split<;>omega
     clear h0
     repeat' first|(with_reducible first|apply ai|apply aF|apply au|apply az|apply aL|apply af|apply al|refine And.intro ?_ ?_|refine fz ?_ ?_|refine cw (c1) ?_|refine cw (u _) ?_|refine cw (f _) ?_|intro _)|(simp[*,h5,hm,ag,aw,ax,h',a'])|(refine ae (c1) ?_ ?_;(· (simp[*];done)))|(refine ae (u _) ?_ ?_;(· (simp[*];done)))|(refine ae (f _) ?_ ?_;(· (simp[*];done)))
     all_goals first|omega|assumption
   |true=>
    rw[hw,ar (by decide)] at e;rw[hw] at c1;have c1:aC Tz.prog _ _ (.int .i64 0) true:=c1;clear hw;by_cases h0:k=0
    .subst h0;have e:E 0 (nth l 0)=0:=e;rw[aB e] at hj;have kj:=keep hj;have u1:=u true;rw[show ba true 9=0 from rfl] at u1;have f:=jV 0 0;rw[show cX [0,0]=0 from rfl] at f;clear hj e hP u
     repeat' first|(with_reducible first|apply ai|apply aF|apply au|apply af|apply al|refine And.intro ?_ ?_|refine cw (c1) ?_|refine cw (u1) ?_|refine cw (f) ?_|intro _)|(simp[*,h5,h'])|(refine ae (c1) ?_ ?_;(· (simp[*];done)))|(refine ae (u1) ?_ ?_;(· (simp[*];done)))|(refine ae (f) ?_ ?_;(· (simp[*];done)))
     all_goals first
      |omega
      |assumption
      |(refine nx (0+1) ?_ ?_;(· exact⟨hz,kj⟩);(refine aD ?_ ?_<;>first|trivial|(simp[*];done)))
    .obtain⟨m,rfl⟩:∃m,k=m+1:=⟨k-1,by omega⟩
     have hm:m<l.length:=by omega
     have ag:((m+1:Nat):Int)-1=(m:Int):=by omega
     have aw:¬(m:Int)+1=0:=by omega
     have a':inI .i64 (m:Int):=aG (by omega) (by omega)
     have ax:(if 0<m then (m:Int) else 0)=(m:Int):=by split<;>omega
     rw[show m+1-1=m from rfl] at e;by_cases hle:nth l (m+1)<=nth l m
     .rw[aB ⟨h0,hle⟩] at e;rw[e] at hj;have hR:(9:Int)=R:=hj;subst hR;obtain rfl:=hP.1 9 rfl (by decide);clear hP
      have aa:¬nth l m<nth l (m+1):=by omega
      have u1:=u false;rw[show ba false 9=9 from rfl] at u1;have f:=jV 0 9;rw[show cX [0,9]=9 from rfl] at f;clear hj e h0 u hle
      repeat' first|(with_reducible first|apply ai|apply aF|apply au|apply az|apply aL|apply af|apply al|refine And.intro ?_ ?_|refine fz ?_ ?_|refine cw (c1) ?_|refine cw (u1) ?_|refine cw (f) ?_|intro _)|(simp[*,h5,hm,ag,aw,ax,h',a',aa])|(refine ae (c1) ?_ ?_;(· (simp[*];done)))|(refine ae (u1) ?_ ?_;(· (simp[*];done)))|(refine ae (f) ?_ ?_;(· (simp[*];done)))
      all_goals first|omega|assumption
     .rw[ar (λh=>hle h.2)] at e;rw[aB e] at hj;have kj:=keep hj
      have aa:nth l m<nth l (m+1):=by omega
      have u1:=u true;rw[show ba true 9=0 from rfl] at u1;have f:=jV 0 0;rw[show cX [0,0]=0 from rfl] at f;clear hj e h0 hP u hle
      repeat' first|(with_reducible first|apply ai|apply aF|apply au|apply aL|apply af|apply al|refine And.intro ?_ ?_|refine fz ?_ ?_|refine cw (c1) ?_|refine cw (u1) ?_|refine cw (f) ?_|intro _)|(simp[*,h5,hm,ag,aw,ax,h',a',aa])|(refine ae (c1) ?_ ?_;(· (simp[*];done)))|(refine ae (u1) ?_ ?_;(· (simp[*];done)))|(refine ae (f) ?_ ?_;(· (simp[*];done)))
      all_goals first
       |omega
       |assumption
       |(refine nx (m+1+1) ?_ ?_;(· exact⟨hz,kj⟩);(refine aD ?_ ?_<;>first|trivial|(simp[*];done)))
  .have hg:k=l.length:=by omega
   subst hg
   have kj:aN (R=0):=by
    rw[fg] at hj;exact hj.symm
   clear hj kk
   repeat' first|(with_reducible first|apply ai|apply aL|apply af|apply al|intro _)|(simp[*,h5])
   all_goals first
    |omega
    |(refine aZ () ?_ ?_;(· exact kj);(refine aD ?_ ?_<;>first|trivial|(simp[*];done)))
 .subst hf;obtain⟨_,c3,_,hP⟩:=kk;have c3:=c3 rfl;clear kR;by_cases hle:(l.length:Int)<=(C.length:Int)
  .obtain rfl:=hP.2.1 rfl hle;clear hP
   repeat' first|(with_reducible first|apply ai|apply az|apply af|apply al|refine And.intro ?_ ?_|refine cw (c3) ?_|intro _)|(simp[*,hle])|(refine ae (c3) ?_ ?_;(· (simp[*];done)))
   all_goals first|omega|assumption
  .obtain rfl:=hP.2.2 rfl hle;clear hP
   repeat' first|(with_reducible first|apply ai|apply au|apply az|apply af|apply al|refine And.intro ?_ ?_|refine cw (c3) ?_|intro _)|(simp[*,hle])|(refine ae (c3) ?_ ?_;(· (simp[*];done)))
   all_goals first|omega|assumption
section
variable[av]
def bR(n:Nat):Nat->Nat->List Int->List (List Int)
 |0,_,l=>[l]
 |r+1,a,l=>(List.range' a (n-a)).flatMap λi=>bR n r (i+1) (l++[(i:Int)])
theorem C3(bad:List Int->Bool)(n:Nat):∀(r a:Nat)(l:List Int),cp bad n r a l=(bR n r a l).find? bad
 |0,_,l=>by
  unfold cp bR
  cases h:bad l<;>simp[h]
 |r+1,a,l=>by
  unfold cp bR;rw[List.find?_flatMap];congr 1
  funext i
  exact C3 bad n r (i+1) (l++[(i:Int)])
theorem zci:∀m,m<5->∀s,s<5->(bR m s 0 []).length<=6:=by decide
theorem zcj:∀m,m<5->∀s,s<5->((bR m s 0 []).all λl=>decide (l.length=s)&&l.all λv=>decide (0<=v)&&decide (v<(m:Int)))=true:=by decide
theorem nU{m s:Nat}(hm:m<5)(hs:s<5){l:List Int}(h:l∈bR m s 0 []):l.length=s/\∀i,i<l.length->0<=nth l i/\nth l i<(m:Int):=by
 have:=eh.1 (zcj m hm s hs) l h;rw[bU,decide_eq_true_eq,eh] at this;refine⟨this.1,λi hi=>?_⟩;have:=this.2 _ (eJ hi)
 rwa [bU,decide_eq_true_eq,decide_eq_true_eq] at this
def cN(m v:Nat):Nat->List Int
 |0=>[]
 |k+1=>if v / 2 ^ (m-1-k)%2=1 then cN m v k++[(k:Int)] else cN m v k
def ej(s m:Nat):Nat->List (List Int)
 |0=>[]
 |j+1=>if (cN m (2 ^ m-1-j) m).length=s then ej s m j++[cN m (2 ^ m-1-j) m] else ej s m j
theorem C4(m v:Nat):∀k,(cN m v k).length<=k
 |0=>aE _
 |k+1=>by have:=C4 m v k;unfold cN;split<;>simp<;>omega
theorem C5(s m:Nat):∀j,(ej s m j).length<=j
 |0=>aE _
 |j+1=>by have:=C5 s m j;unfold ej;split<;>simp<;>omega
theorem zck(m s:Nat)(h1:1<=s)(h2:s<=m)(h3:m<=4):ej s m (2 ^ m)=bR m s 0 []:=by
 obtain⟨rfl,rfl⟩|⟨rfl,rfl⟩|⟨rfl,rfl⟩|⟨rfl,rfl⟩|⟨rfl,rfl⟩|⟨rfl,rfl⟩|⟨rfl,rfl⟩|⟨rfl,rfl⟩|⟨rfl,rfl⟩|⟨rfl,rfl⟩:(m=1/\s=1)\/(m=2/\s=1)\/(m=2/\s=2)\/(m=3/\s=1)\/(m=3/\s=2)\/(m=3/\s=3)\/(m=4/\s=1)\/(m=4/\s=2)\/(m=4/\s=3)\/(m=4/\s=4):=by omega
 all_goals decide +kernel
theorem zcl(s m N:Nat)(hs:s<100)(hN:(m=1/\N=2)\/(m=2/\N=4)\/(m=3/\N=8)\/(m=4/\N=16)):aC Tz.prog 98 [.int .i64 s,.int .i64 m] (.sl (ej s m N).length (nV (ej s m N))) true:=by
 have e2:2 ^ m=N:=by rcases hN with ⟨rfl,rfl⟩|⟨rfl,rfl⟩|⟨rfl,rfl⟩|⟨rfl,rfl⟩<;>rfl
 have hp:(2:Int) ^ m=(N:Int):=by rcases hN with ⟨rfl,rfl⟩|⟨rfl,rfl⟩|⟨rfl,rfl⟩|⟨rfl,rfl⟩<;>rfl
 have hm:m<=4/\N<=16/\1<=N:=by omega
 have eK:∀j,ej s m (j+1)=if (cN m (N-1-j) m).length=s then ej s m j++[cN m (N-1-j) m] else ej s m j:=λj=>by rw[<-e2];rfl
 have bK:=C5 s m
 have eB:∀v k,cN m v (k+1)=if v / 2 ^ (m-1-k)%2=1 then cN m v k++[(k:Int)] else cN m v k:=λ_ _=>rfl
 have bB:=C4 m;have e0:ej s m 0=[]:=rfl
 have b0:∀v,cN m v 0=[]:=λ_=>rfl
 clear e2 hN;generalize ej s m=K at *;generalize cN m=B at *;have kk:=keep (And.intro eK (And.intro bK (And.intro eB (And.intro bB (And.intro b0 hm)))))
 have z1:(K 0).length=0:=by rw[e0];rfl
 have z2:cH (K 0)=[]:=by rw[e0];rfl
 have b4:inI .i64 (N:Int):=aG (by omega) (by omega);have b5:inI .i64 ((N:Int)-1):=aG (by omega) (by omega)
 have b7:(m:Int)<64:=by omega
 clear eK bK eB bB e0 b0 hm;refine rcK Tz.func98 ?_;simp only[Tryz.results98,Tryz.ntmps98]
 repeat' first|(with_reducible first|apply ai|apply af|intro _)|(simp[*,hp,b4,b5,b7])
 all_goals try first|omega|assumption
 clear hp b4 b5 b7;refine df 1 (λ(j:Nat)=>j<=N) [0,1] (λ(j:Nat)=>[(5,.msl 0 (K j).length 1 0 (K j).length),(6,.w false false (.int .i64 ((N:Int)-1-(j:Int))))]) [] (λ(j:Nat)=>[(0,cH (K j))]) (λ(j:Nat)=>N-j) (λ(_u:Unit)=>True) [] (λ(_u:Unit)=>[(5,.msl 0 (K N).length 1 0 (K N).length)]) [] (λ(_u:Unit)=>[(0,cH (K N))]) (0) (aK _) (aO [] (by simp[z1,z2]) (by simp[z1,z2])) (λj hk=>?_) (λ_u hf=>?_)
 .clear z1 z2;by_cases h5:j<N
  .obtain⟨eK,bK,eB,bB,b0,hm⟩:=kk;obtain⟨v,hv⟩:∃v,N-1-j=v:=⟨_,rfl⟩
   have hvI:(N:Int)-1-(j:Int)=(v:Int):=by omega
   have bg:(0:Int)<=(v:Int):=by omega
   have aq:(v:Int)-1=(N:Int)-1-((j:Int)+1):=by omega
   have h':inI .i64 ((N:Int)-1-((j:Int)+1)):=aG (by omega) (by omega)
   have hz:j+1<=N:=by omega
   have h8:v<16:=by omega
   have e:=eK j;rw[hv] at e;have b:=bK j
   have l9:(K j).length+1<=1000000000:=by omega
   have y1:(B v 0).length=0:=by rw[b0];rfl
   have y2:iA (B v 0)=[]:=by rw[b0];rfl
   have kq:=keep (And.intro (eB v) (And.intro (bB v) (And.intro hm h8)));have ke:=keep (And.intro e (And.intro hz (And.intro aq (And.intro h' (And.intro l9 (And.intro hs (And.intro (bB v m) hm)))))));clear eK bK eB bB b0 hm hv b e hz aq h' h8 l9 hs
   repeat' first|(with_reducible first|apply ai|apply aF|apply au|apply af|apply al|intro _)|(simp[*,hvI,bg])
   refine df 2 (λ(k:Nat)=>k<=m) [0,1,5,6] (λ(k:Nat)=>[(8,.w false false (.int .i64 k)),(7,.msl 1 (B v k).length 1 0 (B v k).length)]) [0] (λ(k:Nat)=>[(1,iA (B v k))]) (λ(k:Nat)=>m-k) (λ(_u:Unit)=>True) [0,1,5,6] (λ(_u:Unit)=>[(7,.msl 1 (B v m).length 1 0 (B v m).length)]) [0] (λ(_u:Unit)=>[(1,iA (B v m))]) (0) (aK _) (aO [] (by simp[y1,y2]) (by simp[y1,y2])) (λk hk=>?_) (λ_u hf=>?_)
   .clear y1 y2 ke;by_cases a5:k<m
    .obtain⟨eB,bB,hm,h8⟩:=kq;have e:=eB k;have b:=bB k;have a6:inI .i64 ((k:Int)+1):=aG (by omega) (by omega);have ha:inI .i64 ((m:Int)-1):=aG (by omega) (by omega)
     have a7:k+1<=m:=by omega
     have b9:(B v k).length+1<=1000000000:=by omega
     obtain⟨d,hd⟩:∃d,m-1-k=d:=⟨_,rfl⟩;rw[hd] at e
     have hdI:(m:Int)-1-(k:Int)=(d:Int):=by omega
     have hh:inI .i64 (d:Int):=aG (by omega) (by omega)
     have ay:d=0\/d=1\/d=2\/d=3:=by omega
     clear eB bB hm hd b;by_cases hb:v / 2 ^ d%2=1
     .rw[aB hb] at e
      have e3:iA (B v (k+1))=iA (B v k)++[.w false false (.int .i64 k)]:=by rw[e,<-rL];rfl
      have e4:(B v (k+1)).length=(B v k).length+1:=by rw[e];simp
      clear e
      rcases ay with rfl|rfl|rfl|rfl
      .have hbI:(v:Int)%2=1:=by have h:v / 1%2=1:=hb;omega
       have hdI:(m:Int)-1-(k:Int)=0:=hdI
       have h9:(v:Int)<4294967296:=by omega
       clear hb h8
       repeat' first|(with_reducible first|apply ai|apply aF|apply au|apply af|apply al|refine And.intro ?_ ?_|intro _)|(simp[*,a5,a6,ha,hdI,hh,hbI,h9])
       all_goals first|omega|assumption|(clear hdI hbI h9 hh ha;(refine nx (k+1) ?_ ?_;(· exact a7);(refine aO [] ?_ ?_<;>first|trivial|(simp[*,e3,e4];done))))
      .have hbI:(v:Int) / 2%2=1:=by have h:v / 2%2=1:=hb;omega
       have hdI:(m:Int)-1-(k:Int)=1:=hdI
       have h9:(v:Int) / 2<4294967296:=by omega
       have a4:(0:Int)<=(v:Int) / 2:=by omega
       clear hb h8
       repeat' first|(with_reducible first|apply ai|apply aF|apply au|apply af|apply al|refine And.intro ?_ ?_|intro _)|(simp[*,a5,a6,ha,hdI,hh,hbI,h9,a4])
       all_goals first|omega|assumption|(clear hdI hbI h9 hh ha;(refine nx (k+1) ?_ ?_;(· exact a7);(refine aO [] ?_ ?_<;>first|trivial|(simp[*,e3,e4];done))))
      .have hbI:(v:Int) / 4%2=1:=by have h:v / 4%2=1:=hb;omega
       have hdI:(m:Int)-1-(k:Int)=2:=hdI
       have h9:(v:Int) / 4<4294967296:=by omega
       have a4:(0:Int)<=(v:Int) / 4:=by omega
       clear hb h8
       repeat' first|(with_reducible first|apply ai|apply aF|apply au|apply af|apply al|refine And.intro ?_ ?_|intro _)|(simp[*,a5,a6,ha,hdI,hh,hbI,h9,a4])
       all_goals first|omega|assumption|(clear hdI hbI h9 hh ha;(refine nx (k+1) ?_ ?_;(· exact a7);(refine aO [] ?_ ?_<;>first|trivial|(simp[*,e3,e4];done))))
      .have hbI:(v:Int) / 8%2=1:=by have h:v / 8%2=1:=hb;omega
       have hdI:(m:Int)-1-(k:Int)=3:=hdI
       have h9:(v:Int) / 8<4294967296:=by omega
       have a4:(0:Int)<=(v:Int) / 8:=by omega
       clear hb h8
       repeat' first|(with_reducible first|apply ai|apply aF|apply au|apply af|apply al|refine And.intro ?_ ?_|intro _)|(simp[*,a5,a6,ha,hdI,hh,hbI,h9,a4])
       all_goals first|omega|assumption|(clear hdI hbI h9 hh ha;(refine nx (k+1) ?_ ?_;(· exact a7);(refine aO [] ?_ ?_<;>first|trivial|(simp[*,e3,e4];done))))
     .rw[ar hb] at e
      rcases ay with rfl|rfl|rfl|rfl
      .have hbI:(v:Int)%2=0:=by have h:¬v / 1%2=1:=hb;omega
       have hdI:(m:Int)-1-(k:Int)=0:=hdI
       have h9:(v:Int)<4294967296:=by omega
       clear hb h8
       repeat' first|(with_reducible first|apply ai|apply aF|apply au|apply af|apply al|refine And.intro ?_ ?_|intro _)|(simp[*,a5,a6,ha,hdI,hh,hbI,h9])
       all_goals first|omega|assumption|(clear hdI hbI h9 hh ha;(refine nx (k+1) ?_ ?_;(· exact a7);(refine aO [] ?_ ?_<;>first|trivial|(simp[*,e];done))))
      .have hbI:(v:Int) / 2%2=0:=by have h:¬v / 2%2=1:=hb;omega
       have hdI:(m:Int)-1-(k:Int)=1:=hdI
       have h9:(v:Int) / 2<4294967296:=by omega
       have a4:(0:Int)<=(v:Int) / 2:=by omega
       clear hb h8
       repeat' first|(with_reducible first|apply ai|apply aF|apply au|apply af|apply al|refine And.intro ?_ ?_|intro _)|(simp[*,a5,a6,ha,hdI,hh,hbI,h9,a4])
       all_goals first|omega|assumption|(clear hdI hbI h9 hh ha;(refine nx (k+1) ?_ ?_;(· exact a7);(refine aO [] ?_ ?_<;>first|trivial|(simp[*,e];done))))
      .have hbI:(v:Int) / 4%2=0:=by have h:¬v / 4%2=1:=hb;omega
       have hdI:(m:Int)-1-(k:Int)=2:=hdI
       have h9:(v:Int) / 4<4294967296:=by omega
       have a4:(0:Int)<=(v:Int) / 4:=by omega
       clear hb h8
       repeat' first|(with_reducible first|apply ai|apply aF|apply au|apply af|apply al|refine And.intro ?_ ?_|intro _)|(simp[*,a5,a6,ha,hdI,hh,hbI,h9,a4])
       all_goals first|omega|assumption|(clear hdI hbI h9 hh ha;(refine nx (k+1) ?_ ?_;(· exact a7);(refine aO [] ?_ ?_<;>first|trivial|(simp[*,e];done))))
      .have hbI:(v:Int) / 8%2=0:=by have h:¬v / 8%2=1:=hb;omega
       have hdI:(m:Int)-1-(k:Int)=3:=hdI
       have h9:(v:Int) / 8<4294967296:=by omega
       have a4:(0:Int)<=(v:Int) / 8:=by omega
       clear hb h8
       repeat' first|(with_reducible first|apply ai|apply aF|apply au|apply af|apply al|refine And.intro ?_ ?_|intro _)|(simp[*,a5,a6,ha,hdI,hh,hbI,h9,a4])
       all_goals first|omega|assumption|(clear hdI hbI h9 hh ha;(refine nx (k+1) ?_ ?_;(· exact a7);(refine aO [] ?_ ?_<;>first|trivial|(simp[*,e];done))))
    .have hg:k=m:=by omega
     subst hg;clear kq
     repeat' first|(with_reducible first|apply ai|apply aL|apply af|apply al|intro _)|(simp[*,a5])
     all_goals first
      |omega
      |(refine aZ () ?_ ?_;(· trivial);(refine aO [] ?_ ?_<;>first|trivial|(simp[*];done)))
   .clear y1 y2 kq;obtain⟨e,hz,aq,h',l9,hs,bd,hm⟩:=ke;generalize B v m=Bm at *
    have bc:Bm.length<100000:=by omega
    clear hm bd;by_cases hb:Bm.length=s
    .rw[aB hb] at e;have e6:=zcd (K j) Bm;rw[<-e] at e6
     have e7:(K (j+1)).length=(K j).length+1:=by rw[e];simp
     have hbI:(Bm.length:Int)=(s:Int):=by omega
     clear e hs
     repeat' first|(with_reducible first|apply ai|apply af|apply al|intro _)|(simp[*,hbI,h'])
     all_goals first|omega|assumption|(refine nx (j+1) ?_ ?_;(· exact hz);(refine aO [1] ?_ ?_<;>first|trivial|(simp[*,e6,e7,aq];done)))
    .rw[ar hb] at e
     have hbI:¬(Bm.length:Int)=(s:Int):=by omega
     clear hb hs
     repeat' first|(with_reducible first|apply ai|apply au|apply af|apply al|intro _)|(simp[*,hbI,h'])
     all_goals first|omega|assumption|(refine nx (j+1) ?_ ?_;(· exact hz);(refine aO [1] ?_ ?_<;>first|trivial|(simp[*,e,aq];done)))
  .have hg:j=N:=by omega
   subst hg
   have hn:¬(0:Int)<=(j:Int)-1-(j:Int):=by omega
   clear kk
   repeat' first|(with_reducible first|apply ai|apply aF|apply au|apply aL|apply af|apply al|refine fz ?_ ?_|intro _)|(simp[*,hn])
   all_goals first
    |omega
    |(refine aZ () ?_ ?_;(· trivial);(refine aO [] ?_ ?_<;>first|trivial|(simp[*];done)))
 .clear z1 z2 kk
  repeat' first|(with_reducible first|apply ai|apply az|apply af|intro _)|(simp[*])
  all_goals first|omega|trivial
theorem zcm(s m:Nat)(h1:1<=s)(h2:s<=m)(h3:m<=4):aC Tz.prog 98 [.int .i64 s,.int .i64 m] (.sl (bR m s 0 []).length (a8 (bR m s 0 []))) true:=by
 have h:=zcl s m (2 ^ m) (by omega) (by
  obtain rfl|rfl|rfl|rfl:m=1\/m=2\/m=3\/m=4:=by omega
  all_goals decide)
 rw[zck m s h1 h2 h3] at h;exact h
def ql(ab:List Car)(os:List Ord)(zs:List Par)(s:Nat)(l:List Int):Bool:=decide ((bo ab os zs l ab.length).length<s)
def kF(ab:List Car)(os:List Ord)(zs:List Par):Option (List Int):=(List.range' 1 (os.length+1-1)).findSome? λs=>(bR os.length s 0 []).find? (ql ab os zs s)
theorem C6{α β:Type}{f g:α->Option β}:∀{l:List α},(∀x∈l,f x=g x)->l.findSome? f=l.findSome? g
 |[],_=>rfl
 |x::l,h=>by
  rw[Je,Je,h x fO,C6 λy hy=>h y (dm _ hy)]
theorem C7{α:Type}{f g:α->Bool}:∀{l:List α},(∀x∈l,f x=g x)->l.find? f=l.find? g
 |[],_=>rfl
 |x::l,h=>by
  rw[Jg,Jg,h x fO,C7 λy hy=>h y (dm _ hy)]
theorem zcn(r:Tw.RND)(h4:r.os.length<=4):qk (aj r)=kF r.ab r.os r.zs:=by
 have e1:(aj r).os.length=r.os.length:=rfl;unfold qk kF;rw[e1,mO _ _ _ (by omega)]
 have e0:cp (eQ (aj r) 0) r.os.length 0 0 []=none:=by
  unfold cp eQ;rw[ar];simp
 rw[e0];show List.findSome? _ (List.range' 1 (r.os.length+1-1))=_
 refine C6 λs hs=>?_
 have hs:s<5:=by
  rw[Dk] at hs;omega
 rw[C3]
 refine C7 λl hl=>?_
 unfold eQ ql;rw[C1 r l (nU (by omega) hs hl).2]
end
noncomputable instance zeu:av:=LD
end Go.Proofs.YthpkmilhiganjaaGreat
