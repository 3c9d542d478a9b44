/- Lemmas. -/
import Derived.Test.YthpkmilhiganjaaGreatPEb
set_option linter.all false
set_option maxHeartbeats 32000000
set_option maxRecDepth 100000
namespace Go.Proofs.YthpkmilhiganjaaGreat
open Go Go.Fi
theorem ft{l:List Int}{v:Int}(h:v∈l):∃j,j<l.length/\nth l j=v:=by
 obtain⟨j,hj,e⟩:=yb.1 h;exact⟨j,hj,by rw[<-e];simp[nth,bS,hj]⟩
def cN(ab:List Car)(os:List Ord)(zs:List Par)(l:List Int)(k:Nat):Bool:=l.any λi=>cL ab os zs i.toNat k
def ah(ab:List Car)(os:List Ord)(zs:List Par)(l:List Int)(n:Nat):List Int:=((List.range n).filter (cN ab os zs l)).map λk=>((k:Nat):Int)
theorem oc(ab:List Car)(os:List Ord)(zs:List Par)(l:List Int)(n:Nat):ah ab os zs l (n+1)=if cN ab os zs l n then ah ab os zs l n++[(n:Int)] else ah ab os zs l n:=by
 unfold ah;rw[jN,uV,ou]
 cases h:cN ab os zs l n<;>simp[h]
theorem eF(ab:List Car)(os:List Ord)(zs:List Par)(l:List Int)(n:Nat):(ah ab os zs l n).length<=n:=by
 unfold ah;rw[fI];exact bN (yi _ _) (by simp)
theorem ic[av](r:Tw.RND)(l:List Int)(h:∀i,i<l.length->0<=nth l i/\nth l i<(r.os.length:Int)):cp (aj r) l=ah r.ab r.os r.zs l r.ab.length:=by
 unfold cp bW ah;congr 1
 refine yj λk hk=>?_
 have hk:k<r.ab.length:=gl.1 hk;unfold cM cN;rw[iS,kE,kE];constructor
 .rintro⟨v,hv,e⟩
  obtain⟨j,hj,rfl⟩:=ft hv;have:=h j hj;exact⟨_,hv,by rw[<-kH r _ k (by omega) hk];exact e⟩
 .rintro⟨v,hv,e⟩
  obtain⟨j,hj,rfl⟩:=ft hv;have:=h j hj;exact⟨_,hv,by rw[kH r _ k (by omega) hk];exact e⟩
section
variable[av]
theorem kg(ab:List Car)(os:List Ord)(wt:List (List Int))(zs:List Par)(l:List Int)(hl:l.length<100000)(hc:ab.length<=1000)(hz:zs.length<100000)(ho:∀i,i<l.length->0<=nth l i/\nth l i<(os.length:Int)):aC Tz.prog 54 [.agg [.sl ab.length (aS ab),.sl os.length (aR os),.sl wt.length (a8 wt),.sl zs.length (aT zs)],.sl l.length (ints l)] (.sl (ah ab os zs l ab.length).length (ints (ah ab os zs l ab.length))) true:=by
 have c1:=λi k hi hk=>lu ab os wt zs i k hi hk hz
 have e0:ah ab os zs l 0=[]:=rfl;have eK:=oc ab os zs l;have bK:=eF ab os zs l
 have eA:∀k,cN ab os zs l k=((l.drop 0).any λi=>cL ab os zs i.toNat k):=λ_=>rfl
 generalize ah ab os zs l=K at *;generalize cN ab os zs l=A at *;generalize cL ab os zs=F at *;have kk:=keep (And.intro c1 (And.intro eK (And.intro bK (And.intro eA (And.intro ho hc)))))
 have e1:(K 0).length=0:=by rw[e0];rfl
 have e2:iA (K 0)=[]:=by rw[e0];rfl
 clear c1 e0 eK bK eA ho hc hz;refine rcK Tz.func54 ?_;simp only[Tryz.results54,Tryz.ntmps54]
 repeat' first|(with_reducible first|apply ai|apply af|intro _)|(simp[*])
 refine df 2 (λ(k:Nat)=>k<=ab.length) [1,2] (λ(k:Nat)=>[(5,.msl 1 (K k).length 1 0 (K k).length),(6,.w false false (.int .i64 k))]) [0] (λ(k:Nat)=>[(1,iA (K k))]) (λ(k:Nat)=>ab.length-k) (λ(_u:Unit)=>True) [] (λ(_u:Unit)=>[(5,.msl 1 (K ab.length).length 1 0 (K ab.length).length)]) [0] (λ(_u:Unit)=>[(1,iA (K ab.length))]) (0) (aK _) (aO [] (by simp[e1,e2]) (by simp[e1,e2])) (λk hk=>?_) (λ_u hf=>?_)
 .clear e1 e2;by_cases h5:k<ab.length
  .obtain⟨c1,eK,bK,eA,ho,hc⟩:=kk;have e:=eK k;have b:=bK k;have h':inI .i64 ((k:Int)+1):=aG (by omega) (by omega)
   have hz:k+1<=ab.length:=by omega
   have b5:(K k).length+1<=1000000000:=by omega
   have a:=eA k
   obtain⟨T,t0,tS,tE⟩:∃T:Nat->Bool,T 0=false/\(∀i,i<l.length->T (i+1)=(T i || F (nth l i).toNat k))/\T l.length=A k:=by
    refine⟨λi=>(l.take i).any λi=>F i.toNat k,by simp,λi hi=>?_,by rw[a];simp⟩;show (l.take (i+1)).any _=_;rw[sV hi,List.any_append];simp[nth,bS,hi]
   have kq:=keep (And.intro (λi hi=>c1 i k hi h5) (And.intro ho tS));clear c1 eK bK eA a ho hc b tS;generalize A k=Ak at *
   repeat' first|(with_reducible first|apply ai|apply aF|apply au|apply af|apply al|intro _)|(simp[*,h5])
   refine bQ (λ(i:Nat)=>i<=l.length) [1,2,5,6] (λ(i:Nat)=>[(8,.w false false (.int .i64 i)),(7,.w false false (.bool (T i)))]) [0,1] (λ(i:Nat)=>[]) (λ(i:Nat)=>l.length-i) (λ(_u:Unit)=>True) [1,2,5,6] (λ(_u:Unit)=>[(7,.w false false (.bool (T l.length)))]) [0,1] (λ(_u:Unit)=>[]) (0) (aK _) (by simp[t0]) (by simp[t0]) (λi hk=>?_) (λ_u hf=>?_)
   .by_cases hr:i<l.length
    .obtain⟨c1,ho,tS⟩:=kq;have a6:inI .i64 ((i:Int)+1):=aG (by omega) (by omega)
     have aa:i+1<=l.length:=by omega
     have tS:=tS i hr;have ho:=ho i hr;obtain⟨q,hq⟩:∃q:Nat,nth l i=(q:Int):=⟨(nth l i).toNat,by omega⟩;have c1:=c1 q (by omega);rw[hq,bT] at tS;clear e ho
     cases hT:T i with
     |true=>
      rw[hT] at tS;have tS:T (i+1)=true:=tS
      repeat' first|(with_reducible first|apply ai|apply iV|apply au|apply af|refine aQ (id:=9) 10 mixed (by decide +kernel) ?_|apply al|intro _)|(simp[*,h5,hr,hT,a6,hq])
      all_goals first
       |omega
       |assumption
       |(refine nx (i+1) ?_ ?_;(· exact aa);(refine aD ?_ ?_<;>first|trivial|(simp[*,tS];done)))
     |false=>
      rw[hT] at tS;have tS:T (i+1)=F q k:=tS;generalize F q k=fb at *
      repeat' first|(with_reducible first|apply ai|apply iV|apply au|apply af|refine aQ (id:=9) 10 mixed (by decide +kernel) ?_|apply al|refine And.intro ?_ ?_|refine cw (c1) ?_|intro _)|(simp[*,h5,hr,hT,a6,hq])|(refine ae (c1) ?_ ?_;(· (simp[*];done)))
      all_goals first
       |omega
       |assumption
       |(refine nx (i+1) ?_ ?_;(· exact aa);(refine aD ?_ ?_<;>first|trivial|(simp[*,tS];done)))
    .have hg:i=l.length:=by omega
     subst hg;clear kq e
     repeat' first|(with_reducible first|apply ai|apply aL|apply af|apply al|intro _)|(simp[*,hr])
     all_goals first
      |omega
      |(refine aZ () ?_ ?_;(· trivial);(refine aD ?_ ?_<;>first|trivial|(simp[*];done)))
   .clear kq t0
    cases Ak with
    |true=>
     simp only[aX] at e
     have e3:iA (K (k+1))=iA (K k)++[.w false false (.int .i64 k)]:=by rw[e,<-eC];rfl
     have e4:(K (k+1)).length=(K k).length+1:=by rw[e];simp
     clear e
     repeat' first|(with_reducible first|apply ai|apply af|apply al|intro _)|(simp[*,h5,h',tE])
     all_goals first
      |omega
      |assumption
      |(refine nx (k+1) ?_ ?_;(· exact hz);(refine aO [] ?_ ?_<;>first|trivial|(simp[*,e3,e4];done)))
    |false=>
     simp only[bI,a9] at e
     repeat' first|(with_reducible first|apply ai|apply au|apply af|apply al|intro _)|(simp[*,h5,h',tE])
     all_goals first
      |omega
      |assumption
      |(refine nx (k+1) ?_ ?_;(· exact hz);(refine aO [] ?_ ?_<;>first|trivial|(simp[*,e];done)))
  .have hg:k=ab.length:=by omega
   subst hg;clear kk
   repeat' first|(with_reducible first|apply ai|apply aL|apply af|apply al|intro _)|(simp[*,h5])
   all_goals first
    |omega
    |(refine aZ () ?_ ?_;(· trivial);(refine aD ?_ ?_<;>first|trivial|(simp[*];done)))
 .clear kk e1 e2
  repeat' first|(with_reducible first|apply ai|apply az|apply af|intro _)|(simp[*])
  all_goals first|omega|trivial
def cH(no:Nat)(l:List Int)(k:Nat)(n:Int):Int:=if aU n 0 ((no:Int)-1)=false then 6 else if k≠0/\n<=nth l (k-1) then 9 else 0
def bo(no:Nat)(l:List Int):Int:=(dk (cH no l) l 0).2
theorem od(ab:List Car)(os:List Ord)(wt:List (List Int))(zs:List Par)(l:List Int)(hl:l.length<100000)(ho:os.length<100000):aC Tz.prog 53 [.agg [.sl ab.length (aS ab),.sl os.length (aR os),.sl wt.length (a8 wt),.sl zs.length (aT zs)],.sl l.length (ints l)] (.int .i64 (bo os.length l)) true:=by
 have c1:=λn=>eQ ab os wt zs ho n
 unfold bo
 have eE:∀k n,cH os.length l k n=if aU n 0 ((os.length:Int)-1)=false then 6 else if k≠0/\n<=nth l (k-1) then 9 else 0:=λ_ _=>rfl
 generalize cH os.length l=E at *;generalize hR:(dk E l 0).2=R;have kR:aN ((dk E (l.drop 0) 0).2=R):=hR;have kk:=keep (And.intro c1 eE);clear hR c1 eE ho;refine rcK Tz.func53 ?_;simp only[Tryz.results53,Tryz.ntmps53]
 repeat' first|(with_reducible first|apply ai|apply af|intro _)|(simp[*])
 refine bQ (λ(k:Nat)=>k<=l.length/\(dk E (l.drop k) k).2=R) [1,2] (λ(k:Nat)=>[(5,.w false false (.int .i64 k))]) [0] (λ(k:Nat)=>[]) (λ(k:Nat)=>l.length-k) (λ(_u:Unit)=>R=0) [] (λ(_u:Unit)=>[]) [0] (λ(_u:Unit)=>[]) (0) ⟨aK _,kR⟩ (by simp) (by simp) (λk hk=>?_) (λ_u hf=>?_)
 .obtain⟨hk,hj⟩:=hk;clear kR;by_cases h5:k<l.length
  .obtain⟨c1,eE⟩:=kk;have h':inI .i64 ((k:Int)+1):=aG (by omega) (by omega)
   have hz:k+1<=l.length:=by omega
   rw[dg l k h5,dk] at hj;have e:=eE k (nth l k);have c1:=c1 (nth l k);clear eE
   cases hw:aU (nth l k) 0 ((os.length:Int)-1) with
   |false=>
    rw[hw] at e c1;have e:E k (nth l k)=6:=e;rw[e] at hj;have hR:(6:Int)=R:=hj;subst hR;clear hj e hw
    repeat' first|(with_reducible first|apply ai|apply aF|apply au|apply az|apply af|refine aQ (id:=4) 7 mixed (by decide +kernel) ?_|apply al|refine And.intro ?_ ?_|refine cw (c1) ?_|intro _)|(simp[*,h5,h'])|(refine ae (c1) ?_ ?_;(· (simp[*];done)))
    all_goals first|omega|assumption
   |true=>
    rw[hw,ar (by decide)] at e;rw[hw] at c1;clear hw;by_cases h0:k=0
    .subst h0;have e:E 0 (nth l 0)=0:=e;rw[aB e] at hj;have kj:=keep hj;clear hj e
     repeat' first|(with_reducible first|apply ai|apply aF|apply au|apply af|refine aQ (id:=4) 7 mixed (by decide +kernel) ?_|refine aQ (id:=6) 14 mixed (by decide +kernel) ?_|apply al|refine And.intro ?_ ?_|refine cw (c1) ?_|intro _)|(simp[*,h5,h'])|(refine ae (c1) ?_ ?_;(· (simp[*];done)))
     all_goals first
      |omega
      |assumption
      |(refine nx (0+1) ?_ ?_;(· exact⟨hz,kj⟩);(refine aD ?_ ?_<;>first|trivial|(simp[*];done)))
    .obtain⟨m,rfl⟩:∃m,k=m+1:=⟨k-1,by omega⟩
     have hm:m<l.length:=by omega
     have a4:((m+1:Nat):Int)-1=(m:Int):=by omega
     have b4:(0:Int)<((m+1:Nat):Int):=by omega
     have a2:inI .i64 (m:Int):=aG (by omega) (by omega);rw[show m+1-1=m from rfl] at e;by_cases hle:nth l (m+1)<=nth l m
     .rw[aB ⟨h0,hle⟩] at e;rw[e] at hj;have hR:(9:Int)=R:=hj;subst hR;clear hj e h0
      repeat' first|(with_reducible first|apply ai|apply aF|apply au|apply az|apply aL|apply af|refine aQ (id:=4) 7 mixed (by decide +kernel) ?_|refine aQ (id:=6) 14 mixed (by decide +kernel) ?_|apply al|refine And.intro ?_ ?_|refine fz ?_ ?_|refine cw (c1) ?_|intro _)|(simp[*,h5,hm,a4,b4,h',a2,hle])|(refine ae (c1) ?_ ?_;(· (simp[*];done)))
      all_goals first|omega|assumption
     .rw[ar (λh=>hle h.2)] at e;rw[aB e] at hj;have kj:=keep hj;clear hj e h0
      repeat' first|(with_reducible first|apply ai|apply aF|apply au|apply aL|apply af|refine aQ (id:=4) 7 mixed (by decide +kernel) ?_|refine aQ (id:=6) 14 mixed (by decide +kernel) ?_|apply al|refine And.intro ?_ ?_|refine fz ?_ ?_|refine cw (c1) ?_|intro _)|(simp[*,h5,hm,a4,b4,h',a2,hle])|(refine ae (c1) ?_ ?_;(· (simp[*];done)))
      all_goals first
       |omega
       |assumption
       |(refine nx (m+1+1) ?_ ?_;(· exact⟨hz,kj⟩);(refine aD ?_ ?_<;>first|trivial|(simp[*];done)))
  .have hg:k=l.length:=by omega
   subst hg
   have kj:aN (R=0):=by
    rw[fg] at hj;exact hj.symm
   clear hj kk
   repeat' first|(with_reducible first|apply ai|apply aL|apply af|apply al|intro _)|(simp[*,h5])
   all_goals first
    |omega
    |(refine aZ () ?_ ?_;(· exact kj);(refine aD ?_ ?_<;>first|trivial|(simp[*];done)))
 .subst hf;clear kk kR
  repeat' first|(with_reducible first|apply ai|apply az|apply af|intro _)|(simp[*])
theorem km{no:Nat}{l:List Int}(h:bo no l=0):∀i,i<l.length->0<=nth l i/\nth l i<(no:Int):=λi hi=>by
 have:=dS h i hi;rw[cY] at this;unfold cH at this;split at this
 .exact absurd this (by decide)
 .rename_i hw;have:=cE.1 (by simpa using hw);omega
end
noncomputable instance CO:av:=LD
theorem ot(r:Tw.RND)(l:List Int)(h:ceR r≠0):aC Tz.prog 49 [Tw.aM r,.sl l.length (ints l)] (.tup [.sl 0 [],.int .i64 (ceR r)]) true:=by
 have c1:=dI r;rw[k8 r h] at c1;generalize ceR r=e at *;unfold Tw.aM at *;generalize r.cz=p1 at *;generalize r.osP=p2 at *;generalize r.cT=p3 at *;generalize r.zsP=p4 at *;refine rcK Tz.func49 ?_;simp only[Tryz.results49,Tryz.ntmps49]
 repeat' first|(with_reducible first|apply ai|apply az|apply af|apply al|refine And.intro ?_ ?_|refine cw (c1) ?_|intro _)|(simp[*,h])|(refine ae (c1) ?_ ?_;(· (simp[*];done)))
 all_goals first|omega
noncomputable def chS(r:Tw.RND)(l:List Int):Int:=if bo r.os.length l≠0 then bo r.os.length l else if (l.length:Int)<=(ah r.ab r.os r.zs l r.ab.length).length then 20 else 0
noncomputable def chP(r:Tw.RND)(l:List Int):PV:=if chS r l≠0 then .tup [.sl 0 [],.int .i64 (chS r l)] else .tup [.sl (ah r.ab r.os r.zs l r.ab.length).length (ints (ah r.ab r.os r.zs l r.ab.length)),.int .i64 0]
theorem pe(r:Tw.RND)(l:List Int)(hl:l.length<100000)(h:ceR r=0):aC Tz.prog 49 [Tw.aM r,.sl l.length (ints l)] (chP r l) true:=by
 have ok:=eM r h;have c1:=dI r;rw[gr r h] at c1
 have c2:=λn=>mE (aj r) (by have:=ok.lo;omega) n
 have c3:bo r.os.length l=0->aC Tz.prog 95 [(aj r).pv,.sl l.length (ints l)] (.sl (ah r.ab r.os r.zs l r.ab.length).length (ints (ah r.ab r.os r.zs l r.ab.length))) true:=λh0=>by
  have hin:=km h0;have:=eZ (aj r) ok l hl hin
  rwa [ic r l hin] at this
 have e1:(aj r).os.length=r.os.length:=rfl;rw[e1] at c2
 have P1:∀e,bo r.os.length l=e->e≠0->chP r l=.tup [.sl 0 [],.int .i64 e]:=λe h1 h2=>by
  subst h1;unfold chP chS;rw[aB h2,aB h2]
 have P2:bo r.os.length l=0->(l.length:Int)<=(ah r.ab r.os r.zs l r.ab.length).length->chP r l=.tup [.sl 0 [],.int .i64 20]:=λh1 h2=>by
  have hn:¬(bo r.os.length l≠0):=λh=>h h1
  unfold chP chS;rw[ar hn,aB h2,aB (by decide)]
 have P3:bo r.os.length l=0->¬(l.length:Int)<=(ah r.ab r.os r.zs l r.ab.length).length->chP r l=.tup [.sl (ah r.ab r.os r.zs l r.ab.length).length (ints (ah r.ab r.os r.zs l r.ab.length)),.int .i64 0]:=λh1 h2=>by
  have hn:¬(bo r.os.length l≠0):=λh=>h h1
  unfold chP chS;rw[ar hn,ar h2,ar (λh=>h rfl)]
 have eE:∀k n,cH r.os.length l k n=if aU n 0 ((r.os.length:Int)-1)=false then 6 else if k≠0/\n<=nth l (k-1) then 9 else 0:=λ_ _=>rfl
 have eS:bo r.os.length l=(dk (cH r.os.length l) (l.drop 0) 0).2:=rfl;generalize cH r.os.length l=E at *;generalize chP r l=P at *;generalize bo r.os.length l=R at *;have kR:aN ((dk E (l.drop 0) 0).2=R):=eS.symm;generalize hN:r.os.length=N at *;generalize ah r.ab r.os r.zs l r.ab.length=C at *;have hP:=And.intro P1 (And.intro P2 P3);clear P1 P2 P3;have kk:=keep (And.intro c2 (And.intro c3 (And.intro eE hP)));clear c2 c3 eE eS e1 ok h hN hP;generalize aj r=x at *;unfold Rd.pv at *;unfold Tw.aM at *;generalize r.cz=p1 at *;generalize r.osP=p2 at *;generalize r.cT=p3 at *;generalize r.zsP=p4 at *;refine rcK Tz.func49 ?_;simp only[Tryz.results49,Tryz.ntmps49]
 repeat' first|(with_reducible first|apply ai|apply au|apply af|apply al|refine And.intro ?_ ?_|refine cw (c1) ?_|intro _)|(simp[*])|(refine ae (c1) ?_ ?_;(· (simp[*];done)))
 clear c1;refine bQ (λ(k:Nat)=>k<=l.length/\(dk E (l.drop k) k).2=R) [1,6,20,21] (λ(k:Nat)=>[(22,.w false false (.int .i64 k))]) [0] (λ(k:Nat)=>[]) (λ(k:Nat)=>l.length-k) (λ(_u:Unit)=>R=0) [1,6] (λ(_u:Unit)=>[]) [0] (λ(_u:Unit)=>[]) (0) ⟨aK _,kR⟩ (by simp) (by simp) (λk hk=>?_) (λ_u hf=>?_)
 .obtain⟨hk,hj⟩:=hk;clear kR;by_cases h5:k<l.length
  .obtain⟨c1,c3,eE,hP⟩:=kk;clear c3;have h':inI .i64 ((k:Int)+1):=aG (by omega) (by omega)
   have hz:k+1<=l.length:=by omega
   rw[dg l k h5,dk] at hj;have e:=eE k (nth l k);have c1:=c1 (nth l k);clear eE
   have u:=λb=>dG b 9
   cases hw:aU (nth l k) 0 ((N:Int)-1) with
   |false=>
    rw[hw] at e c1;have e:E k (nth l k)=6:=e;rw[e] at hj;have hR:(6:Int)=R:=hj;subst hR;obtain rfl:=hP.1 6 rfl (by decide);have c1:aC Tz.prog _ _ (.int .i64 6) true:=c1;clear hP
    have f:∀z:Int,aC Tz.prog 70 [.sl 2 [.int .i64 6,.int .i64 z]] (.int .i64 6) true:=λz=>jV 6 z
    clear hj e hw;by_cases h0:k=0
    .subst h0
     repeat' first|(with_reducible first|apply ai|apply aF|apply au|apply az|apply af|apply al|refine And.intro ?_ ?_|refine cw (c1) ?_|refine cw (u _) ?_|refine cw (f _) ?_|intro _)|(simp[*,h5,h'])|(refine ae (c1) ?_ ?_;(· (simp[*];done)))|(refine ae (u _) ?_ ?_;(· (simp[*];done)))|(refine ae (f _) ?_ ?_;(· (simp[*];done)))
     all_goals first|omega|assumption
    .obtain⟨m,rfl⟩:∃m,k=m+1:=⟨k-1,by omega⟩
     have hm:m<l.length:=by omega
     have a4:((m+1:Nat):Int)-1=(m:Int):=by omega
     have a7:¬(m:Int)+1=0:=by omega
     have a2:inI .i64 (m:Int):=aG (by omega) (by omega)
     have a':(if 0<m then (m:Int) else 0)=(m:Int):=by split<;>omega
     clear h0
     repeat' first|(with_reducible first|apply ai|apply aF|apply au|apply az|apply aL|apply af|apply al|refine And.intro ?_ ?_|refine fz ?_ ?_|refine cw (c1) ?_|refine cw (u _) ?_|refine cw (f _) ?_|intro _)|(simp[*,h5,hm,a4,a7,a',h',a2])|(refine ae (c1) ?_ ?_;(· (simp[*];done)))|(refine ae (u _) ?_ ?_;(· (simp[*];done)))|(refine ae (f _) ?_ ?_;(· (simp[*];done)))
     all_goals first|omega|assumption
   |true=>
    rw[hw,ar (by decide)] at e;rw[hw] at c1;have c1:aC Tz.prog _ _ (.int .i64 0) true:=c1;clear hw;by_cases h0:k=0
    .subst h0;have e:E 0 (nth l 0)=0:=e;rw[aB e] at hj;have kj:=keep hj;have u1:=u true;rw[show ba true 9=0 from rfl] at u1;have f:=jV 0 0;rw[show cX [0,0]=0 from rfl] at f;clear hj e hP u
     repeat' first|(with_reducible first|apply ai|apply aF|apply au|apply af|apply al|refine And.intro ?_ ?_|refine cw (c1) ?_|refine cw (u1) ?_|refine cw (f) ?_|intro _)|(simp[*,h5,h'])|(refine ae (c1) ?_ ?_;(· (simp[*];done)))|(refine ae (u1) ?_ ?_;(· (simp[*];done)))|(refine ae (f) ?_ ?_;(· (simp[*];done)))
     all_goals first
      |omega
      |assumption
      |(refine nx (0+1) ?_ ?_;(· exact⟨hz,kj⟩);(refine aD ?_ ?_<;>first|trivial|(simp[*];done)))
    .obtain⟨m,rfl⟩:∃m,k=m+1:=⟨k-1,by omega⟩
     have hm:m<l.length:=by omega
     have a4:((m+1:Nat):Int)-1=(m:Int):=by omega
     have a7:¬(m:Int)+1=0:=by omega
     have a2:inI .i64 (m:Int):=aG (by omega) (by omega)
     have a':(if 0<m then (m:Int) else 0)=(m:Int):=by split<;>omega
     rw[show m+1-1=m from rfl] at e;by_cases hle:nth l (m+1)<=nth l m
     .rw[aB ⟨h0,hle⟩] at e;rw[e] at hj;have hR:(9:Int)=R:=hj;subst hR;obtain rfl:=hP.1 9 rfl (by decide);clear hP
      have a3:¬nth l m<nth l (m+1):=by omega
      have u1:=u false;rw[show ba false 9=9 from rfl] at u1;have f:=jV 0 9;rw[show cX [0,9]=9 from rfl] at f;clear hj e h0 u hle
      repeat' first|(with_reducible first|apply ai|apply aF|apply au|apply az|apply aL|apply af|apply al|refine And.intro ?_ ?_|refine fz ?_ ?_|refine cw (c1) ?_|refine cw (u1) ?_|refine cw (f) ?_|intro _)|(simp[*,h5,hm,a4,a7,a',h',a2,a3])|(refine ae (c1) ?_ ?_;(· (simp[*];done)))|(refine ae (u1) ?_ ?_;(· (simp[*];done)))|(refine ae (f) ?_ ?_;(· (simp[*];done)))
      all_goals first|omega|assumption
     .rw[ar (λh=>hle h.2)] at e;rw[aB e] at hj;have kj:=keep hj
      have a3:nth l m<nth l (m+1):=by omega
      have u1:=u true;rw[show ba true 9=0 from rfl] at u1;have f:=jV 0 0;rw[show cX [0,0]=0 from rfl] at f;clear hj e h0 hP u hle
      repeat' first|(with_reducible first|apply ai|apply aF|apply au|apply aL|apply af|apply al|refine And.intro ?_ ?_|refine fz ?_ ?_|refine cw (c1) ?_|refine cw (u1) ?_|refine cw (f) ?_|intro _)|(simp[*,h5,hm,a4,a7,a',h',a2,a3])|(refine ae (c1) ?_ ?_;(· (simp[*];done)))|(refine ae (u1) ?_ ?_;(· (simp[*];done)))|(refine ae (f) ?_ ?_;(· (simp[*];done)))
      all_goals first
       |omega
       |assumption
       |(refine nx (m+1+1) ?_ ?_;(· exact⟨hz,kj⟩);(refine aD ?_ ?_<;>first|trivial|(simp[*];done)))
  .have hg:k=l.length:=by omega
   subst hg
   have kj:aN (R=0):=by
    rw[fg] at hj;exact hj.symm
   clear hj kk
   repeat' first|(with_reducible first|apply ai|apply aL|apply af|apply al|intro _)|(simp[*,h5])
   all_goals first
    |omega
    |(refine aZ () ?_ ?_;(· exact kj);(refine aD ?_ ?_<;>first|trivial|(simp[*];done)))
 .subst hf;obtain⟨_,c3,_,hP⟩:=kk;have c3:=c3 rfl;clear kR;by_cases hle:(l.length:Int)<=(C.length:Int)
  .obtain rfl:=hP.2.1 rfl hle;clear hP
   repeat' first|(with_reducible first|apply ai|apply az|apply af|apply al|refine And.intro ?_ ?_|refine cw (c3) ?_|intro _)|(simp[*,hle])|(refine ae (c3) ?_ ?_;(· (simp[*];done)))
   all_goals first|omega|assumption
  .obtain rfl:=hP.2.2 rfl hle;clear hP
   repeat' first|(with_reducible first|apply ai|apply au|apply az|apply af|apply al|refine And.intro ?_ ?_|refine cw (c3) ?_|intro _)|(simp[*,hle])|(refine ae (c3) ?_ ?_;(· (simp[*];done)))
   all_goals first|omega|assumption
section
variable[av]
def bM(n:Nat):Nat->Nat->List Int->List (List Int)
 |0,_,l=>[l]
 |r+1,a,l=>(List.range' a (n-a)).flatMap λi=>bM n r (i+1) (l++[(i:Int)])
theorem ku(bad:List Int->Bool)(n:Nat):∀(r a:Nat)(l:List Int),bA bad n r a l=(bM n r a l).find? bad
 |0,_,l=>by
  unfold bA bM
  cases h:bad l<;>simp[h]
 |r+1,a,l=>by
  unfold bA bM;rw[List.find?_flatMap];congr 1
  funext i
  exact ku bad n r (i+1) (l++[(i:Int)])
theorem pw:∀m,m<5->∀s,s<5->(bM m s 0 []).length<=6:=by decide
theorem qc:∀m,m<5->∀s,s<5->((bM m s 0 []).all λl=>decide (l.length=s)&&l.all λv=>decide (0<=v)&&decide (v<(m:Int)))=true:=by decide
theorem eG{m s:Nat}(hm:m<5)(hs:s<5){l:List Int}(h:l∈bM m s 0 []):l.length=s/\∀i,i<l.length->0<=nth l i/\nth l i<(m:Int):=by
 have:=eh.1 (qc m hm s hs) l h;rw[bU,decide_eq_true_eq,eh] at this;refine⟨this.1,λi hi=>?_⟩;have:=this.2 _ (eJ hi)
 rwa [bU,decide_eq_true_eq,decide_eq_true_eq] at this
def bO(m v:Nat):Nat->List Int
 |0=>[]
 |k+1=>if v / 2 ^ (m-1-k)%2=1 then bO m v k++[(k:Int)] else bO m v k
def bR(s m:Nat):Nat->List (List Int)
 |0=>[]
 |j+1=>if (bO m (2 ^ m-1-j) m).length=s then bR s m j++[bO m (2 ^ m-1-j) m] else bR s m j
theorem kx(m v:Nat):∀k,(bO m v k).length<=k
 |0=>aE _
 |k+1=>by have:=kx m v k;unfold bO;split<;>simp<;>omega
theorem kz(s m:Nat):∀j,(bR s m j).length<=j
 |0=>aE _
 |j+1=>by have:=kz s m j;unfold bR;split<;>simp<;>omega
theorem qi(m s:Nat)(h1:1<=s)(h2:s<=m)(h3:m<=4):bR s m (2 ^ m)=bM m s 0 []:=by
 obtain⟨rfl,rfl⟩|⟨rfl,rfl⟩|⟨rfl,rfl⟩|⟨rfl,rfl⟩|⟨rfl,rfl⟩|⟨rfl,rfl⟩|⟨rfl,rfl⟩|⟨rfl,rfl⟩|⟨rfl,rfl⟩|⟨rfl,rfl⟩:(m=1/\s=1)\/(m=2/\s=1)\/(m=2/\s=2)\/(m=3/\s=1)\/(m=3/\s=2)\/(m=3/\s=3)\/(m=4/\s=1)\/(m=4/\s=2)\/(m=4/\s=3)\/(m=4/\s=4):=by omega
 all_goals decide +kernel
theorem qk(s m N:Nat)(hs:s<100)(hN:(m=1/\N=2)\/(m=2/\N=4)\/(m=3/\N=8)\/(m=4/\N=16)):aC Tz.prog 98 [.int .i64 s,.int .i64 m] (.sl (bR s m N).length (dX (bR s m N))) true:=by
 have e2:2 ^ m=N:=by rcases hN with ⟨rfl,rfl⟩|⟨rfl,rfl⟩|⟨rfl,rfl⟩|⟨rfl,rfl⟩<;>rfl
 have hp:(2:Int) ^ m=(N:Int):=by rcases hN with ⟨rfl,rfl⟩|⟨rfl,rfl⟩|⟨rfl,rfl⟩|⟨rfl,rfl⟩<;>rfl
 have hm:m<=4/\N<=16/\1<=N:=by omega
 have eK:∀j,bR s m (j+1)=if (bO m (N-1-j) m).length=s then bR s m j++[bO m (N-1-j) m] else bR s m j:=λj=>by rw[<-e2];rfl
 have bK:=kz s m
 have eB:∀v k,bO m v (k+1)=if v / 2 ^ (m-1-k)%2=1 then bO m v k++[(k:Int)] else bO m v k:=λ_ _=>rfl
 have bB:=kx m;have e0:bR s m 0=[]:=rfl
 have b0:∀v,bO m v 0=[]:=λ_=>rfl
 clear e2 hN;generalize bR s m=K at *;generalize bO m=B at *;have kk:=keep (And.intro eK (And.intro bK (And.intro eB (And.intro bB (And.intro b0 hm)))))
 have z1:(K 0).length=0:=by rw[e0];rfl
 have z2:bL (K 0)=[]:=by rw[e0];rfl
 have aw:inI .i64 (N:Int):=aG (by omega) (by omega);have ax:inI .i64 ((N:Int)-1):=aG (by omega) (by omega)
 have ay:(m:Int)<64:=by omega
 clear eK bK eB bB e0 b0 hm;refine rcK Tz.func98 ?_;simp only[Tryz.results98,Tryz.ntmps98]
 repeat' first|(with_reducible first|apply ai|apply af|intro _)|(simp[*,hp,aw,ax,ay])
 all_goals try first|omega|assumption
 clear hp aw ax ay;refine df 1 (λ(j:Nat)=>j<=N) [0,1] (λ(j:Nat)=>[(5,.msl 0 (K j).length 1 0 (K j).length),(6,.w false false (.int .i64 ((N:Int)-1-(j:Int))))]) [] (λ(j:Nat)=>[(0,bL (K j))]) (λ(j:Nat)=>N-j) (λ(_u:Unit)=>True) [] (λ(_u:Unit)=>[(5,.msl 0 (K N).length 1 0 (K N).length)]) [] (λ(_u:Unit)=>[(0,bL (K N))]) (0) (aK _) (aO [] (by simp[z1,z2]) (by simp[z1,z2])) (λj hk=>?_) (λ_u hf=>?_)
 .clear z1 z2;by_cases h5:j<N
  .obtain⟨eK,bK,eB,bB,b0,hm⟩:=kk;obtain⟨v,hv⟩:∃v,N-1-j=v:=⟨_,rfl⟩
   have hvI:(N:Int)-1-(j:Int)=(v:Int):=by omega
   have b':(0:Int)<=(v:Int):=by omega
   have a5:(v:Int)-1=(N:Int)-1-((j:Int)+1):=by omega
   have h':inI .i64 ((N:Int)-1-((j:Int)+1)):=aG (by omega) (by omega)
   have hz:j+1<=N:=by omega
   have h8:v<16:=by omega
   have e:=eK j;rw[hv] at e;have b:=bK j
   have l9:(K j).length+1<=1000000000:=by omega
   have y1:(B v 0).length=0:=by rw[b0];rfl
   have y2:iA (B v 0)=[]:=by rw[b0];rfl
   have kq:=keep (And.intro (eB v) (And.intro (bB v) (And.intro hm h8)));have ke:=keep (And.intro e (And.intro hz (And.intro a5 (And.intro h' (And.intro l9 (And.intro hs (And.intro (bB v m) hm)))))));clear eK bK eB bB b0 hm hv b e hz a5 h' h8 l9 hs
   repeat' first|(with_reducible first|apply ai|apply aF|apply au|apply af|apply al|intro _)|(simp[*,hvI,b'])
   refine df 2 (λ(k:Nat)=>k<=m) [0,1,5,6] (λ(k:Nat)=>[(8,.w false false (.int .i64 k)),(7,.msl 1 (B v k).length 1 0 (B v k).length)]) [0] (λ(k:Nat)=>[(1,iA (B v k))]) (λ(k:Nat)=>m-k) (λ(_u:Unit)=>True) [0,1,5,6] (λ(_u:Unit)=>[(7,.msl 1 (B v m).length 1 0 (B v m).length)]) [0] (λ(_u:Unit)=>[(1,iA (B v m))]) (0) (aK _) (aO [] (by simp[y1,y2]) (by simp[y1,y2])) (λk hk=>?_) (λ_u hf=>?_)
   .clear y1 y2 ke;by_cases hu:k<m
    .obtain⟨eB,bB,hm,h8⟩:=kq;have e:=eB k;have b:=bB k;have hx:inI .i64 ((k:Int)+1):=aG (by omega) (by omega);have ha:inI .i64 ((m:Int)-1):=aG (by omega) (by omega)
     have a1:k+1<=m:=by omega
     have b9:(B v k).length+1<=1000000000:=by omega
     obtain⟨d,hd⟩:∃d,m-1-k=d:=⟨_,rfl⟩;rw[hd] at e
     have hdI:(m:Int)-1-(k:Int)=(d:Int):=by omega
     have hh:inI .i64 (d:Int):=aG (by omega) (by omega)
     have aq:d=0\/d=1\/d=2\/d=3:=by omega
     clear eB bB hm hd b;by_cases hb:v / 2 ^ d%2=1
     .rw[aB hb] at e
      have e3:iA (B v (k+1))=iA (B v k)++[.w false false (.int .i64 k)]:=by rw[e,<-eC];rfl
      have e4:(B v (k+1)).length=(B v k).length+1:=by rw[e];simp
      clear e
      rcases aq with rfl|rfl|rfl|rfl
      .have hbI:(v:Int)%2=1:=by have h:v / 1%2=1:=hb;omega
       have hdI:(m:Int)-1-(k:Int)=0:=hdI
       have h9:(v:Int)<4294967296:=by omega
       clear hb h8
       repeat' first|(with_reducible first|apply ai|apply aF|apply au|apply af|apply al|refine And.intro ?_ ?_|intro _)|(simp[*,hu,hx,ha,hdI,hh,hbI,h9])
       all_goals first|omega|assumption|(clear hdI hbI h9 hh ha;(refine nx (k+1) ?_ ?_;(· exact a1);(refine aO [] ?_ ?_<;>first|trivial|(simp[*,e3,e4];done))))
      .have hbI:(v:Int) / 2%2=1:=by have h:v / 2%2=1:=hb;omega
       have hdI:(m:Int)-1-(k:Int)=1:=hdI
       have h9:(v:Int) / 2<4294967296:=by omega
       have ht:(0:Int)<=(v:Int) / 2:=by omega
       clear hb h8
       repeat' first|(with_reducible first|apply ai|apply aF|apply au|apply af|apply al|refine And.intro ?_ ?_|intro _)|(simp[*,hu,hx,ha,hdI,hh,hbI,h9,ht])
       all_goals first|omega|assumption|(clear hdI hbI h9 hh ha;(refine nx (k+1) ?_ ?_;(· exact a1);(refine aO [] ?_ ?_<;>first|trivial|(simp[*,e3,e4];done))))
      .have hbI:(v:Int) / 4%2=1:=by have h:v / 4%2=1:=hb;omega
       have hdI:(m:Int)-1-(k:Int)=2:=hdI
       have h9:(v:Int) / 4<4294967296:=by omega
       have ht:(0:Int)<=(v:Int) / 4:=by omega
       clear hb h8
       repeat' first|(with_reducible first|apply ai|apply aF|apply au|apply af|apply al|refine And.intro ?_ ?_|intro _)|(simp[*,hu,hx,ha,hdI,hh,hbI,h9,ht])
       all_goals first|omega|assumption|(clear hdI hbI h9 hh ha;(refine nx (k+1) ?_ ?_;(· exact a1);(refine aO [] ?_ ?_<;>first|trivial|(simp[*,e3,e4];done))))
      .have hbI:(v:Int) / 8%2=1:=by have h:v / 8%2=1:=hb;omega
       have hdI:(m:Int)-1-(k:Int)=3:=hdI
       have h9:(v:Int) / 8<4294967296:=by omega
       have ht:(0:Int)<=(v:Int) / 8:=by omega
       clear hb h8
       repeat' first|(with_reducible first|apply ai|apply aF|apply au|apply af|apply al|refine And.intro ?_ ?_|intro _)|(simp[*,hu,hx,ha,hdI,hh,hbI,h9,ht])
       all_goals first|omega|assumption|(clear hdI hbI h9 hh ha;(refine nx (k+1) ?_ ?_;(· exact a1);(refine aO [] ?_ ?_<;>first|trivial|(simp[*,e3,e4];done))))
     .rw[ar hb] at e
      rcases aq with rfl|rfl|rfl|rfl
      .have hbI:(v:Int)%2=0:=by have h:¬v / 1%2=1:=hb;omega
       have hdI:(m:Int)-1-(k:Int)=0:=hdI
       have h9:(v:Int)<4294967296:=by omega
       clear hb h8
       repeat' first|(with_reducible first|apply ai|apply aF|apply au|apply af|apply al|refine And.intro ?_ ?_|intro _)|(simp[*,hu,hx,ha,hdI,hh,hbI,h9])
       all_goals first|omega|assumption|(clear hdI hbI h9 hh ha;(refine nx (k+1) ?_ ?_;(· exact a1);(refine aO [] ?_ ?_<;>first|trivial|(simp[*,e];done))))
      .have hbI:(v:Int) / 2%2=0:=by have h:¬v / 2%2=1:=hb;omega
       have hdI:(m:Int)-1-(k:Int)=1:=hdI
       have h9:(v:Int) / 2<4294967296:=by omega
       have ht:(0:Int)<=(v:Int) / 2:=by omega
       clear hb h8
       repeat' first|(with_reducible first|apply ai|apply aF|apply au|apply af|apply al|refine And.intro ?_ ?_|intro _)|(simp[*,hu,hx,ha,hdI,hh,hbI,h9,ht])
       all_goals first|omega|assumption|(clear hdI hbI h9 hh ha;(refine nx (k+1) ?_ ?_;(· exact a1);(refine aO [] ?_ ?_<;>first|trivial|(simp[*,e];done))))
      .have hbI:(v:Int) / 4%2=0:=by have h:¬v / 4%2=1:=hb;omega
       have hdI:(m:Int)-1-(k:Int)=2:=hdI
       have h9:(v:Int) / 4<4294967296:=by omega
       have ht:(0:Int)<=(v:Int) / 4:=by omega
       clear hb h8
       repeat' first|(with_reducible first|apply ai|apply aF|apply au|apply af|apply al|refine And.intro ?_ ?_|intro _)|(simp[*,hu,hx,ha,hdI,hh,hbI,h9,ht])
       all_goals first|omega|assumption|(clear hdI hbI h9 hh ha;(refine nx (k+1) ?_ ?_;(· exact a1);(refine aO [] ?_ ?_<;>first|trivial|(simp[*,e];done))))
      .have hbI:(v:Int) / 8%2=0:=by have h:¬v / 8%2=1:=hb;omega
       have hdI:(m:Int)-1-(k:Int)=3:=hdI
       have h9:(v:Int) / 8<4294967296:=by omega
       have ht:(0:Int)<=(v:Int) / 8:=by omega
       clear hb h8
       repeat' first|(with_reducible first|apply ai|apply aF|apply au|apply af|apply al|refine And.intro ?_ ?_|intro _)|(simp[*,hu,hx,ha,hdI,hh,hbI,h9,ht])
       all_goals first|omega|assumption|(clear hdI hbI h9 hh ha;(refine nx (k+1) ?_ ?_;(· exact a1);(refine aO [] ?_ ?_<;>first|trivial|(simp[*,e];done))))
    .have hg:k=m:=by omega
     subst hg;clear kq
     repeat' first|(with_reducible first|apply ai|apply aL|apply af|apply al|intro _)|(simp[*,hu])
     all_goals first
      |omega
      |(refine aZ () ?_ ?_;(· trivial);(refine aO [] ?_ ?_<;>first|trivial|(simp[*];done)))
   .clear y1 y2 kq;obtain⟨e,hz,a5,h',l9,hs,b6,hm⟩:=ke;generalize B v m=Bm at *
    have b5:Bm.length<100000:=by omega
    clear hm b6;by_cases hb:Bm.length=s
    .rw[aB hb] at e;have e6:=nU (K j) Bm;rw[<-e] at e6
     have e7:(K (j+1)).length=(K j).length+1:=by rw[e];simp
     have hbI:(Bm.length:Int)=(s:Int):=by omega
     clear e hs
     repeat' first|(with_reducible first|apply ai|apply af|apply al|intro _)|(simp[*,hbI,h'])
     all_goals first|omega|assumption|(refine nx (j+1) ?_ ?_;(· exact hz);(refine aO [1] ?_ ?_<;>first|trivial|(simp[*,e6,e7,a5];done)))
    .rw[ar hb] at e
     have hbI:¬(Bm.length:Int)=(s:Int):=by omega
     clear hb hs
     repeat' first|(with_reducible first|apply ai|apply au|apply af|apply al|intro _)|(simp[*,hbI,h'])
     all_goals first|omega|assumption|(refine nx (j+1) ?_ ?_;(· exact hz);(refine aO [1] ?_ ?_<;>first|trivial|(simp[*,e,a5];done)))
  .have hg:j=N:=by omega
   subst hg
   have hn:¬(0:Int)<=(j:Int)-1-(j:Int):=by omega
   clear kk
   repeat' first|(with_reducible first|apply ai|apply aF|apply au|apply aL|apply af|apply al|refine fz ?_ ?_|intro _)|(simp[*,hn])
   all_goals first
    |omega
    |(refine aZ () ?_ ?_;(· trivial);(refine aO [] ?_ ?_<;>first|trivial|(simp[*];done)))
 .clear z1 z2 kk
  repeat' first|(with_reducible first|apply ai|apply az|apply af|intro _)|(simp[*])
  all_goals first|omega|trivial
theorem ql(s m:Nat)(h1:1<=s)(h2:s<=m)(h3:m<=4):aC Tz.prog 98 [.int .i64 s,.int .i64 m] (.sl (bM m s 0 []).length (a8 (bM m s 0 []))) true:=by
 have h:=qk s m (2 ^ m) (by omega) (by
  obtain rfl|rfl|rfl|rfl:m=1\/m=2\/m=3\/m=4:=by omega
  all_goals decide)
 rw[qi m s h1 h2 h3] at h;exact h
def ej(ab:List Car)(os:List Ord)(zs:List Par)(s:Nat)(l:List Int):Bool:=decide ((ah ab os zs l ab.length).length<s)
def cn(ab:List Car)(os:List Ord)(zs:List Par):Option (List Int):=(List.range' 1 (os.length+1-1)).findSome? λs=>(bM os.length s 0 []).find? (ej ab os zs s)
theorem kB{α β:Type}{f g:α->Option β}:∀{l:List α},(∀x∈l,f x=g x)->l.findSome? f=l.findSome? g
 |[],_=>rfl
 |x::l,h=>by
  rw[Je,Je,h x fO,kB λy hy=>h y (dm _ hy)]
theorem kC{α:Type}{f g:α->Bool}:∀{l:List α},(∀x∈l,f x=g x)->l.find? f=l.find? g
 |[],_=>rfl
 |x::l,h=>by
  rw[Jg,Jg,h x fO,kC λy hy=>h y (dm _ hy)]
theorem rk(r:Tw.RND)(h4:r.os.length<=4):eb (aj r)=cn r.ab r.os r.zs:=by
 have e1:(aj r).os.length=r.os.length:=rfl;unfold eb cn;rw[e1,dn _ _ _ (by omega)]
 have e0:bA (cm (aj r) 0) r.os.length 0 0 []=none:=by
  unfold bA cm;rw[ar];simp
 rw[e0];show List.findSome? _ (List.range' 1 (r.os.length+1-1))=_
 refine kB λs hs=>?_
 have hs:s<5:=by
  rw[Dk] at hs;omega
 rw[ku]
 refine kC λl hl=>?_
 unfold cm ej;rw[ic r l (eG (by omega) hs hl).2]
def cC:Option (List Int)->PV
 |none=>.tup [.sl 0 [],.bool false]
 |some l=>.tup [.sl l.length (ints l),.bool true]
theorem rE(ab:List Car)(os:List Ord)(wt:List (List Int))(zs:List Par)(hc:ab.length<=1000)(ho:os.length<=4)(hz:zs.length<100000):aC Tz.prog 51 [.agg [.sl ab.length (aS ab),.sl os.length (aR os),.sl wt.length (a8 wt),.sl zs.length (aT zs)]] (cC (cn ab os zs)) true:=by
 have c1:=λs h1 h2=>ql s os.length h1 h2 ho
 have c2:=λl h1 h2=>kg ab os wt zs l h1 hc hz h2
 have bl:=λs (hs:s<5)=>pw os.length (by omega) s hs
 have bi:=λs (hs:s<5) l hl=>eG (m:=os.length) (by omega) hs (l:=l) hl
 have eB:∀s l,ej ab os zs s l=decide ((ah ab os zs l ab.length).length<s):=λ_ _=>rfl
 have bC:=λl=>eF ab os zs l ab.length
 generalize hR:cn ab os zs=R;unfold cn at hR;generalize ej ab os zs=B at *
 have eN:=λk (hk:k<os.length+1)=>dn (λs=>(bM os.length s 0 []).find? (B s)) (os.length+1) k hk
 generalize hG:(λs=>(bM os.length s 0 []).find? (B s))=G at hR eN;have kR:aN ((List.range' 1 (os.length+1-1)).findSome? G=R):=hR;generalize (λl=>ah ab os zs l ab.length)=CK at *;have kk:=keep (And.intro c1 (And.intro c2 (And.intro bl (And.intro bi (And.intro eB (And.intro bC (And.intro eN (And.intro ho hc))))))));clear hR c1 c2 bl bi eB bC eN hG ho hc hz;refine rcK Tz.func51 ?_;simp only[Tryz.results51,Tryz.ntmps51]
 repeat' first|(with_reducible first|apply ai|apply af|intro _)|(simp[*])
 refine bQ (λ(k:Nat)=>1<=k/\k<=os.length+1/\(List.range' k (os.length+1-k)).findSome? G=R) [1] (λ(k:Nat)=>[(4,.w false false (.int .i64 k))]) [0] (λ(k:Nat)=>[]) (λ(k:Nat)=>os.length+1-k) (λ(_u:Unit)=>R=none) [] (λ(_u:Unit)=>[]) [0] (λ(_u:Unit)=>[]) (1) ⟨aE _,Nat.le_add_left _ _,kR⟩ (by simp) (by simp) (λk hk=>?_) (λ_u hf=>?_)
 .obtain⟨b7,bh,hj⟩:=hk;clear kR;by_cases h5:k<=os.length
  .obtain⟨c1,c2,bl,bi,eB,bC,eN,ho,hc⟩:=kk
   have hltI:(k:Int)<=(os.length:Int):=by omega
   have h':inI .i64 ((k:Int)+1):=aG (by omega) (by omega)
   have hz:k+1<=os.length+1:=by omega
   have ag:k<5:=by omega
   rw[eN k (by omega)] at hj;have c1:=c1 k b7 h5;have bl:=bl k ag;have bi:=bi k ag;have eB:=eB k;generalize bM os.length k 0 []=L at *;generalize B k=Bk at *;clear eN ag;obtain⟨Q,hQ⟩:∃Q,(L.drop 0).find? Bk=Q:=⟨_,rfl⟩;have ao:L.find? Bk=Q:=hQ;rw[ao] at hj;clear ao;have kQ:=keep hQ;have kj:=keep hj;have kq:=keep (And.intro c2 (And.intro bi (And.intro eB (And.intro bC (And.intro ho hc)))));clear hQ hj c2 bi eB bC ho hc
   repeat' first|(with_reducible first|apply ai|apply aF|apply au|apply af|apply al|refine And.intro ?_ ?_|refine cw (c1) ?_|intro _)|(simp[*,hltI])|(refine ae (c1) ?_ ?_;(· (simp[*];done)))
   clear c1;refine bQ (λ(i:Nat)=>i<=L.length/\(L.drop i).find? Bk=Q) [1,4,5] (λ(i:Nat)=>[(6,.w false false (.int .i64 i))]) [0] (λ(i:Nat)=>[]) (λ(i:Nat)=>L.length-i) (λ(_u:Unit)=>Q=none) [1,4] (λ(_u:Unit)=>[]) [0] (λ(_u:Unit)=>[]) (0) ⟨aK _,kQ⟩ (by simp) (by simp) (λi hk=>?_) (λ_u hf=>?_)
   .obtain⟨hi,hj⟩:=hk;clear kQ;by_cases hr:i<L.length
    .obtain⟨c2,bi,eB,bC,ho,hc⟩:=kq;have a6:inI .i64 ((i:Int)+1):=aG (by omega) (by omega)
     have aa:i+1<=L.length:=by omega
     rw[dg L i hr,Jg] at hj;obtain⟨b1,b2⟩:=bi (nth L i) (eJ hr);have c2:=c2 (nth L i) (by omega) b2;have eB:=eB (nth L i);have bC:=bC (nth L i);generalize hN:nth L i=N at *;generalize ah ab os zs N ab.length=C at *;clear b2 bi;by_cases hb:C.length<k
     .rw[decide_eq_true hb] at eB;rw[eB] at hj;have hQ:some N=Q:=hj;subst hQ;have hR:some N=R:=kj;subst hR
      have hbI:(C.length:Int)<(k:Int):=by omega
      clear hj kj eB hb ho hc bC bl
      repeat' first|(with_reducible first|apply ai|apply aF|apply au|apply az|apply af|refine aQ (id:=8) 9 mixed (by decide +kernel) ?_|apply al|refine And.intro ?_ ?_|intro _)|(simp[*,hltI,hr,hbI,hN,cC])|(refine ae (c2) ?_ ?_;(· (simp[*];done)))
      all_goals first|omega|assumption
     .rw[decide_eq_false hb] at eB;rw[eB] at hj;have kj2:=keep hj
      have hbI:¬(C.length:Int)<(k:Int):=by omega
      clear hj eB hb ho hc bC bl kj
      repeat' first|(with_reducible first|apply ai|apply aF|apply au|apply af|refine aQ (id:=8) 9 mixed (by decide +kernel) ?_|apply al|refine And.intro ?_ ?_|intro _)|(simp[*,hltI,hr,hbI,a6,hN])|(refine ae (c2) ?_ ?_;(· (simp[*];done)))
      all_goals first
       |omega
       |assumption
       |(refine nx (i+1) ?_ ?_;(· exact⟨aa,kj2⟩);(refine aD ?_ ?_<;>first|trivial|(simp[*];done)))
    .have hg:i=L.length:=by omega
     subst hg
     have kj2:aN (Q=none):=by
      rw[fg] at hj;exact hj.symm
     clear hj kq kj
     repeat' first|(with_reducible first|apply ai|apply aL|apply af|apply al|intro _)|(simp[*,hr])
     all_goals first
      |omega
      |(refine aZ () ?_ ?_;(· exact kj2);(refine aD ?_ ?_<;>first|trivial|(simp[*];done)))
   .subst hf;clear kQ kq
    repeat' first|(with_reducible first|apply af|intro _)|(simp[*,hltI,h'])
    all_goals first
     |omega
     |assumption
     |(refine nx (k+1) ?_ ?_;(· exact⟨by omega,hz,kj⟩);(refine aD ?_ ?_<;>first|trivial|(simp[*];done)))
  .have hg:k=os.length+1:=by omega
   subst hg
   have hltI:¬((os.length+1:Nat):Int)<=(os.length:Int):=by omega
   have kj2:aN (R=none):=by
    rw[uU] at hj;exact hj.symm
   clear hj kk
   repeat' first|(with_reducible first|apply ai|apply aF|apply au|apply aL|apply af|apply al|refine fz ?_ ?_|intro _)|(simp[*,hltI])
   all_goals first
    |omega
    |(refine aZ () ?_ ?_;(· exact kj2);(refine aD ?_ ?_<;>first|trivial|(simp[*];done)))
 .subst hf;clear kk kR
  repeat' first|(with_reducible first|apply ai|apply az|apply af|intro _)|(simp[*,cC])
end
noncomputable instance C3:av:=LD
theorem rL(r:Tw.RND)(h:ceR r≠0):aC Tz.prog 50 [Tw.aM r] (.tup [.sl 0 [],.int .i64 (ceR r)]) true:=by
 have c1:=dI r;rw[k8 r h] at c1;generalize ceR r=e at *;unfold Tw.aM at *;generalize r.cz=p1 at *;generalize r.osP=p2 at *;generalize r.cT=p3 at *;generalize r.zsP=p4 at *;refine rcK Tz.func50 ?_;simp only[Tryz.results50,Tryz.ntmps50]
 repeat' first|(with_reducible first|apply ai|apply az|apply af|apply al|refine And.intro ?_ ?_|refine cw (c1) ?_|intro _)|(simp[*,h])|(refine ae (c1) ?_ ?_;(· (simp[*];done)))
 all_goals first|omega
end Go.Proofs.YthpkmilhiganjaaGreat
