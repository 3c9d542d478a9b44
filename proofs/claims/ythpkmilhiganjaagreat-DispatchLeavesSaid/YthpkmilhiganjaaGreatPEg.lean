/- Lemmas. -/
import Derived.Test.YthpkmilhiganjaaGreatPEc
import Derived.Test.YthpkmilhiganjaaGreatPEf
import Derived.Test.YthpkmilhiganjaaGreatPDb
import Derived.Test.YthpkmilhiganjaaGreatPDc
set_option linter.all false
set_option maxHeartbeats 32000000
set_option maxRecDepth 100000
namespace Go.Proofs.YthpkmilhiganjaaGreat
open Go Go.Fi
noncomputable instance instLD38:av:=LD
theorem zfa(f:Nat->Int)(k:Nat):(List.range (k+1)).map f=(List.range k).map f++[f k]:=by simp[jN]
theorem zcc(r:Tw.RND)(h:ceR r=0):aC Tz.prog 25 [Tw.aM r] (.tup [zdi (aj r),.int .i64 0]) false:=by
 have ok:=oc r h;have c1:=dI r;rw[gr r h] at c1;generalize hx:aj r=x at *;clear hx h;have mi:=WS x ok;have c2:=zfz x ok
 have c3:=zfy (ft x x.os.length) x.os.length x.ab.length (x.ab.length+x.os.length) rfl (zdq x _) (λi hi=>by
  have:nth (ft x x.os.length) i=ql x i:=CN _ _ _ hi
  rw[this,zfp]) (EO x ok)
 have eA:qc (λi j=>nth (nth (ft x x.os.length) i) j) x.os.length (x.ab.length+x.os.length) x.os.length=cp x:=rfl;rw[eA] at c3;clear eA;have c4:=zfk x ok (bF x) (zd4 x ok)
 have c5:=λi hi=>zfj x i (cH x) hi (by have:=ok.lc;omega) (by have:=ok.lf;omega) (by have:=ok.lw;omega) (ok.fr i hi) (ok.wr i hi) (by simp[cH]) (ok.pr i hi) (ok.wn i hi) (λk hk=>by have:=zd2 x ok k hk;omega)
 have lcar:(cH x).length=x.ab.length:=by simp[cH]
 have lpl:(bF x).length=x.os.length:=Ak _ _ _;rw[lcar] at c5;rw[lpl] at c4;have r1:=WK (-1) x.os.length (by have:=ok.lo;omega);have lo:=ok.lo;have lc:=ok.lc
 have mv:∀k,k<x.ab.length->inI .i64 (-(nth (cp x).v k)):=λk hk=>by
  have h1:=mi.hv k (by omega);have h2:=mi.vb (EO x ok) (aE _) (j:=k) (by omega);exact aG (by omega) (by omega)
 have mo:∀k,k<x.ab.length->nth (cp x).ow k=-1\/(0<=nth (cp x).ow k/\nth (cp x).ow k<(x.os.length:Int)):=λk hk=>mi.how k (by omega)
 have ml:=mi.lo;have mlv:=mi.lv
 have eC:cH x=(List.range x.ab.length).map λk=>-(nth (cp x).v k):=rfl
 have eO:rL x=(List.range x.os.length).map λi=>kH x i (cH x):=rfl
 have eP:bF x=fh (cp x).ow x.os.length x.ab.length:=rfl;unfold zdi;unfold zdh at c3;generalize eQ x (bF x)=CO at *;generalize cH x=BC at *;generalize rL x=BO at *;generalize bF x=BP at *;generalize cp x=A at *;obtain⟨Au,Av,Ao⟩:=A;dsimp only at c3 mv mo ml mlv eC eO eP;generalize ft x x.os.length=TS at *;obtain⟨m,hm⟩:∃m,x.ab.length+x.os.length=m:=⟨_,rfl⟩;rw[hm] at c3 ml mlv
 have hmI:(x.ab.length:Int)+(x.os.length:Int)=(m:Int):=by omega
 have aa:inI .i64 (m:Int):=aG (by omega) (by omega);have kk:=keep (And.intro mv (And.intro mo (And.intro c5 (And.intro hm (And.intro lo lc)))));have kC:=keep eC;have kO:=keep eO;have kP:=keep eP;clear mi ok mv mo c5 hm lo lc eC eO eP;unfold Rd.pv at c1 c2 c4;unfold Tw.aM at *;generalize r.cz=p1 at *;generalize r.osP=p2 at *;generalize r.cT=p3 at *;generalize r.zsP=p4 at *;refine rcK Tz.func25 ?_;simp only[Tryz.results25,Tryz.ntmps25]
 repeat' first|(with_reducible first|apply ai|apply au|apply af|refine aQ (id:=5) 12 mixed (by decide +kernel) ?_|apply al|refine And.intro ?_ ?_|refine cw (c1) ?_|refine cw (c2) ?_|refine cw (c3) ?_|refine cwM (r1) ?_|intro _)|(simp[*,hmI,aa])|(refine ae (c1) ?_ ?_;(· (simp[*];done)))|(refine ae (c2) ?_ ?_;(· (simp[*];done)))|(refine ae (c3) ?_ ?_;(· (simp[*];done)))
 all_goals try first|omega|assumption
 clear c1 c2 c3 r1;have e1:iA (fh Ao x.os.length 0)=iA (List.replicate x.os.length (-1)):=rfl;have e0:iA []=[]:=rfl;have e2:iA ((List.range 0).map λk=>-(nth Av k))=[]:=rfl;refine df 6 (λ(k:Nat)=>k<=x.ab.length) [2,4,7,8,47] (λ(k:Nat)=>[(48,.w false false (.int .i64 k))]) [1] (λ(k:Nat)=>[(4,iA (fh Ao x.os.length k)),(5,iA ((List.range k).map λk=>-(nth Av k))),(2,[.msl 4 x.os.length 1 0 x.os.length,.w false false (.int .i64 0),.w true true (.sl 0 []),.msl 5 k 1 0 k])]) (λ(k:Nat)=>x.ab.length-k) (λ(_u:Unit)=>True) [2,4,8] (λ(_u:Unit)=>[]) [1] (λ(_u:Unit)=>[(4,iA BP),(5,iA BC),(2,[.msl 4 x.os.length 1 0 x.os.length,.w false false (.int .i64 0),.w true true (.sl 0 []),.msl 5 x.ab.length 1 0 x.ab.length])]) (0) (aK _) (aO [] (by simp[e1,e2,e0]) (by simp[e1,e2,e0])) (λk hk=>?_) (λ_u hf=>?_)
 .clear e1 e2 e0;by_cases h3:k<x.ab.length
  .obtain⟨mv,mo,c5,hm,lo,lc⟩:=kk;have h9:inI .i64 ((k:Int)+1):=aG (by omega) (by omega)
   have hz:k+1<=x.ab.length:=by omega
   have hiv:=mv k h3;have hh:=mo k h3
   have a5:k<Av.length:=by omega
   have hy:k<Ao.length:=by omega
   have hg:k<m:=by omega
   have a6:=Ak Ao x.os.length k
   have h5:((List.range k).map λk=>-(nth Av k)).length=k:=by simp
   have eS:iA ((List.range (k+1)).map λk=>-(nth Av k))=iA ((List.range k).map λk=>-(nth Av k))++[.w false false (.int .i64 (-(nth Av k)))]:=by rw[zfa,<-RR];rfl
   have eP:fh Ao x.os.length (k+1)=if 0<=nth Ao k then (fh Ao x.os.length k).set (nth Ao k).toNat k else fh Ao x.os.length k:=rfl
   have a':k+1<=1000000000:=by omega
   generalize ((List.range k).map λk=>-(nth Av k))=CK at h5 eS ⊢;clear mv mo c5 hm lo lc kC kO kP
   rcases hh with hh|⟨h1,h2⟩
   .rw[ar (by omega)] at eP
    repeat' first|(with_reducible first|apply ai|apply aF|apply au|apply af|refine aQ (id:=14) 12 mixed (by decide +kernel) ?_|apply al|intro _)|(simp[*,h3,h9,hiv,hh,a5,hy,hg,ml,mlv,a6,h5])
    all_goals first
     |omega
     |assumption
     |(refine nx (k+1) ?_ ?_;(· exact hz);(refine aO [] ?_ ?_<;>first|trivial|(simp[*,eS,eP];done)))
   .obtain⟨j,hj⟩:∃j:Nat,nth Ao k=j:=⟨(nth Ao k).toNat,by omega⟩;rw[hj,aB (by omega),bT] at eP
    have a9:j<x.os.length:=by omega
    have a7:(0:Int)<=(j:Int):=by omega
    clear h1 h2
    repeat' first|(with_reducible first|apply ai|apply aF|apply au|apply af|refine aQ (id:=14) 12 mixed (by decide +kernel) ?_|apply al|refine And.intro ?_ ?_|intro _)|(simp[*,h3,h9,hiv,hj,a5,hy,hg,ml,mlv,a6,h5,a9,a7])
    all_goals first
     |omega
     |assumption
     |(refine nx (k+1) ?_ ?_;(· exact hz);(refine aO [] ?_ ?_<;>first|trivial|(simp[*,eS,eP];done)))
  .have ha:k=x.ab.length:=by omega
   subst ha
   have kC2:BC=(List.range x.ab.length).map λk=>-(nth Av k):=kC
   have kP2:BP=fh Ao x.os.length x.ab.length:=kP;clear kk kC kO kP
   repeat' first|(with_reducible first|apply ai|apply aL|apply af|apply al|intro _)|(simp[*,h3])
   all_goals first
    |omega
    |(refine aZ () ?_ ?_;(· trivial);(refine aD ?_ ?_<;>first|trivial|(simp[*,kC2,kP2];done)))
 .clear e1 e2 e0 kC kP
  repeat' first|(with_reducible first|apply ai|apply af|intro _)|(simp[*])
  have e0:iA []=[]:=rfl;have e3:iA ((List.range 0).map λi=>kH x i BC)=[]:=rfl;refine df 7 (λ(i:Nat)=>i<=x.os.length) [2,4,8,86] (λ(i:Nat)=>[(87,.w false false (.int .i64 i))]) [1,4,5] (λ(i:Nat)=>[(6,iA ((List.range i).map λi=>kH x i BC)),(2,[.msl 4 x.os.length 1 0 x.os.length,.w false false (.int .i64 0),.msl 6 i 1 0 i,.msl 5 x.ab.length 1 0 x.ab.length])]) (λ(i:Nat)=>x.os.length-i) (λ(_u:Unit)=>True) [2,4,8] (λ(_u:Unit)=>[]) [1,4,5] (λ(_u:Unit)=>[(6,iA BO),(2,[.msl 4 x.os.length 1 0 x.os.length,.w false false (.int .i64 0),.msl 6 x.os.length 1 0 x.os.length,.msl 5 x.ab.length 1 0 x.ab.length])]) (0) (aK _) (aO [] (by simp[e3,e0]) (by simp[e3,e0])) (λi hk=>?_) (λ_u hf=>?_)
  .clear e3 e0;by_cases h3:i<x.os.length
   .obtain⟨mv,mo,c5,hm,lo,lc⟩:=kk;have h9:inI .i64 ((i:Int)+1):=aG (by omega) (by omega)
    have hz:i+1<=x.os.length:=by omega
    have c:=c5 i h3;unfold Rd.pv at c
    have h5:((List.range i).map λi=>kH x i BC).length=i:=by simp
    have eS:iA ((List.range (i+1)).map λi=>kH x i BC)=iA ((List.range i).map λi=>kH x i BC)++[.w false false (.int .i64 (kH x i BC))]:=by rw[zfa,<-RR];rfl
    have a':i+1<=1000000000:=by omega
    generalize ((List.range i).map λi=>kH x i BC)=OK at h5 eS ⊢;generalize kH x i BC=pr at c eS;clear mv mo c5 hm lo lc kO
    repeat' first|(with_reducible first|apply ai|apply aF|apply au|apply af|refine aQ (id:=19) 10 mixed (by decide +kernel) ?_|apply al|refine And.intro ?_ ?_|refine cw (c) ?_|intro _)|(simp[*,h3,h9,h5,lcar])|(refine ae (c) ?_ ?_;(· (simp[*];done)))
    all_goals first
     |omega
     |assumption
     |(refine nx (i+1) ?_ ?_;(· exact hz);(refine aO [] ?_ ?_<;>first|trivial|(simp[*,eS];done)))
   .have ha:i=x.os.length:=by omega
    subst ha
    have kO2:BO=(List.range x.os.length).map λi=>kH x i BC:=kO
    clear kk kO
    repeat' first|(with_reducible first|apply ai|apply aL|apply af|apply al|intro _)|(simp[*,h3])
    all_goals first
     |omega
     |(refine aZ () ?_ ?_;(· trivial);(refine aD ?_ ?_<;>first|trivial|(simp[*,kO2];done)))
  .clear e3 e0 kk
   have lbo:BO.length=x.os.length:=by rw[show BO=_ from kO];simp
   clear kO
   repeat' first|(with_reducible first|apply ai|apply az|apply af|refine And.intro ?_ ?_|refine cw (c4) ?_|intro _)|(simp[*,lpl,lcar,lbo])|(refine ae (c4) ?_ ?_;(· (simp[*];done)))
noncomputable instance zi3:av:=LD
theorem zdb(x:Rd)(os cs:List Int):∃n1 a1 n2 a2 n3 a3 n4 a4,mH x os cs=.agg [.sl n1 a1,.sl n2 a2,.sl n3 a3,.sl n4 a4]:=⟨_,_,_,_,_,_,_,_,rfl⟩
theorem zcd(x:Rd):∃n1 a1 n2 a2 n3 a3,zdi x=.agg [.sl n1 a1,.int .i64 (eQ x (bF x)),.sl n2 a2,.sl n3 a3]:=⟨_,_,_,_,_,_,rfl⟩
theorem zg1(ab:List Car)(os:List Ord)(wt:List (List Int))(zs:List Par)(o c:Int):mM Tz.prog Tryz.f8 (Tryz.f8.body.getD .skip) [.agg [.sl ab.length (aS ab),.sl os.length (aR os),.sl wt.length (a8 wt),.sl zs.length (aT zs)],.int .i64 o,.int .i64 c] (.bool true) true:=by
 have ca:=oT;have cf:=pH ab os wt zs;refine ny (di (by kernel_rfl)) ?_;have hb:Tryz.f8.body=some _:=rfl;rw[hb];clear hb;simp only[gk,Tryz.ntmps8,Tryz.results8]
 cases hw:jK ab os wt zs with
 |false=>
  rw[hw] at cf;clear hw
  repeat' first|(with_reducible first|apply ai|apply au|apply az|apply af|apply al|refine And.intro ?_ ?_|refine cw (ca) ?_|refine cw (cf) ?_|intro _)|(simp[*])|(refine ae (ca) ?_ ?_;(· (simp[*];done)))|(refine ae (cf) ?_ ?_;(· (simp[*];done)))
  all_goals first|omega
 |true=>
  rw[hw] at cf;obtain⟨⟨l1,k1⟩,⟨l2,k2⟩,l3,l4,l5,l6,l7⟩:=nD hw
  have c1:aC Tz.prog 20 [.agg [.sl ab.length (aS ab),.sl os.length (aR os),.sl wt.length (a8 wt),.sl zs.length (aT zs)]] (.int .i64 (ceR (cG ab os wt zs hw))) true:=
   zgc ab os wt zs (by omega) (by omega) (by omega) (by omega) (λx hx=>by have:=l5 x hx;omega) (λx hx=>by have:=l6 x hx;omega) (λx hx=>by have:=l7 x hx;omega)
  have h1:=zeu ab os wt zs (by omega) o;have h2:=zev ab os wt zs (by omega) c;obtain⟨r,hr⟩:∃r,r=cG ab os wt zs hw:=⟨_,rfl⟩
  have ev:Tw.aM r=.agg [.sl ab.length (aS ab),.sl os.length (aR os),.sl wt.length (a8 wt),.sl zs.length (aT zs)]:=by rw[hr];rfl
  have er:r.ab=ab/\r.os=os/\r.wt=wt/\r.zs=zs:=by rw[hr];exact⟨rfl,rfl,rfl,rfl⟩
  have cc:=nC r;rw[<-hr] at c1;rw[ev] at cc;clear l1 l2 l3 l4 l5 l6 l7 k1 k2 hr hw;have sn:=zgx;unfold mE at sn;by_cases he:ceR r=0
  .have ok:=oc r he;have cb:=zcc r he;obtain⟨n1,a1,n2,a2,n3,a3,eb⟩:=zcd (aj r);rw[eb] at cb;rw[he] at c1;rw[ev] at cb
   cases ho:aU o 0 ((os.length:Int)-1) with
   |false=>
    rw[ho] at h1;have c2:=zgz r he o (by rw[er.2.1];exact ho);unfold mE at c2;rw[ev] at c2
    cases hc:aU c 0 ((ab.length:Int)-1) with
    |false=>
     rw[hc] at h2;have c3:=zem r he c (by rw[er.1];exact hc);unfold mE at c3;rw[ev] at c3;clear ok eb he ev er ho hc
     repeat' first|(with_reducible first|apply ai|apply au|apply az|apply af|apply al|refine And.intro ?_ ?_|refine cw (ca) ?_|refine cw (cf) ?_|refine cw (cc) ?_|refine cw (c1) ?_|refine cw (c2) ?_|refine cw (c3) ?_|refine cw (cb) ?_|refine cw (h1) ?_|refine cw (h2) ?_|refine cw (sn) ?_|intro _)|(simp[*])|(refine ae (ca) ?_ ?_;(· (simp[*];done)))|(refine ae (cf) ?_ ?_;(· (simp[*];done)))|(refine ae (cc) ?_ ?_;(· (simp[*];done)))|(refine ae (c1) ?_ ?_;(· (simp[*];done)))|(refine ae (c2) ?_ ?_;(· (simp[*];done)))|(refine ae (c3) ?_ ?_;(· (simp[*];done)))|(refine ae (cb) ?_ ?_;(· (simp[*];done)))|(refine ae (h1) ?_ ?_;(· (simp[*];done)))|(refine ae (h2) ?_ ?_;(· (simp[*];done)))|(refine ae (sn) ?_ ?_;(· (simp[*];done)))
     all_goals first|omega|exact dz (by decide)
    |true=>
     rw[hc] at h2;obtain⟨q,rfl⟩:∃q:Nat,c=q:=⟨c.toNat,by have:=kQ.1 hc;omega⟩
     have hq:q<r.ab.length:=by rw[er.1];have:=kQ.1 hc;omega
     have c3:=zel r he q (by rw[er.1];exact hc);have c4:=ze7 (aj r) ((Li r).1 he) q hq;have c5:=zcc (bL r he [] [(q:Int)]) (LS r he [] [(q:Int)]);have c6:=zda (bL r he [] [(q:Int)]);have h':=ze4 r he (q:Int);obtain⟨m1,b1,m2,b2,m3,b3,eb2⟩:=zcd (aj (bL r he [] [(q:Int)]));rw[eb2] at c5;rw[zc2] at c5 c6;obtain⟨x1,y1,x2,y2,x3,y3,x4,y4,el⟩:=zdb (aj r) [] [(q:Int)];rw[el] at c3 c4 c5 c6;rw[ev] at c3
     change aC Tz.prog _ [Tw.aM r,_] _ _ at c4
     rw[ev] at c4;generalize eQ (aj (bL r he [] [(q:Int)])) (bF (aj (bL r he [] [(q:Int)])))=B at *;generalize eQ (aj r) (bF (aj r))=A at *;clear ok eb eb2 el ev er ho hc hq
     repeat' first|(with_reducible first|apply ai|apply au|apply az|apply af|refine aQ (id:=23) 21 mixed (by decide +kernel) ?_|apply al|refine And.intro ?_ ?_|refine cw (ca) ?_|refine cw (cf) ?_|refine cw (cc) ?_|refine cw (c1) ?_|refine cw (c2) ?_|refine cw (c3) ?_|refine cw (c4) ?_|refine cw (c5) ?_|refine cw (c6) ?_|refine cw (cb) ?_|refine cw (h1) ?_|refine cw (h2) ?_|refine cw (sn) ?_|intro _)|(simp[*,h'])|(refine ae (ca) ?_ ?_;(· (simp[*];done)))|(refine ae (cf) ?_ ?_;(· (simp[*];done)))|(refine ae (cc) ?_ ?_;(· (simp[*];done)))|(refine ae (c1) ?_ ?_;(· (simp[*];done)))|(refine ae (c2) ?_ ?_;(· (simp[*];done)))|(refine ae (c3) ?_ ?_;(· (simp[*];done)))|(refine ae (c4) ?_ ?_;(· (simp[*];done)))|(refine ae (c5) ?_ ?_;(· (simp[*];done)))|(refine ae (c6) ?_ ?_;(· (simp[*];done)))|(refine ae (cb) ?_ ?_;(· (simp[*];done)))|(refine ae (h1) ?_ ?_;(· (simp[*];done)))|(refine ae (h2) ?_ ?_;(· (simp[*];done)))|(refine ae (sn) ?_ ?_;(· (simp[*];done)))
     all_goals first|omega|exact dz (by decide)
   |true=>
    rw[ho] at h1;obtain⟨p,rfl⟩:∃p:Nat,o=p:=⟨o.toNat,by have:=kQ.1 ho;omega⟩;have c2:=zgy r he p (by rw[er.2.1];exact ho);have d4:=zgr (aj r) ((Li r).1 he) p;have d5:=zcc (bL r he [(p:Int)] []) (LS r he [(p:Int)] []);have d6:=zda (bL r he [(p:Int)] []);have hle:=zgi r he (p:Int);obtain⟨m1,b1,m2,b2,m3,b3,eb2⟩:=zcd (aj (bL r he [(p:Int)] []));rw[eb2] at d5;rw[zc2] at d5 d6;obtain⟨x1,y1,x2,y2,x3,y3,x4,y4,el⟩:=zdb (aj r) [(p:Int)] [];rw[el] at c2 d4 d5 d6;rw[ev] at c2
    change aC Tz.prog _ [Tw.aM r,_] _ _ at d4
    rw[ev] at d4
    have h8:¬eQ (aj r) (bF (aj r))<eQ (aj (bL r he [(p:Int)] [])) (bF (aj (bL r he [(p:Int)] []))):=by omega
    generalize eQ (aj (bL r he [(p:Int)] [])) (bF (aj (bL r he [(p:Int)] [])))=B at *;clear hle eb2 el
    cases hc:aU c 0 ((ab.length:Int)-1) with
    |false=>
     rw[hc] at h2;have c3:=zem r he c (by rw[er.1];exact hc);unfold mE at c3;rw[ev] at c3;generalize eQ (aj r) (bF (aj r))=A at *;clear ok eb he ev er ho hc
     repeat' first|(with_reducible first|apply ai|apply au|apply az|apply af|refine aQ (id:=18) 21 mixed (by decide +kernel) ?_|apply al|refine And.intro ?_ ?_|refine cw (ca) ?_|refine cw (cf) ?_|refine cw (cc) ?_|refine cw (c1) ?_|refine cw (c2) ?_|refine cw (c3) ?_|refine cw (cb) ?_|refine cw (d4) ?_|refine cw (d5) ?_|refine cw (d6) ?_|refine cw (h1) ?_|refine cw (h2) ?_|refine cw (sn) ?_|intro _)|(simp[*,h8])|(refine ae (ca) ?_ ?_;(· (simp[*];done)))|(refine ae (cf) ?_ ?_;(· (simp[*];done)))|(refine ae (cc) ?_ ?_;(· (simp[*];done)))|(refine ae (c1) ?_ ?_;(· (simp[*];done)))|(refine ae (c2) ?_ ?_;(· (simp[*];done)))|(refine ae (c3) ?_ ?_;(· (simp[*];done)))|(refine ae (cb) ?_ ?_;(· (simp[*];done)))|(refine ae (d4) ?_ ?_;(· (simp[*];done)))|(refine ae (d5) ?_ ?_;(· (simp[*];done)))|(refine ae (d6) ?_ ?_;(· (simp[*];done)))|(refine ae (h1) ?_ ?_;(· (simp[*];done)))|(refine ae (h2) ?_ ?_;(· (simp[*];done)))|(refine ae (sn) ?_ ?_;(· (simp[*];done)))
     all_goals first|omega|exact dz (by decide)
    |true=>
     rw[hc] at h2;obtain⟨q,rfl⟩:∃q:Nat,c=q:=⟨c.toNat,by have:=kQ.1 hc;omega⟩
     have hq:q<r.ab.length:=by rw[er.1];have:=kQ.1 hc;omega
     have c3:=zel r he q (by rw[er.1];exact hc);have c4:=ze7 (aj r) ((Li r).1 he) q hq;have c5:=zcc (bL r he [] [(q:Int)]) (LS r he [] [(q:Int)]);have c6:=zda (bL r he [] [(q:Int)]);have h':=ze4 r he (q:Int);obtain⟨m1,b1,m2,b2,m3,b3,eb2⟩:=zcd (aj (bL r he [] [(q:Int)]));rw[eb2] at c5;rw[zc2] at c5 c6;obtain⟨x1,y1,x2,y2,x3,y3,x4,y4,el⟩:=zdb (aj r) [] [(q:Int)];rw[el] at c3 c4 c5 c6;rw[ev] at c3
     change aC Tz.prog _ [Tw.aM r,_] _ _ at c4
     rw[ev] at c4;generalize eQ (aj (bL r he [] [(q:Int)])) (bF (aj (bL r he [] [(q:Int)])))=C at *;generalize eQ (aj r) (bF (aj r))=A at *;clear ok eb eb2 el ev er ho hc hq
     repeat' first|(with_reducible first|apply ai|apply au|apply az|apply af|refine aQ (id:=18) 21 mixed (by decide +kernel) ?_|refine aQ (id:=23) 21 mixed (by decide +kernel) ?_|apply al|refine And.intro ?_ ?_|refine cw (ca) ?_|refine cw (cf) ?_|refine cw (cc) ?_|refine cw (c1) ?_|refine cw (c2) ?_|refine cw (c3) ?_|refine cw (c4) ?_|refine cw (c5) ?_|refine cw (c6) ?_|refine cw (cb) ?_|refine cw (d4) ?_|refine cw (d5) ?_|refine cw (d6) ?_|refine cw (h1) ?_|refine cw (h2) ?_|intro _)|(simp[*,h',h8])|(refine ae (ca) ?_ ?_;(· (simp[*];done)))|(refine ae (cf) ?_ ?_;(· (simp[*];done)))|(refine ae (cc) ?_ ?_;(· (simp[*];done)))|(refine ae (c1) ?_ ?_;(· (simp[*];done)))|(refine ae (c2) ?_ ?_;(· (simp[*];done)))|(refine ae (c3) ?_ ?_;(· (simp[*];done)))|(refine ae (c4) ?_ ?_;(· (simp[*];done)))|(refine ae (c5) ?_ ?_;(· (simp[*];done)))|(refine ae (c6) ?_ ?_;(· (simp[*];done)))|(refine ae (cb) ?_ ?_;(· (simp[*];done)))|(refine ae (d4) ?_ ?_;(· (simp[*];done)))|(refine ae (d5) ?_ ?_;(· (simp[*];done)))|(refine ae (d6) ?_ ?_;(· (simp[*];done)))|(refine ae (h1) ?_ ?_;(· (simp[*];done)))|(refine ae (h2) ?_ ?_;(· (simp[*];done)))|(refine ae (sn) ?_ ?_;(· (simp[*];done)))
     all_goals first|omega|exact dz (by decide)
  .have c2:=zg0 r he o;have c3:=zf5 r he c;unfold mE at c2 c3;rw[ev] at c2 c3;generalize ceR r=e at *;clear ev er h1 h2
   repeat' first|(with_reducible first|apply ai|apply au|apply az|apply af|apply al|refine And.intro ?_ ?_|refine cw (ca) ?_|refine cw (cf) ?_|refine cw (cc) ?_|refine cw (c1) ?_|refine cw (c2) ?_|refine cw (c3) ?_|refine cw (sn) ?_|intro _)|(simp[*,he])|(refine ae (ca) ?_ ?_;(· (simp[*];done)))|(refine ae (cf) ?_ ?_;(· (simp[*];done)))|(refine ae (cc) ?_ ?_;(· (simp[*];done)))|(refine ae (c1) ?_ ?_;(· (simp[*];done)))|(refine ae (c2) ?_ ?_;(· (simp[*];done)))|(refine ae (c3) ?_ ?_;(· (simp[*];done)))|(refine ae (sn) ?_ ?_;(· (simp[*];done)))
   all_goals first|omega|exact dz (by decide)
end Go.Proofs.YthpkmilhiganjaaGreat
