/- Lemmas. -/
import Derived.Test.YthpkmilhiganjaaGreatPEc
import Derived.Test.YthpkmilhiganjaaGreatPEf
import Derived.Test.YthpkmilhiganjaaGreatPDb
import Derived.Test.YthpkmilhiganjaaGreatPDc
set_option linter.all false
set_option maxHeartbeats 32000000
set_option maxRecDepth 100000
namespace Go.Proofs.YthpkmilhiganjaaGreat
open Go Go.Fi
noncomputable instance instLD38:av:=LD
theorem zel(f:Nat->Int)(k:Nat):(List.range (k+1)).map f=(List.range k).map f++[f k]:=by simp[jN]
theorem zf7(r:Tw.RND)(h:ceR r=0):aC Tz.prog 25 [Tw.aM r] (.tup [zc1 (aj r),.int .i64 0]) false:=by
 have ok:=C7 r h;have c1:=dI r;rw[gr r h] at c1;generalize hx:aj r=x at *;clear hx h;have mi:=LP x ok;have c2:=ze8 x ok
 have c3:=ze7 (lp x x.os.length) x.os.length x.ab.length (x.ab.length+x.os.length) rfl (zda x _) (λi hi=>by
  have:nth (lp x x.os.length) i=sO x i:=C3 _ _ _ hi
  rw[this,zey]) (EX x ok)
 have eA:qc (λi j=>nth (nth (lp x x.os.length) i) j) x.os.length (x.ab.length+x.os.length) x.os.length=fh x:=rfl;rw[eA] at c3;clear eA;have c4:=zet x ok (bl x) (zdo x ok)
 have c5:=λi hi=>zes x i (bO x) hi (by have:=ok.lc;omega) (by have:=ok.lf;omega) (by have:=ok.lw;omega) (ok.fr i hi) (ok.wr i hi) (by simp[bO]) (ok.pr i hi) (ok.wn i hi) (λk hk=>by have:=zdm x ok k hk;omega)
 have lcar:(bO x).length=x.ab.length:=by simp[bO]
 have lpl:(bl x).length=x.os.length:=z7 _ _ _;rw[lcar] at c5;rw[lpl] at c4;have r1:=LO (-1) x.os.length (by have:=ok.lo;omega);have lo:=ok.lo;have lc:=ok.lc
 have mv:∀k,k<x.ab.length->inI .i64 (-(nth (fh x).v k)):=λk hk=>by
  have h1:=mi.hv k (by omega);have h2:=mi.vb (EX x ok) (aE _) (j:=k) (by omega);exact aG (by omega) (by omega)
 have mo:∀k,k<x.ab.length->nth (fh x).ow k=-1\/(0<=nth (fh x).ow k/\nth (fh x).ow k<(x.os.length:Int)):=λk hk=>mi.how k (by omega)
 have ml:=mi.lo;have mlv:=mi.lv
 have eC:bO x=(List.range x.ab.length).map λk=>-(nth (fh x).v k):=rfl
 have eO:cq x=(List.range x.os.length).map λi=>ft x i (bO x):=rfl
 have eP:bl x=kQ (fh x).ow x.os.length x.ab.length:=rfl;unfold zc1;unfold zc0 at c3;generalize kx x (bl x)=CO at *;generalize bO x=BC at *;generalize cq x=BO at *;generalize bl x=BP at *;generalize fh x=A at *;obtain⟨Au,Av,Ao⟩:=A;dsimp only at c3 mv mo ml mlv eC eO eP;generalize lp x x.os.length=TS at *;obtain⟨m,hm⟩:∃m,x.ab.length+x.os.length=m:=⟨_,rfl⟩;rw[hm] at c3 ml mlv
 have hmI:(x.ab.length:Int)+(x.os.length:Int)=(m:Int):=by omega
 have aa:inI .i64 (m:Int):=aG (by omega) (by omega);have kk:=keep (And.intro mv (And.intro mo (And.intro c5 (And.intro hm (And.intro lo lc)))));have kC:=keep eC;have kO:=keep eO;have kP:=keep eP;clear mi ok mv mo c5 hm lo lc eC eO eP;unfold Rd.pv at c1 c2 c4;unfold Tw.aM at *;generalize r.cz=p1 at *;generalize r.osP=p2 at *;generalize r.cT=p3 at *;generalize r.zsP=p4 at *;refine rcK Tz.func25 ?_;simp only[Tryz.results25,Tryz.ntmps25]
 repeat' first|(with_reducible first|apply ai|apply au|apply af|refine aQ (id:=5) 12 mixed (by decide +kernel) ?_|apply al|refine And.intro ?_ ?_|refine cw (c1) ?_|refine cw (c2) ?_|refine cw (c3) ?_|refine cwM (r1) ?_|intro _)|(simp[*,hmI,aa])|(refine ae (c1) ?_ ?_;(· (simp[*];done)))|(refine ae (c2) ?_ ?_;(· (simp[*];done)))|(refine ae (c3) ?_ ?_;(· (simp[*];done)))
 all_goals try first|omega|assumption
 clear c1 c2 c3 r1;have e1:iA (kQ Ao x.os.length 0)=iA (List.replicate x.os.length (-1)):=rfl;have e0:iA []=[]:=rfl;have e2:iA ((List.range 0).map λk=>-(nth Av k))=[]:=rfl;refine df 6 (λ(k:Nat)=>k<=x.ab.length) [2,4,7,8,47] (λ(k:Nat)=>[(48,.w false false (.int .i64 k))]) [1] (λ(k:Nat)=>[(4,iA (kQ Ao x.os.length k)),(5,iA ((List.range k).map λk=>-(nth Av k))),(2,[.msl 4 x.os.length 1 0 x.os.length,.w false false (.int .i64 0),.w true true (.sl 0 []),.msl 5 k 1 0 k])]) (λ(k:Nat)=>x.ab.length-k) (λ(_u:Unit)=>True) [2,4,8] (λ(_u:Unit)=>[]) [1] (λ(_u:Unit)=>[(4,iA BP),(5,iA BC),(2,[.msl 4 x.os.length 1 0 x.os.length,.w false false (.int .i64 0),.w true true (.sl 0 []),.msl 5 x.ab.length 1 0 x.ab.length])]) (0) (aK _) (aO [] (by simp[e1,e2,e0]) (by simp[e1,e2,e0])) (λk hk=>?_) (λ_u hf=>?_)
 .clear e1 e2 e0;by_cases h3:k<x.ab.length
  .obtain⟨mv,mo,c5,hm,lo,lc⟩:=kk;have h8:inI .i64 ((k:Int)+1):=aG (by omega) (by omega)
   have hz:k+1<=x.ab.length:=by omega
   have hiv:=mv k h3;have hh:=mo k h3
   have a4:k<Av.length:=by omega
   have hy:k<Ao.length:=by omega
   have hq:k<m:=by omega
   have a5:=z7 Ao x.os.length k
   have h5:((List.range k).map λk=>-(nth Av k)).length=k:=by simp
   have eS:iA ((List.range (k+1)).map λk=>-(nth Av k))=iA ((List.range k).map λk=>-(nth Av k))++[.w false false (.int .i64 (-(nth Av k)))]:=by rw[zel,<-LK];rfl
   have eP:kQ Ao x.os.length (k+1)=if 0<=nth Ao k then (kQ Ao x.os.length k).set (nth Ao k).toNat k else kQ Ao x.os.length k:=rfl
   have a':k+1<=1000000000:=by omega
   generalize ((List.range k).map λk=>-(nth Av k))=CK at h5 eS ⊢;clear mv mo c5 hm lo lc kC kO kP
   rcases hh with hh|⟨h1,h2⟩
   .rw[ar (by omega)] at eP
    repeat' first|(with_reducible first|apply ai|apply aF|apply au|apply af|refine aQ (id:=14) 12 mixed (by decide +kernel) ?_|apply al|intro _)|(simp[*,h3,h8,hiv,hh,a4,hy,hq,ml,mlv,a5,h5])
    all_goals first
     |omega
     |assumption
     |(refine nx (k+1) ?_ ?_;(· exact hz);(refine aO [] ?_ ?_<;>first|trivial|(simp[*,eS,eP];done)))
   .obtain⟨j,hj⟩:∃j:Nat,nth Ao k=j:=⟨(nth Ao k).toNat,by omega⟩;rw[hj,aB (by omega),bT] at eP
    have a7:j<x.os.length:=by omega
    have a6:(0:Int)<=(j:Int):=by omega
    clear h1 h2
    repeat' first|(with_reducible first|apply ai|apply aF|apply au|apply af|refine aQ (id:=14) 12 mixed (by decide +kernel) ?_|apply al|refine And.intro ?_ ?_|intro _)|(simp[*,h3,h8,hiv,hj,a4,hy,hq,ml,mlv,a5,h5,a7,a6])
    all_goals first
     |omega
     |assumption
     |(refine nx (k+1) ?_ ?_;(· exact hz);(refine aO [] ?_ ?_<;>first|trivial|(simp[*,eS,eP];done)))
  .have h9:k=x.ab.length:=by omega
   subst h9
   have kC2:BC=(List.range x.ab.length).map λk=>-(nth Av k):=kC
   have kP2:BP=kQ Ao x.os.length x.ab.length:=kP;clear kk kC kO kP
   repeat' first|(with_reducible first|apply ai|apply aL|apply af|apply al|intro _)|(simp[*,h3])
   all_goals first
    |omega
    |(refine aZ () ?_ ?_;(· trivial);(refine aD ?_ ?_<;>first|trivial|(simp[*,kC2,kP2];done)))
 .clear e1 e2 e0 kC kP
  repeat' first|(with_reducible first|apply ai|apply af|intro _)|(simp[*])
  have e0:iA []=[]:=rfl;have e3:iA ((List.range 0).map λi=>ft x i BC)=[]:=rfl;refine df 7 (λ(i:Nat)=>i<=x.os.length) [2,4,8,86] (λ(i:Nat)=>[(87,.w false false (.int .i64 i))]) [1,4,5] (λ(i:Nat)=>[(6,iA ((List.range i).map λi=>ft x i BC)),(2,[.msl 4 x.os.length 1 0 x.os.length,.w false false (.int .i64 0),.msl 6 i 1 0 i,.msl 5 x.ab.length 1 0 x.ab.length])]) (λ(i:Nat)=>x.os.length-i) (λ(_u:Unit)=>True) [2,4,8] (λ(_u:Unit)=>[]) [1,4,5] (λ(_u:Unit)=>[(6,iA BO),(2,[.msl 4 x.os.length 1 0 x.os.length,.w false false (.int .i64 0),.msl 6 x.os.length 1 0 x.os.length,.msl 5 x.ab.length 1 0 x.ab.length])]) (0) (aK _) (aO [] (by simp[e3,e0]) (by simp[e3,e0])) (λi hk=>?_) (λ_u hf=>?_)
  .clear e3 e0;by_cases h3:i<x.os.length
   .obtain⟨mv,mo,c5,hm,lo,lc⟩:=kk;have h8:inI .i64 ((i:Int)+1):=aG (by omega) (by omega)
    have hz:i+1<=x.os.length:=by omega
    have c:=c5 i h3;unfold Rd.pv at c
    have h5:((List.range i).map λi=>ft x i BC).length=i:=by simp
    have eS:iA ((List.range (i+1)).map λi=>ft x i BC)=iA ((List.range i).map λi=>ft x i BC)++[.w false false (.int .i64 (ft x i BC))]:=by rw[zel,<-LK];rfl
    have a':i+1<=1000000000:=by omega
    generalize ((List.range i).map λi=>ft x i BC)=OK at h5 eS ⊢;generalize ft x i BC=pr at c eS;clear mv mo c5 hm lo lc kO
    repeat' first|(with_reducible first|apply ai|apply aF|apply au|apply af|refine aQ (id:=19) 10 mixed (by decide +kernel) ?_|apply al|refine And.intro ?_ ?_|refine cw (c) ?_|intro _)|(simp[*,h3,h8,h5,lcar])|(refine ae (c) ?_ ?_;(· (simp[*];done)))
    all_goals first
     |omega
     |assumption
     |(refine nx (i+1) ?_ ?_;(· exact hz);(refine aO [] ?_ ?_<;>first|trivial|(simp[*,eS];done)))
   .have h9:i=x.os.length:=by omega
    subst h9
    have kO2:BO=(List.range x.os.length).map λi=>ft x i BC:=kO
    clear kk kO
    repeat' first|(with_reducible first|apply ai|apply aL|apply af|apply al|intro _)|(simp[*,h3])
    all_goals first
     |omega
     |(refine aZ () ?_ ?_;(· trivial);(refine aD ?_ ?_<;>first|trivial|(simp[*,kO2];done)))
  .clear e3 e0 kk
   have lbo:BO.length=x.os.length:=by rw[show BO=_ from kO];simp
   clear kO
   repeat' first|(with_reducible first|apply ai|apply az|apply af|refine And.intro ?_ ?_|refine cw (c4) ?_|intro _)|(simp[*,lpl,lcar,lbo])|(refine ae (c4) ?_ ?_;(· (simp[*];done)))
noncomputable instance zh6:av:=LD
theorem zf8(r:Tw.RND)(ok:b9 (aj r)):D7 r (cq (aj r)) (bO (aj r))=(kx (aj r) (bl (aj r)),true):=by
 have h:=zco (aj r) ok
 have hz:¬Bd (aj r) (bO (aj r)) (cq (aj r)) 0=true:=λe=>by
  have q:(C8 (aj r) (cq (aj r)) (bO (aj r))).2≠0:=by
   unfold C8;rw[e];by_cases a1:(cq (aj r)).any sW=true
   .rw[aB a1];exact (by decide:(2:Int)≠0)
   .rw[ar a1];by_cases a2:(bO (aj r)).any n5=true
    .rw[aB a2];exact (by decide:(2:Int)≠0)
    .rw[ar a2,aB rfl];exact (by decide:(20:Int)≠0)
  exact q (by rw[h])
 have hs:bW (cq (aj r)) (cq (aj r)).length-bW (bO (aj r)) (bO (aj r)).length=kx (aj r) (bl (aj r)):=by
  rw[zdv _ ok,Ak,C5]
 have eb:=zek r ok (bO (aj r)) (cq (aj r)) 0 (by rw[Ak];exact IQ (cY _));unfold D7;rw[ar (by rw[<-eb];exact hz),hs]
theorem zf9(r:Tw.RND)(ok:b9 (aj r)):LC r.ab r.os (cq (aj r)) (bO (aj r))=0:=by
 have b:=C4 _ ok;have h1:(cq (aj r)).length=r.os.length/\(bO (aj r)).length=r.ab.length:=⟨Ak _,C5 _⟩;unfold LC
 rw[ar (λh=>h h1),
  ar (by
   rw[LZ λj hj=>by
    have h':j<(aj r).os.length:=by rw[<-Ak (aj r)];exact hj
    rw[LW _ ok j h'];have:=b.u0 j h';simp only[sW,ym]
    exact mO.2 (by omega)]
   decide),
  ar (by
   rw[LZ λj hj=>by
    have h':j<(aj r).ab.length:=by rw[<-C5 (aj r)];exact hj
    have:=b.v0 j h';simp only[n5,ym]
    exact mO.2 (by omega)]
   decide)]
theorem zga(ab:List Car)(os:List Ord)(wt:List (List Int))(zs:List Par):mM Tz.prog Tryz.f5 (Tryz.f5.body.getD .skip) [.agg [.sl ab.length (aS ab),.sl os.length (aR os),.sl wt.length (a8 wt),.sl zs.length (aT zs)]] (.bool true) true:=by
 have ca:=oT;have cf:=pH ab os wt zs;refine ny (di (by kernel_rfl)) ?_;have hb:Tryz.f5.body=some _:=rfl;rw[hb];clear hb;simp only[gk,Tryz.ntmps5,Tryz.results5]
 cases hw:jK ab os wt zs with
 |false=>
  rw[hw] at cf;clear hw
  repeat' first|(with_reducible first|apply ai|apply au|apply az|apply af|apply al|refine And.intro ?_ ?_|refine cw (ca) ?_|refine cw (cf) ?_|intro _)|(simp[*])|(refine ae (ca) ?_ ?_;(· (simp[*];done)))|(refine ae (cf) ?_ ?_;(· (simp[*];done)))
  all_goals first|omega
 |true=>
  rw[hw] at cf;obtain⟨⟨l1,k1⟩,⟨l2,k2⟩,l3,l4,l5,l6,l7⟩:=nD hw
  have c1:aC Tz.prog 20 [.agg [.sl ab.length (aS ab),.sl os.length (aR os),.sl wt.length (a8 wt),.sl zs.length (aT zs)]] (.int .i64 (ceR (cG ab os wt zs hw))) true:=
   zfl ab os wt zs (by omega) (by omega) (by omega) (by omega) (λx hx=>by have:=l5 x hx;omega) (λx hx=>by have:=l6 x hx;omega) (λx hx=>by have:=l7 x hx;omega)
  obtain⟨r,hr⟩:∃r,r=cG ab os wt zs hw:=⟨_,rfl⟩
  have ev:Tw.aM r=.agg [.sl ab.length (aS ab),.sl os.length (aR os),.sl wt.length (a8 wt),.sl zs.length (aT zs)]:=by rw[hr];rfl
  have er:r.ab=ab/\r.os=os/\r.wt=wt/\r.zs=zs:=by rw[hr];exact⟨rfl,rfl,rfl,rfl⟩
  have cc:=nC r;rw[<-hr] at c1;rw[ev] at cc;clear l1 l2 l3 l4 l5 l6 l7 k1 k2 hr hw;by_cases he:ceR r=0
  .have ok:=C7 r he;have lo:r.os.length<=8:=ok.lo;have lc:r.ab.length<=8:=ok.lc;have cb:=zf7 r he;have hB:=D5 (aj r) ok;have cp:=zfx r ok (bl (aj r)) (by rw[E1];have:=ok.lo;omega);rw[zdu _ _ hB] at cp;have cL:=zf2 r he;rw[zfs r he] at cL;have cC:=zee r.ab r.os r.wt r.zs (bl (aj r)) (zec r ok _ hB.toPlanIn);have eC:=zct (aj r) (bl (aj r)) hB.len;have ho:rcS r.os r.wt (bl (aj r))=kx (aj r) (bl (aj r)):=eC.symm;rw[ho] at cC;have hc:(cq (aj r)).length=r.os.length:=Ak _;have ha:(bO (aj r)).length=r.ab.length:=C5 _;have hg:(bl (aj r)).length=r.os.length:=E1 _;have cE:=zf4 r.ab r.os r.wt r.zs (cq (aj r)) (bO (aj r)) (by omega) (by omega);rw[zf9 r ok] at cE;have bi:=C4 _ ok
   have cB:=zf6 r ok (cq (aj r)) (bO (aj r)) hc ha (λj hj=>by
    rw[LW _ ok j (by show j<r.os.length;omega)];have:=bi.u0 j (by show j<r.os.length;omega)
    omega) (λj hj=>by
    have:=bi.v0 j (by show j<r.ab.length;omega)
    omega)
   rw[zf8 r ok] at cB
   have cM:=λq:Nat=>zf3 r he q
   have cN:=λq:Int=>zej r.ab r.os r.wt r.zs (bl (aj r)) q hg (by omega)
   have eM:=λq:Nat=>zft r he q
   have eb:zc1 (aj r)=.agg [.sl (bl (aj r)).length (ints (bl (aj r))),.int .i64 (kx (aj r) (bl (aj r))),.sl (cq (aj r)).length (ints (cq (aj r))),.sl (bO (aj r)).length (ints (bO (aj r)))]:=by rw[hc,ha,hg];rfl
   rw[eb] at cb;rw[he] at c1
   change aC Tz.prog _ [Tw.aM r,_] _ _ at cC
   change aC Tz.prog _ [Tw.aM r,_] _ _ at cE
   change ∀q:Int,aC Tz.prog _ [Tw.aM r,_,_] _ _ at cN
   rw[ev] at cb cp cL cC cE cB cM cN;have kk:=keep (And.intro cM (And.intro cN eM));generalize kx (aj r) (bl (aj r))=C at *;generalize cq (aj r)=PO at *;generalize bO (aj r)=PC at *;generalize bl (aj r)=P at *;generalize D3 r=LS at *;generalize m6 r.os=CN at *;generalize IC r=MS at *;clear ok lo lc hB eC ho hc ha hg bi cM cN eM eb he ev er
   repeat' first|(with_reducible first|apply ai|apply au|apply af|apply al|refine And.intro ?_ ?_|refine cw (ca) ?_|refine cw (cf) ?_|refine cw (cc) ?_|refine cw (c1) ?_|refine cw (cb) ?_|refine cw (cp) ?_|refine cw (cL) ?_|refine cw (cC) ?_|refine cw (cE) ?_|intro _)|(simp[*])|(refine ae (ca) ?_ ?_;(· (simp[*];done)))|(refine ae (cf) ?_ ?_;(· (simp[*];done)))|(refine ae (cc) ?_ ?_;(· (simp[*];done)))|(refine ae (c1) ?_ ?_;(· (simp[*];done)))|(refine ae (cb) ?_ ?_;(· (simp[*];done)))|(refine ae (cp) ?_ ?_;(· (simp[*];done)))|(refine ae (cL) ?_ ?_;(· (simp[*];done)))|(refine ae (cC) ?_ ?_;(· (simp[*];done)))|(refine ae (cE) ?_ ?_;(· (simp[*];done)))
   all_goals try first|omega|assumption|exact dz (by decide)
   refine bQ (λ(k:Nat)=>k<=7) [1,3,6] (λ(k:Nat)=>[(8,.w false false (.int .i64 k))]) [0,1] (λ(k:Nat)=>[]) (λ(k:Nat)=>7-k) (λ(_u:Unit)=>True) [1,3,6] (λ(_u:Unit)=>[]) [0,1] (λ(_u:Unit)=>[]) (0) (aK _) (by simp) (by simp) (λk hk=>?_) (λ_u hf=>?_)
   .by_cases h3:k<7
    .obtain⟨cM,cN,eM⟩:=kk;have d1:=cM k;rw[eM k] at d1;have d2:=cN k
     have a9:(k:Int)<=6:=by omega
     have h8:inI .i64 ((k:Int)+1):=aG (by omega) (by omega)
     have hz:k+1<=7:=by omega
     clear cM cN eM
     repeat' first|(with_reducible first|apply ai|apply aF|apply au|apply af|refine aQ (id:=15) 9 mixed (by decide +kernel) ?_|apply al|refine And.intro ?_ ?_|refine cw (d1) ?_|refine cw (d2) ?_|intro _)|(simp[*,a9,h8])|(refine ae (d1) ?_ ?_;(· (simp[*];done)))|(refine ae (d2) ?_ ?_;(· (simp[*];done)))
     all_goals first
      |omega
      |assumption
      |(refine nx (k+1) ?_ ?_;(· exact hz);(refine aD ?_ ?_<;>first|trivial|(simp[*];done)))
    .have h9:k=7:=by omega
     subst h9;clear kk
     repeat' first|(with_reducible first|apply ai|apply aL|apply af|apply al|intro _)|(simp[*])
     all_goals first
      |omega
      |(refine aZ () ?_ ?_;(· trivial);(refine aD ?_ ?_<;>first|trivial|(simp[*];done)))
   .clear kk
    repeat' first|(with_reducible first|apply ai|apply az|apply af|refine And.intro ?_ ?_|refine cw (cB) ?_|intro _)|(simp[*])|(refine ae (cB) ?_ ?_;(· (simp[*];done)))
    all_goals first|omega|trivial
  .have cb:=zfa r he;unfold zc2 at cb;rw[ev] at cb;generalize ceR r=e at *;clear ev er
   repeat' first|(with_reducible first|apply ai|apply au|apply az|apply af|apply al|refine And.intro ?_ ?_|refine cw (ca) ?_|refine cw (cf) ?_|refine cw (cc) ?_|refine cw (c1) ?_|refine cw (cb) ?_|intro _)|(simp[*,he])|(refine ae (ca) ?_ ?_;(· (simp[*];done)))|(refine ae (cf) ?_ ?_;(· (simp[*];done)))|(refine ae (cc) ?_ ?_;(· (simp[*];done)))|(refine ae (c1) ?_ ?_;(· (simp[*];done)))|(refine ae (cb) ?_ ?_;(· (simp[*];done)))
   all_goals first|omega|exact dz (by decide)
end Go.Proofs.YthpkmilhiganjaaGreat
