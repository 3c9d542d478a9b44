/- Lemmas. -/
import Derived.Test.YthpkmilhiganjaaGreatPEc
import Derived.Test.YthpkmilhiganjaaGreatPEg
import Derived.Test.YthpkmilhiganjaaGreatPDb
import Derived.Test.YthpkmilhiganjaaGreatPDc
set_option linter.all false
set_option maxHeartbeats 32000000
set_option maxRecDepth 100000
namespace Go.Proofs.YthpkmilhiganjaaGreat
open Go Go.Fi
noncomputable instance instLD38:bJ:=LD
theorem zf4(f:Nat->Int)(k:Nat):(List.range (k+1)).map f=(List.range k).map f++[f k]:=by simp[uV]
theorem zf5(r:Tw.RND)(h:ceR r=0):bT Tz.prog 25 [Tw.dB r] (.tup [zcu (bQ r),.int .i64 0]) false:=by
 have ok:=C7 r h;have c1:=qI r;rw[xi r h] at c1;generalize hx:bQ r=x at *;clear hx h;have mi:=zcj x ok;have c2:=zgx x ok
 have c3:=zgw (kz x x.os.length) x.os.length x.bz.length (x.bz.length+x.os.length) rfl (zec x _) (λi hi=>by
  have:nth (kz x x.os.length) i=tS x i:=C9 _ _ _ hi
  rw[this,zgn]) (zb7 x ok)
 have eA:qk (λi j=>nth (nth (kz x x.os.length) i) j) x.os.length (x.bz.length+x.os.length) x.os.length=cM x:=rfl;rw[eA] at c3;clear eA;have c4:=zgi x ok (ba x) (zer x ok)
 have c5:=λi hi=>zgh x i (bK x) hi (by have:=ok.lc;omega) (by have:=ok.lf;omega) (by have:=ok.lw;omega) (ok.fr i hi) (ok.wr i hi) (by simp[bK]) (ok.pr i hi) (ok.wn i hi) (λk hk=>by have:=zep x ok k hk;omega)
 have lcar:(bK x).length=x.bz.length:=by simp[bK]
 have lpl:(ba x).length=x.os.length:=C5 _ _ _;rw[lcar] at c5;rw[lpl] at c4;have r1:=zci (-1) x.os.length (by have:=ok.lo;omega);have lo:=ok.lo;have lc:=ok.lc
 have mv:∀k,k<x.bz.length->inI .i64 (-(nth (cM x).v k)):=λk hk=>by
  have h1:=mi.hv k ab;have h2:=mi.vb (zb7 x ok) (bV _) (j:=k) ab;exact cu ab ab
 have mo:∀k,k<x.bz.length->nth (cM x).ow k=-1\/(0<=nth (cM x).ow k/\nth (cM x).ow k<(x.os.length:Int)):=λk hk=>mi.how k ab
 have ml:=mi.lo;have mlv:=mi.lv
 have eC:bK x=(List.range x.bz.length).map λk=>-(nth (cM x).v k):=rfl
 have eO:Bd x=(List.range x.os.length).map λi=>kH x i (bK x):=rfl
 have eP:ba x=kx (cM x).ow x.os.length x.bz.length:=rfl;unfold zcu;unfold zd0 at c3;generalize eF x (ba x)=CO at *;generalize bK x=BC at *;generalize Bd x=BO at *;generalize ba x=BP at *;generalize cM x=A at *;obtain⟨Au,Av,Ao⟩:=A;dsimp only at c3 mv mo ml mlv eC eO eP;generalize kz x x.os.length=TS at *;obtain⟨m,hm⟩:∃m,x.bz.length+x.os.length=m:=⟨_,rfl⟩;rw[hm] at c3 ml mlv
 have hmI:(x.bz.length:Int)+(x.os.length:Int)=(m:Int):=ab
 have b4:inI .i64 (m:Int):=cu ab ab;have kk:=keep (And.intro mv (And.intro mo (And.intro c5 (And.intro hm (And.intro lo lc)))));have kC:=keep eC;have kO:=keep eO;have kP:=keep eP;clear mi ok mv mo c5 hm lo lc eC eO eP;unfold Rd.pv at c1 c2 c4;unfold Tw.dB at *;generalize r.jh=p1 at *;generalize r.osP=p2 at *;generalize r.jV=p3 at *;generalize r.zsP=p4 at *;refine rcK Tz.func25 ?_;simp only[Tryz.results25,Tryz.ntmps25]
 repeat' first|(with_reducible first|apply bG|apply bS|apply bE|refine cT (id:=5) 12 mixed ai ?_|apply bP|refine And.intro ?_ ?_|refine cwM (r1) ?_|intro _)|simp[*,hmI,b4]|(refine bN (c1) ?_ ?_;· simp[*];done)|(refine bN (c2) ?_ ?_;· simp[*];done)|(refine bN (c3) ?_ ?_;· simp[*];done)
 all_goals try first|omega|assumption
 clear c1 c2 c3 r1;have e1:iA (kx Ao x.os.length 0)=iA (List.replicate x.os.length (-1)):=rfl;have e0:iA []=[]:=rfl;have e2:iA ((List.range 0).map λk=>-(nth Av k))=[]:=rfl;refine fI 6 (λ(k:Nat)=>k<=x.bz.length) [2,4,7,8,47] (λ(k:Nat)=>[(48,.w false false (.int .i64 k))]) [1] (λ(k:Nat)=>[(4,iA (kx Ao x.os.length k)),(5,iA ((List.range k).map λk=>-(nth Av k))),(2,[.msl 4 x.os.length 1 0 x.os.length,.w false false (.int .i64 0),.w true true (.sl 0 []),.msl 5 k 1 0 k])]) (λ(k:Nat)=>x.bz.length-k) (λ(_u:Unit)=>True) [2,4,8] (λ(_u:Unit)=>[]) [1] (λ(_u:Unit)=>[(4,iA BP),(5,iA BC),(2,[.msl 4 x.os.length 1 0 x.os.length,.w false false (.int .i64 0),.w true true (.sl 0 []),.msl 5 x.bz.length 1 0 x.bz.length])]) (0) (cG _) (de [] (by simp[e1,e2,e0]) (by simp[e1,e2,e0])) (λk hk=>?_) (λ_u hf=>?_)
 .clear e1 e2 e0;by_cases h8:k<x.bz.length
  .obtain⟨mv,mo,c5,hm,lo,lc⟩:=kk;have h9:inI .i64 ((k:Int)+1):=cu ab ab
   have hz:k+1<=x.bz.length:=ab
   have hiv:=mv k h8;have a':=mo k h8
   have ao:k<Av.length:=ab
   have ag:k<Ao.length:=ab
   have aa:k<m:=ab
   have aq:=C5 Ao x.os.length k
   have hg:((List.range k).map λk=>-(nth Av k)).length=k:=ae
   have eS:iA ((List.range (k+1)).map λk=>-(nth Av k))=iA ((List.range k).map λk=>-(nth Av k))++[.w false false (.int .i64 (-(nth Av k)))]:=by rw[zf4,<-HR];rfl
   have eP:kx Ao x.os.length (k+1)=if 0<=nth Ao k then (kx Ao x.os.length k).set (nth Ao k).toNat k else kx Ao x.os.length k:=rfl
   have ay:k+1<=1000000000:=ab
   generalize ((List.range k).map λk=>-(nth Av k))=CK at hg eS ⊢;clear mv mo c5 hm lo lc kC kO kP
   rcases a' with a'|⟨h1,h2⟩
   .rw[bH ab] at eP
    repeat' first|(with_reducible first|apply bG|apply cj|apply bS|apply bE|refine cT (id:=14) 12 mixed ai ?_|apply bP|intro _)|simp[*,h8,h9,hiv,a',ao,ag,aa,ml,mlv,aq,hg]
    all_goals first
     |omega
     |assumption
     |(refine nx (k+1) ?_ ?_;(· exact hz);(refine de [] ?_ ?_<;>first|trivial|(simp[*,eS,eP];done)))
   .obtain⟨j,hj⟩:∃j:Nat,nth Ao k=j:=⟨(nth Ao k).toNat,ab⟩;rw[hj,bX ab,fH] at eP
    have ax:j<x.os.length:=ab
    have aw:(0:Int)<=(j:Int):=ab
    clear h1 h2
    repeat' first|(with_reducible first|apply bG|apply cj|apply bS|apply bE|refine cT (id:=14) 12 mixed ai ?_|apply bP|refine And.intro ?_ ?_|intro _)|simp[*,h8,h9,hiv,hj,ao,ag,aa,ml,mlv,aq,hg,ax,aw]
    all_goals first
     |omega
     |assumption
     |(refine nx (k+1) ?_ ?_;(· exact hz);(refine de [] ?_ ?_<;>first|trivial|(simp[*,eS,eP];done)))
  .have ha:k=x.bz.length:=ab
   subst ha
   have kC2:BC=(List.range x.bz.length).map λk=>-(nth Av k):=kC
   have kP2:BP=kx Ao x.os.length x.bz.length:=kP;clear kk kC kO kP
   repeat' first|(with_reducible first|apply bG|apply cK|apply bE|apply bP|intro _)|simp[*,h8]
   all_goals first
    |omega
    |(refine dp () ?_ ?_;(· trivial);(refine cg ?_ ?_<;>first|trivial|(simp[*,kC2,kP2];done)))
 .clear e1 e2 e0 kC kP
  repeat' first|(with_reducible first|apply bG|apply bE|intro _)|simp[*]
  have e0:iA []=[]:=rfl;have e3:iA ((List.range 0).map λi=>kH x i BC)=[]:=rfl;refine fI 7 (λ(i:Nat)=>i<=x.os.length) [2,4,8,86] (λ(i:Nat)=>[(87,.w false false (.int .i64 i))]) [1,4,5] (λ(i:Nat)=>[(6,iA ((List.range i).map λi=>kH x i BC)),(2,[.msl 4 x.os.length 1 0 x.os.length,.w false false (.int .i64 0),.msl 6 i 1 0 i,.msl 5 x.bz.length 1 0 x.bz.length])]) (λ(i:Nat)=>x.os.length-i) (λ(_u:Unit)=>True) [2,4,8] (λ(_u:Unit)=>[]) [1,4,5] (λ(_u:Unit)=>[(6,iA BO),(2,[.msl 4 x.os.length 1 0 x.os.length,.w false false (.int .i64 0),.msl 6 x.os.length 1 0 x.os.length,.msl 5 x.bz.length 1 0 x.bz.length])]) (0) (cG _) (de [] (by simp[e3,e0]) (by simp[e3,e0])) (λi hk=>?_) (λ_u hf=>?_)
  .clear e3 e0;by_cases h8:i<x.os.length
   .obtain⟨mv,mo,c5,hm,lo,lc⟩:=kk;have h9:inI .i64 ((i:Int)+1):=cu ab ab
    have hz:i+1<=x.os.length:=ab
    have c:=c5 i h8;unfold Rd.pv at c
    have hg:((List.range i).map λi=>kH x i BC).length=i:=ae
    have eS:iA ((List.range (i+1)).map λi=>kH x i BC)=iA ((List.range i).map λi=>kH x i BC)++[.w false false (.int .i64 (kH x i BC))]:=by rw[zf4,<-HR];rfl
    have ay:i+1<=1000000000:=ab
    generalize ((List.range i).map λi=>kH x i BC)=OK at hg eS ⊢;generalize kH x i BC=pr at c eS;clear mv mo c5 hm lo lc kO
    repeat' first|(with_reducible first|apply bG|apply cj|apply bS|apply bE|refine cT (id:=19) 10 mixed ai ?_|apply bP|refine And.intro ?_ ?_|intro _)|simp[*,h8,h9,hg,lcar]|(refine bN (c) ?_ ?_;· simp[*];done)
    all_goals first
     |omega
     |assumption
     |(refine nx (i+1) ?_ ?_;(· exact hz);(refine de [] ?_ ?_<;>first|trivial|(simp[*,eS];done)))
   .have ha:i=x.os.length:=ab
    subst ha
    have kO2:BO=(List.range x.os.length).map λi=>kH x i BC:=kO
    clear kk kO
    repeat' first|(with_reducible first|apply bG|apply cK|apply bE|apply bP|intro _)|simp[*,h8]
    all_goals first
     |omega
     |(refine dp () ?_ ?_;(· trivial);(refine cg ?_ ?_<;>first|trivial|(simp[*,kO2];done)))
  .clear e3 e0 kk
   have lbo:BO.length=x.os.length:=by rw[show BO=_ from kO];simp
   clear kO
   repeat' first|(with_reducible first|apply bG|apply bU|apply bE|refine And.intro ?_ ?_|intro _)|simp[*,lpl,lcar,lbo]|(refine bN (c4) ?_ ?_;· simp[*];done)
noncomputable instance zkv:bJ:=LD
theorem zh9(x:Rd)(os cs:List Int):∃n1 a1 n2 a2 n3 a3 n4 a4,bt x os cs=.agg [.sl n1 a1,.sl n2 a2,.sl n3 a3,.sl n4 a4]:=⟨_,_,_,_,_,_,_,_,rfl⟩
theorem zia(x:Rd):∃n1 a1 n2 a2 n3 a3,zcu x=.agg [.sl n1 a1,.int .i64 (eF x (ba x)),.sl n2 a2,.sl n3 a3]:=⟨_,_,_,_,_,_,rfl⟩
noncomputable instance zkx:bJ:=LD
theorem zib(r:Tw.RND)(plan:List Int)(c1:bT Tz.prog 20 [Tw.dB r] (.int .i64 (ceR r)) true)(h:ceR r≠0):bT Tz.prog 38 [Tw.dB r,.sl plan.length (ints plan)] (.int .i64 (ceR r)) true:=by
 generalize ceR r=e at *;unfold Tw.dB at *;generalize r.jh=p1 at *;generalize r.osP=p2 at *;generalize r.jV=p3 at *;generalize r.zsP=p4 at *;refine rcK Tz.func38 ?_;simp only[Tryz.results38,Tryz.ntmps38]
 repeat' first|(with_reducible first|apply bG|apply bU|apply bE|apply bP|refine And.intro ?_ ?_|intro _)|simp[*,h]|(refine bN (c1) ?_ ?_;· simp[*];done)
 all_goals first|omega
theorem zic(r:Tw.RND)(plan:List Int)(hp:plan.length<100000)(c1:bT Tz.prog 20 [Tw.dB r] (.int .i64 (ceR r)) true)(h:ceR r=0):bT Tz.prog 38 [Tw.dB r,.sl plan.length (ints plan)] (.int .i64 (gv (bQ r) plan).2) true:=by
 have c2:=zfx r (C7 r h) plan hp;rw[h] at c1;generalize (gv (bQ r) plan).2=e at *;unfold Tw.dB at *;generalize r.jh=p1 at *;generalize r.osP=p2 at *;generalize r.jV=p3 at *;generalize r.zsP=p4 at *;clear h;refine rcK Tz.func38 ?_;simp only[Tryz.results38,Tryz.ntmps38]
 repeat' first|(with_reducible first|apply bG|apply bS|apply bU|apply bE|apply bP|refine And.intro ?_ ?_|intro _)|simp[*]|(refine bN (c1) ?_ ?_;· simp[*];done)|(refine bN (c2) ?_ ?_;· simp[*];done)
 all_goals first|omega
theorem zf6{os:List Ord}{wt:List (List Int)}{plan:List Int}(h:zgd os wt plan):∀k,k<=plan.length->0<=g8 wt plan k/\g8 wt plan k<=100000*(k:Int)
 |0,_=>by unfold g8;simp
 |k+1,hk=>by
  have ih:=zf6 h k ab;have h1:=h.wn k ab;unfold g8;split
  .omega
  .rename_i hn;have h4:=h1.resolve_left hn;omega
theorem zid(r:Tw.RND)(h1:r.bz.length<=1000)(h2:r.os.length<=1000):bT Tz.prog 20 [Tw.dB r] (.int .i64 (ceR r)) true:=
 zfg r.bz r.os r.wt r.zs h1 h2 r.eU.2.2.2.2.2.1 r.eU.2.2.2.2.2.2 r.eU.1 r.eU.2.1 r.eU.2.2.1
theorem zie(r:Tw.RND)(os cs:List Int):∃n1 a1 n2 a2 n3 a3 n4 a4,bt (bQ r) os cs=.agg [.sl n1 a1,.sl n2 a2,.sl n3 a3,.sl n4 a4]/\n1<=r.bz.length/\n2<=r.os.length:=
 ⟨_,_,_,_,_,_,_,_,rfl,by simp[bu];exact sf _ _,by simp[bo];exact sf _ _⟩
theorem zif(bz:List Car)(os:List Ord)(wt:List (List Int))(zs:List Par)(plan:List Int):CL Tz.prog Tryz.f7 (Tryz.f7.body.getD .skip) [.agg [.sl bz.length (dk bz),.sl os.length (dj os),.sl wt.length (dQ wt),.sl zs.length (dm zs)],.sl plan.length (ints plan)] (.bool true) true:=by
 have ca:=Pt;have cf:=SH bz os wt zs;refine Gb (gH aj) ?_;have hb:Tryz.f7.body=some _:=rfl;rw[hb];clear hb;simp only[oL,Tryz.ntmps7,Tryz.results7]
 cases hw:sI bz os wt zs with
 |false=>
  rw[hw] at cf;clear hw
  repeat' first|(with_reducible first|apply bG|apply bS|apply bU|apply bE|apply bP|refine And.intro ?_ ?_|intro _)|simp[*]|(refine bN (ca) ?_ ?_;· simp[*];done)|(refine bN (cf) ?_ ?_;· simp[*];done)
  all_goals first|omega
 |true=>
  rw[hw] at cf;by_cases hl:plan.length<=10
  rotate_left
  .have i2:(10:Int)<plan.length:=ab
   clear hw hl
   repeat' first|(with_reducible first|apply bG|apply bS|apply bU|apply bE|apply bP|refine And.intro ?_ ?_|intro _)|simp[*,i2]|(refine bN (ca) ?_ ?_;· simp[*];done)|(refine bN (cf) ?_ ?_;· simp[*];done)
   all_goals first|omega
  have i2:¬(10:Int)<plan.length:=ab
  obtain⟨⟨l1,k1⟩,⟨l2,k2⟩,l3,l4,l5,l6,l7⟩:=G9 hw
  have c1:bT Tz.prog 20 [.agg [.sl bz.length (dk bz),.sl os.length (dj os),.sl wt.length (dQ wt),.sl zs.length (dm zs)]] (.int .i64 (ceR (IK bz os wt zs hw))) true:=
   zfg bz os wt zs ab ab ab ab (λx hx=>by have:=l5 x hx;omega) (λx hx=>by have:=l6 x hx;omega) (λx hx=>by have:=l7 x hx;omega)
  have ci:=xl plan ab
  have hc:plan.length<100000:=ab
  obtain⟨r,hr⟩:∃r,r=IK bz os wt zs hw:=⟨_,rfl⟩
  have ev:Tw.dB r=.agg [.sl bz.length (dk bz),.sl os.length (dj os),.sl wt.length (dQ wt),.sl zs.length (dm zs)]:=by rw[hr];rfl
  have er:r.bz=bz/\r.os=os/\r.wt=wt/\r.zs=zs:=by rw[hr];exact⟨rfl,rfl,rfl,rfl⟩
  have cc:=G6 r;rw[<-hr] at c1;clear l1 l2 l3 l4 l5 l6 l7 k1 k2 hr hw hl;have sn:=zh8;unfold PO at sn;by_cases he:ceR r=0
  rotate_left
  .have ho:peS r plan=ceR r:=by unfold peS;rw[bX he]
   have cr:=zf0 r plan hc (by rw[ho];exact he);have pe:=zib r plan (by rw[ev];exact c1) he;unfold PO at cr;rw[ho] at cr;rw[ev] at cc cr pe;generalize ceR r=e at *;clear ho ev er hc
   repeat' first|(with_reducible first|apply bG|apply bS|apply bU|apply bE|apply bP|refine And.intro ?_ ?_|intro _)|simp[*,i2,he]|(refine bN (ca) ?_ ?_;· simp[*];done)|(refine bN (cf) ?_ ?_;· simp[*];done)|(refine bN (cc) ?_ ?_;· simp[*];done)|(refine bN (ci) ?_ ?_;· simp[*];done)|(refine bN (c1) ?_ ?_;· simp[*];done)|(refine bN (cr) ?_ ?_;· simp[*];done)|(refine bN (pe) ?_ ?_;· simp[*];done)|(refine bN (sn) ?_ ?_;· simp[*];done)
   all_goals first|omega
  have ok:=C7 r he;have lo:r.os.length<=8:=ok.lo;have cb:=zf5 r he;have hB:=zc8 (bQ r) ok;have cp:=zfx r ok (ba (bQ r)) (by rw[D8];have:=ok.lo;omega);rw[zew _ _ hB] at cp
  have hPl:(ba (bQ r)).length<=8:=by rw[D8];exact ok.lo
  have c2:=zf2 r (ba (bQ r)) ab he (by rw[zew _ _ hB]);have ci2:=xl (ba (bQ r)) ab;have hL:=zdo r he (bB (ba (bQ r))) (cq (ba (bQ r)));have c3:=zf5 _ hL;have okL:=C7 _ hL;have c4:=zid (bM r he (bB (ba (bQ r))) (cq (ba (bQ r)))) (by have:_<=8:=okL.lc;exact dK this af) (by have:_<=8:=okL.lo;exact dK this af);rw[hL] at c4;have h5:=zhk r he;have pw:=zh0 r ok (ba (bQ r)) hB.toPlanIn;have wbd:=zf6 pw;obtain⟨m1,b1,m2,b2,m3,b3,eb2⟩:=zia (bQ (bM r he (bB (ba (bQ r))) (cq (ba (bQ r)))));rw[eb2] at c3;rw[ze6] at c3 c4;obtain⟨x1,y1,x2,y2,x3,y3,x4,y4,el,b5,b6⟩:=zie r (bB (ba (bQ r))) (cq (ba (bQ r)));rw[el] at c2 c3 c4;obtain⟨n2,a2,n3,a3,eb⟩:∃n2 a2 n3 a3,zcu (bQ r)=.agg [.sl (ba (bQ r)).length (ints (ba (bQ r))),.int .i64 (eF (bQ r) (ba (bQ r))),.sl n2 a2,.sl n3 a3]:=⟨_,_,_,_,by rw[D8];rfl⟩;rw[eb] at cb;have bc:=zcx (bQ r) ok (ba (bQ r)) hB.toPlanIn _ (bV _)
  have bc2:-(8000000000000)<=eF (bQ r) (ba (bQ r))/\eF (bQ r) (ba (bQ r))<=9000000000000:=by unfold eF;omega
  have hwS:g8 r.wt (ba (bQ r)) r.os.length=g8 r.wt (ba (bQ r)) (ba (bQ r)).length:=by rw[D8];rfl
  rw[hwS] at h5
  have a5:¬(r.bz.length:Int)<(x1:Int):=ab
  have a6:¬(r.os.length:Int)<(x2:Int):=ab
  have eW:∀k,g8 r.wt (ba (bQ r)) (k+1)=g8 r.wt (ba (bQ r)) k+if nth (ba (bQ r)) k=-1 then 0 else nth (nth r.wt k) (nth (ba (bQ r)) k).toNat:=λ_=>rfl
  have eW0:g8 r.wt (ba (bQ r)) 0=0:=rfl;obtain⟨_,pl,wl,_,wn⟩:=pw;generalize eF (bQ (bM r he (bB (ba (bQ r))) (cq (ba (bQ r))))) (ba (bQ (bM r he (bB (ba (bQ r))) (cq (ba (bQ r))))))=C at *;generalize eF (bQ r) (ba (bQ r))=A at *;clear eb eb2 el bc hwS hL okL hB b5 b6;generalize g8 r.wt (ba (bQ r))=WS at *;generalize ba (bQ r)=P at *;have pe:=zic r plan hc (by rw[ev];exact c1) he;rw[he] at c1;have kk:=keep (And.intro eW (And.intro wbd (And.intro pl (And.intro wl (And.intro wn (And.intro hPl (And.intro h5 bc2)))))));clear eW wbd pl wl wn hPl h5 bc2 ok lo
  have hh:(∃q:Int,q≠0/\bT Tz.prog 37 [Tw.dB r,.sl plan.length (ints plan)] (.tup [.agg [.sl 0 [],.sl 0 [],.sl 0 [],.sl 0 []],.int .i64 q]) false/\bT Tz.prog 38 [Tw.dB r,.sl plan.length (ints plan)] (.int .i64 q) true) \/
   (∃u1 v1 u2 v2 u3 v3 u4 v4,bT Tz.prog 37 [Tw.dB r,.sl plan.length (ints plan)] (.tup [.agg [.sl u1 v1,.sl u2 v2,.sl u3 v3,.sl u4 v4],.int .i64 0]) false/\bT Tz.prog 38 [Tw.dB r,.sl plan.length (ints plan)] (.int .i64 0) true /\
     bT Tz.prog 40 [Tw.dB r,.sl plan.length (ints plan)] (.agg [.sl u1 v1,.sl u2 v2,.sl u3 v3,.sl u4 v4]) true/\bT Tz.prog 39 [.agg [.sl u1 v1,.sl u2 v2,.sl u3 v3,.sl u4 v4],.agg [.sl u1 v1,.sl u2 v2,.sl u3 v3,.sl u4 v4]] (.bool true) true):=by
   by_cases h2:(gv (bQ r) plan).2=0
   .right;have hin:=zeo _ _ h2;have d1:=zf2 r plan hc he h2;have d2:=zh5 r he plan hin.len (λk hk=>by rcases hin.at_ k hk with h|h;exact .inl h;exact .inr h.1);have d3:=zh7 (bM r he (bB plan) (cq plan));rw[ze6] at d3;obtain⟨u1,v1,u2,v2,u3,v3,u4,v4,el⟩:=zh9 (bQ r) (bB plan) (cq plan);rw[el] at d1 d2 d3;rw[h2] at pe;exact⟨u1,v1,u2,v2,u3,v3,u4,v4,d1,pe,d2,d3⟩
   .left
    have ho:peS r plan=(gv (bQ r) plan).2:=by unfold peS;rw[bH (λh=>h he)]
    have d1:=zf0 r plan hc (by rw[ho];exact h2);rw[ho] at d1;exact⟨_,h2,d1,pe⟩
  clear pe he hc;rw[ev] at cc cb cp c2 hh;obtain⟨rfl,rfl,rfl,rfl⟩:=er;clear ev
  rcases hh with ⟨q,hq,d1,d2⟩|⟨u1,v1,u2,v2,u3,v3,u4,v4,d1,d2,d3,d4⟩
  .repeat' first|(with_reducible first|apply bG|apply bS|apply bE|refine j8 (id:=17) [0,1,2,3,4,5,6,7,8,9] [10,11] [[],[],[],[],[],[],[],[],[.new 0],[]] [[.new 0],[]] mixed ai ?_|apply bP|refine And.intro ?_ ?_|intro _)|simp[*,i2,hq,a5,a6]|(refine bN (ca) ?_ ?_;· simp[*];done)|(refine bN (cf) ?_ ?_;· simp[*];done)|(refine bN (cc) ?_ ?_;· simp[*];done)|(refine bN (ci) ?_ ?_;· simp[*];done)|(refine bN (ci2) ?_ ?_;· simp[*];done)|(refine bN (c1) ?_ ?_;· simp[*];done)|(refine bN (d1) ?_ ?_;· simp[*];done)|(refine bN (d2) ?_ ?_;· simp[*];done)|(refine bN (sn) ?_ ?_;· simp[*];done)|(refine bN (cb) ?_ ?_;· simp[*];done)|(refine bN (cp) ?_ ?_;· simp[*];done)|(refine bN (c2) ?_ ?_;· simp[*];done)|(refine bN (c4) ?_ ?_;· simp[*];done)|(refine bN (c3) ?_ ?_;· simp[*];done)
   all_goals try first|omega|assumption
   refine fj (λ(k:Nat)=>k<=P.length) [2,8,12,13] (λ(k:Nat)=>[(15,.w false false (.int .i64 k)),(14,.w false false (.int .i64 (WS k)))]) [0,2,4] (λ(k:Nat)=>[]) (λ(k:Nat)=>P.length-k) (λ(_u:Unit)=>True) [8,12,13] (λ(_u:Unit)=>[(14,.w false false (.int .i64 (WS P.length)))]) [0,2,4] (λ(_u:Unit)=>[]) (0) (cG _) (by simp[eW0]) (by simp[eW0]) (λk hk=>?_) (λ_u hf=>?_)
   .clear eW0;by_cases h8:k<P.length
    .obtain⟨eW,wbd,pl,wl,wn,hPl,h5,bc2⟩:=kk
     have hy:k<r.wt.length:=ab
     have h9:inI .i64 ((k:Int)+1):=cu ab ab
     have hz:k+1<=P.length:=ab
     have b1:=wbd (k+1) hz;have e:=eW k;have wn:=wn k h8;have h':inI .i64 (WS (k+1)):=cu ab ab;generalize hn:nth P k=n at *;clear eW wbd pl wl hPl h5 bc2 b1
     rcases wn with h1|⟨h1,h2,h3,h4⟩
     .rw[bX h1,Int.add_zero] at e;subst h1;clear h'
      repeat' first|(with_reducible first|apply bG|apply cj|apply bS|apply bE|apply bP|intro _)|simp[*,h8,hy,hn,h9]
      all_goals first
       |omega
       |assumption
       |(refine nx (k+1) ?_ ?_;(· exact hz);(refine cg ?_ ?_<;>first|trivial|(simp[*,e];done)))
     .obtain⟨m,rfl⟩:∃m:Nat,n=m:=⟨n.toNat,ab⟩
      have h0:¬(m:Int)=-1:=ab
      rw[bH h0,fH] at e
      have hm:m<(nth r.wt k).length:=ab
      have e':=e.symm;clear e h1 h2 h3 h4
      repeat' first|(with_reducible first|apply bG|apply cj|apply bS|apply bE|refine cT (id:=26) 14 mixed ai ?_|apply bP|intro _)|simp[*,h8,hy,hn,h0,hm,e',h9,h']
      all_goals first
       |omega
       |assumption
       |(refine nx (k+1) ?_ ?_;(· exact hz);(refine cg ?_ ?_<;>first|trivial|(simp[*];done)))
    .have ha:k=P.length:=ab
     subst ha;clear kk
     repeat' first|(with_reducible first|apply bG|apply cK|apply bE|apply bP|intro _)|simp[*,h8]
     all_goals first
      |omega
      |(refine dp () ?_ ?_;(· trivial);(refine cg ?_ ?_<;>first|trivial|(simp[*];done)))
   .clear eW0;obtain⟨w1,wbd,w2,w3,w4,hPl,h5,bc2⟩:=kk;clear w1 w2 w3 w4;have b1:=wbd P.length (bV _);have h':inI .i64 A:=cu ab ab;have a9:=h5.symm;clear wbd b1 bc2 h5
    repeat' first|(with_reducible first|apply bG|apply bU|apply bE|intro _)|simp[*,h',a9]
    all_goals first|omega|assumption
  .repeat' first|(with_reducible first|apply bG|apply bS|apply bE|refine cT (id:=10) 10 mixed ai ?_|refine j8 (id:=17) [0,1,2,3,4,5,6,7,8,9] [10,11] [[],[],[],[],[],[],[],[],[.new 0],[]] [[.new 0],[]] mixed ai ?_|apply bP|refine And.intro ?_ ?_|intro _)|simp[*,i2,a5,a6]|(refine bN (ca) ?_ ?_;· simp[*];done)|(refine bN (cf) ?_ ?_;· simp[*];done)|(refine bN (cc) ?_ ?_;· simp[*];done)|(refine bN (ci) ?_ ?_;· simp[*];done)|(refine bN (ci2) ?_ ?_;· simp[*];done)|(refine bN (c1) ?_ ?_;· simp[*];done)|(refine bN (d1) ?_ ?_;· simp[*];done)|(refine bN (d2) ?_ ?_;· simp[*];done)|(refine bN (d3) ?_ ?_;· simp[*];done)|(refine bN (d4) ?_ ?_;· simp[*];done)|(refine bN (cb) ?_ ?_;· simp[*];done)|(refine bN (cp) ?_ ?_;· simp[*];done)|(refine bN (c2) ?_ ?_;· simp[*];done)|(refine bN (c4) ?_ ?_;· simp[*];done)|(refine bN (c3) ?_ ?_;· simp[*];done)
   all_goals try first|omega|assumption
   refine fj (λ(k:Nat)=>k<=P.length) [2,8,12,13] (λ(k:Nat)=>[(15,.w false false (.int .i64 k)),(14,.w false false (.int .i64 (WS k)))]) [0,2,4] (λ(k:Nat)=>[]) (λ(k:Nat)=>P.length-k) (λ(_u:Unit)=>True) [8,12,13] (λ(_u:Unit)=>[(14,.w false false (.int .i64 (WS P.length)))]) [0,2,4] (λ(_u:Unit)=>[]) (0) (cG _) (by simp[eW0]) (by simp[eW0]) (λk hk=>?_) (λ_u hf=>?_)
   .clear eW0;by_cases h8:k<P.length
    .obtain⟨eW,wbd,pl,wl,wn,hPl,h5,bc2⟩:=kk
     have hy:k<r.wt.length:=ab
     have h9:inI .i64 ((k:Int)+1):=cu ab ab
     have hz:k+1<=P.length:=ab
     have b1:=wbd (k+1) hz;have e:=eW k;have wn:=wn k h8;have h':inI .i64 (WS (k+1)):=cu ab ab;generalize hn:nth P k=n at *;clear eW wbd pl wl hPl h5 bc2 b1
     rcases wn with h1|⟨h1,h2,h3,h4⟩
     .rw[bX h1,Int.add_zero] at e;subst h1;clear h'
      repeat' first|(with_reducible first|apply bG|apply cj|apply bS|apply bE|apply bP|intro _)|simp[*,h8,hy,hn,h9]
      all_goals first
       |omega
       |assumption
       |(refine nx (k+1) ?_ ?_;(· exact hz);(refine cg ?_ ?_<;>first|trivial|(simp[*,e];done)))
     .obtain⟨m,rfl⟩:∃m:Nat,n=m:=⟨n.toNat,ab⟩
      have h0:¬(m:Int)=-1:=ab
      rw[bH h0,fH] at e
      have hm:m<(nth r.wt k).length:=ab
      have e':=e.symm;clear e h1 h2 h3 h4
      repeat' first|(with_reducible first|apply bG|apply cj|apply bS|apply bE|refine cT (id:=26) 14 mixed ai ?_|apply bP|intro _)|simp[*,h8,hy,hn,h0,hm,e',h9,h']
      all_goals first
       |omega
       |assumption
       |(refine nx (k+1) ?_ ?_;(· exact hz);(refine cg ?_ ?_<;>first|trivial|(simp[*];done)))
    .have ha:k=P.length:=ab
     subst ha;clear kk
     repeat' first|(with_reducible first|apply bG|apply cK|apply bE|apply bP|intro _)|simp[*,h8]
     all_goals first
      |omega
      |(refine dp () ?_ ?_;(· trivial);(refine cg ?_ ?_<;>first|trivial|(simp[*];done)))
   .clear eW0;obtain⟨w1,wbd,w2,w3,w4,hPl,h5,bc2⟩:=kk;clear w1 w2 w3 w4;have b1:=wbd P.length (bV _);have h':inI .i64 A:=cu ab ab;have a9:=h5.symm;clear wbd b1 bc2 h5
    repeat' first|(with_reducible first|apply bG|apply bU|apply bE|intro _)|simp[*,h',a9]
    all_goals first|omega|assumption
end Go.Proofs.YthpkmilhiganjaaGreat
