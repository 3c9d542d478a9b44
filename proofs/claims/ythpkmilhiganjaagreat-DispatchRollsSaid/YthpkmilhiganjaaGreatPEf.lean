/- Lemmas. -/
import Derived.Test.YthpkmilhiganjaaGreatPEe
import Derived.Test.YthpkmilhiganjaaGreatPDb
import Derived.Test.YthpkmilhiganjaaGreatPLe
import Derived.Test.YthpkmilhiganjaaGreatPLg
import Derived.Test.YthpkmilhiganjaaGreatPEd
set_option linter.all false
set_option maxHeartbeats 32000000
set_option maxRecDepth 100000
namespace Go.Proofs.YthpkmilhiganjaaGreat
open Go Go.Fi
noncomputable instance zkh:bJ:=LD
def zcv(plan:List Int):List Nat:=(List.range plan.length).filter λi=>!(decide (nth plan i=-1))
def bB(plan:List Int):List Int:=(zcv plan).map λi=>((i:Nat):Int)
def cq(plan:List Int):List Int:=(zcv plan).map (nth plan)
theorem zcq(plan:List Int)(i:Nat):i∈zcv plan↔i<plan.length/\nth plan i≠-1:=by
 unfold zcv;rw[qX,lW];simp
theorem D4(ex:List Int)(k:Nat):cO ex k=true↔¬(k:Int)∈ex:=by
 unfold cO;rw[Dj,u6]
 grind
theorem zd4(plan:List Int){i:Nat}(hi:i<plan.length):cO (bB plan) i=true↔nth plan i=-1:=by
 rw[D4];constructor
 .intro h;apply SY;intro hn;exact h (gA.2 ⟨i,(zcq plan i).2 ⟨hi,hn⟩,rfl⟩)
 .intro h hm;obtain⟨j,hj,e⟩:=gA.1 hm
  have:j=i:=ab
  subst this;exact ((zcq plan j).1 hj).2 h
theorem zgb(plan:List Int)(k:Nat):cO (cq plan) k=true↔∀i,i<plan.length->nth plan i≠(k:Int):=by
 rw[D4];constructor
 .intro h i hi e;exact h (gA.2 ⟨i,(zcq plan i).2 ⟨hi,ab⟩,e⟩)
 .intro h hm;obtain⟨j,hj,e⟩:=gA.1 hm;exact h j ((zcq plan j).1 hj).1 e
def g8(wt:List (List Int))(plan:List Int):Nat->Int
 |0=>0
 |k+1=>g8 wt plan k+if nth plan k=-1 then 0 else nth (nth wt k) (nth plan k).toNat
theorem zfn(os:List Ord)(wt:List (List Int))(plan:List Int):∀n,n<=plan.length->rcQ os wt plan n=g8 wt plan n+bw (λi=>if cO (bB plan) i then dR (nth os i).2.2.2.toNat else 0) n
 |0,_=>rfl
 |n+1,h=>by
  have ih:=zfn os wt plan n ab;unfold rcQ g8 bw;rw[ih];have hk:=zd4 plan (i:=n) ab
  grind
theorem zhk(r:Tw.RND)(h:ceR r=0):eF (bQ r) (ba (bQ r))=g8 r.wt (ba (bQ r)) r.os.length+eF (bQ (bM r h (bB (ba (bQ r))) (cq (ba (bQ r))))) (ba (bQ (bM r h (bB (ba (bQ r))) (cq (ba (bQ r)))))):=by
 have ok:=C7 r h;have b:=zca _ ok;have hl:(ba (bQ r)).length=r.os.length:=D8 _;have e0:=zhj (bQ r) (ba (bQ r)) hl;have e1:=zfn r.os r.wt (ba (bQ r)) _ (bV _);rw[hl] at e1
 have e2:rcS (bQ r).os (bQ r).wt (ba (bQ r))=rcQ r.os r.wt (ba (bQ r)) r.os.length:=by unfold rcS;rw[hl];rfl
 rw[e0,e2,e1];congr 1;generalize hP:ba (bQ r)=P at *;have ge:=zhh r h (bB P) (cq P) (nth (cM (bQ r)).u) (nth (bK (bQ r))) (λi hi _=>b.pe i hi) (λi k hi hk _ _ hf=>b.wt i k hi hk hf) (λk hk _=>(b.v0 k hk).1)
 have z1:bw (λk=>if cO (cq P) k then nth (bK (bQ r)) k else 0) r.bz.length=0:=zfj _ λk hk=>by
  split
  .rename_i aa
   exact b.fr k hk λi hi=>by rw[hP];exact (zgb P k).1 aa i (by rw[hl];exact hi)
  .rfl
 have z2:bw (λi=>if cO (bB P) i then nth (cM (bQ r)).u i else 0) r.os.length=bw (λi=>if cO (bB P) i then dR (nth r.os i).2.2.2.toNat else 0) r.os.length:=zb8 _ λi hi=>by
  by_cases hk:cO (bB P) i=true
  .rw[bX hk,bX hk];exact b.no i hi (by rw[hP];exact (zd4 P ab).1 hk)
  simp_all
 rw[z1,z2] at ge;have okl:=C7 _ (zdo r h (bB P) (cq P));have bl:=zca _ okl;have lo:=zcd r h (bB P) (cq P)
 have le:eF (bQ (bM r h (bB P) (cq P))) (ba (bQ (bM r h (bB P) (cq P))))<=bw (λi=>if cO (bB P) i then dR (nth r.os i).2.2.2.toNat else 0) r.os.length:=by
  have lp:=λi hi=>zfl r h (bB P) (cq P) (i:=i) hi
  rw[zhe _ okl,<-zcl (bB P) (λi=>dR (nth r.os i).2.2.2.toNat) r.os.length];have e3:(bQ (bM r h (bB P) (cq P))).os.length=a9 (bB P) r.os.length:=lo
  have p1:bw (nth (cM (bQ (bM r h (bB P) (cq P)))).u) (a9 (bB P) r.os.length)<=bw (λj=>dR (nth r.os (nth (bf (bB P) r.os.length) j)).2.2.2.toNat) (a9 (bB P) r.os.length):=Li _ λj hj=>by
   have:=bl.pe j (by rw[e3];exact hj);rw[lp j hj] at this;exact this
  have p2:0<=bw (nth (bK (bQ (bM r h (bB P) (cq P))))) (bQ (bM r h (bB P) (cq P))).bz.length:=by
   have:=Li (f:=λ_=>0) (g:=nth (bK (bQ (bM r h (bB P) (cq P))))) (bQ (bM r h (bB P) (cq P))).bz.length λk hk=>(bl.v0 k hk).1
   rwa [zfj _ (λ_ _=>rfl)] at this
  rw[e3];omega
 omega
section
variable[bJ]
theorem zfo(n g:Int)(h1:inI .i64 (n-1)):bT Tz.prog 92 [.int .i64 n,.int .i64 g] (.int .i64 (if g<n then n-1 else n)) true:=by
 by_cases h:g<n
 .rw[bX h];refine rcK Tz.func92 ?_;simp only[Tryz.results92,Tryz.ntmps92]
  repeat' first|(with_reducible first|apply bG|apply bU|apply bE|apply bP|intro _)|simp[*,h]
  all_goals first|assumption
 .rw[bH h];refine rcK Tz.func92 ?_;simp only[Tryz.results92,Tryz.ntmps92]
  repeat' first|(with_reducible first|apply bG|apply bS|apply bU|apply bE|apply bP|intro _)|simp[*,h]
  all_goals first|assumption
theorem BF(o k:Nat):cO [(o:Int)] k = !decide (k=o):=by
 rw[uU,D4];simp;omega
theorem LS(o:Nat):∀a,a9 [(o:Int)] a=if o<a then a-1 else a
 |0=>rfl
 |a+1=>by
  rw[EX,BF,LS o a]
  grind
theorem zfp{n c o a b:Nat}(ha:a<n)(hb:b<c):bF [(o:Int)] [] n c ((a:Int),(b:Int))=if a=o then [] else [((if (o:Int)<(a:Int) then (a:Int)-1 else (a:Int)),(b:Int))]:=by
 by_cases h:a=o
 .rw[bX h];unfold bF;rw[Bm,bH]
  rintro⟨_,_,h2⟩
  rw[fH,BF] at h2
  grind
 .rw[bH h,zdk ha hb (by rw[BF];simp[h]) (zco b),LS,zcp]
  grind
theorem zfq{n c o a b:Nat}(ha:a<n)(hb:b<c):bF [] [(o:Int)] n c ((a:Int),(b:Int))=if b=o then [] else [((a:Int),(if (o:Int)<(b:Int) then (b:Int)-1 else (b:Int)))]:=by
 by_cases h:b=o
 .rw[bX h];unfold bF
  have:dS (dX [(o:Int)] c) (b:Int)=none:=by
   rw[Bm,bH]
   rintro⟨_,_,h2⟩
   rw[fH,BF] at h2;simp[h] at h2
  simp_all
 .rw[bH h,zdk ha hb (zco a) (by rw[BF];simp[h]),LS,zcp]
  grind
theorem E1(n:Nat):bf [] n=List.range n:=by
 unfold bf
 exact List.filter_eq_self.2 λk _=>rfl
theorem E2{α:Type}[Inhabited α](l:List α):(List.range l.length).map (nth l)=l:=by
 refine Jg ae λi h1 h2=>?_
 simp[D9 l i h2]
theorem zdp(x:Rd):bu x [] x.bz.length=x.bz:=by unfold bu;rw[E1];exact E2 _
theorem zdq(x:Rd):bo x [] x.os.length=x.os:=by unfold bo;rw[E1];exact E2 _
theorem zfr(x:Rd)(i:Nat)(h:(nth x.wt i).length=x.bz.length):eM x [] i x.bz.length=nth x.wt i:=by unfold eM;rw[E1,<-h];exact E2 _
theorem zdr{l:List PV}(h:∀y∈l,sA y=true):eh (l.map (AV.w false false))=true:=tX false false _ (gz.2 h)
theorem zhl(l:List Car):eh ((dk l).map (AV.w false false))=true:=zdr λy hy=>(Bz _ _ hy).2
theorem zhm(l:List Ord):eh ((dj l).map (AV.w false false))=true:=zdr λy hy=>(BA _ _ hy).2
theorem zgc{bz:List Car}{os:List Ord}{wt:List (List Int)}{zs:List Par}(h:Rt bz os wt zs){k:Nat}(hk:k<zs.length):∃a b:Nat,nth zs k=((a:Int),(b:Int))/\a<os.length/\b<bz.length:=by
 have:=h.zr _ (tE hk);obtain⟨h1,h2⟩:=this;have h1:=kQ.1 h1;have h2:=kQ.1 h2;exact⟨(nth zs k).1.toNat,(nth zs k).2.toNat,Prod.ext ab ab,ab,ab⟩
theorem zhn(x:Rd)(h:Rt x.bz x.os x.wt x.zs)(o:Nat):bT Tz.prog 44 [.agg [.sl x.bz.length (dk x.bz),.sl x.os.length (dj x.os),.sl x.wt.length (dQ x.wt),.sl x.zs.length (dm x.zs)],.int .i64 o] (bt x [(o:Int)] []) true:=by
 have lc:=h.lc;have lo:=h.lo;have lw:=h.lw;have lz:=h.lz
 have wr:∀i,i<x.os.length->(nth x.wt i).length=x.bz.length:=λi hi=>(h.wr _ (tE ab)).1
 have zr:=λk hk=>zgc h (k:=k) hk
 have sO:∀k,bo x [(o:Int)] (k+1)=if k=o then bo x [(o:Int)] k else bo x [(o:Int)] k++[nth x.os k]:=λk=>by
  unfold bo;rw[mH,BF];by_cases e:k=o<;>simp[e]
 have sW:∀k,k<x.os.length->bn x [(o:Int)] [] (k+1)=if k=o then bn x [(o:Int)] [] k else bn x [(o:Int)] [] k++[nth x.wt k]:=λk hk=>by
  unfold bn;rw[mH,BF];by_cases e:k=o<;>simp[e,zfr x k (wr k hk)]
 have sZ:∀k,k<x.zs.length->br x [(o:Int)] [] (k+1)=br x [(o:Int)] [] k++bF [(o:Int)] [] x.os.length x.bz.length (nth x.zs k):=λk hk=>by
  unfold br;rw[ym hk,u7];rw[<-D9 x.zs k hk];simp
 have lwL:∀k,(bn x [(o:Int)] [] k).length=(bo x [(o:Int)] k).length:=λk=>by simp[bn,bo]
 have bO:∀k,(bo x [(o:Int)] k).length<=k:=λk=>by simp[bo];exact sf _ k
 have bZ:∀k,(br x [(o:Int)] [] k).length<=k:=λk=>by
  unfold br
  have key:∀l:List Par,(l.flatMap (bF [(o:Int)] [] x.os.length x.bz.length)).length<=l.length:=λl=>by
   induction l with
   |nil=>simp
   |cons p l ih=>
    rw[jq,nK,gw]
    have:(bF [(o:Int)] [] x.os.length x.bz.length p).length<=1:=by
     unfold bF;split<;>simp
    omega
  grind
 have z4:bo x [(o:Int)] 0=[]:=rfl;have z5:bn x [(o:Int)] [] 0=[]:=rfl;have z6:br x [(o:Int)] [] 0=[]:=rfl
 have eP:=λa b ha hb=>zfp (o:=o) (n:=x.os.length) (c:=x.bz.length) (a:=a) (b:=b) ha hb
 unfold bt;rw[zdp,<-zdg (bn x [(o:Int)] [] x.os.length)];generalize bo x [(o:Int)]=LO at *;generalize bn x [(o:Int)] []=LW at *;generalize br x [(o:Int)] []=LZ at *;generalize bF [(o:Int)] [] x.os.length x.bz.length=LP at *;have q3:=keep (And.intro sO (And.intro sW (And.intro bO (And.intro wr (And.intro lw (And.intro lwL (And.intro lo lc)))))));have q4:=keep (And.intro sZ (And.intro eP (And.intro bZ (And.intro zr (And.intro lz (And.intro lo lc))))));have k4:=keep z4;have k5:=keep z5;have k6:=keep z6;have c0:=zhl x.bz
 have c9:x.bz.length<=1000000000:=ab
 clear sO sW bO wr lw lwL sZ eP bZ zr lz lo lc z4 z5 z6 h;refine rcK Tz.func44 ?_;simp only[Tryz.results44,Tryz.ntmps44]
 repeat' first|(with_reducible first|apply bG|apply bE|intro _)|simp[*]
 all_goals try first|exact c9|exact c0
 have eC:(dk x.bz).map (AV.w false false)=cA (dk x.bz):=rfl;rw[eC];clear eC c0 c9;have e0:cA (dj [])=[]:=rfl;have e00:cm []=[]:=rfl;refine fI 6 (λ(k:Nat)=>k<=x.os.length) [1,2,4,5] (λ(k:Nat)=>[(6,.w false false (.int .i64 k))]) [0,1,2] (λ(k:Nat)=>[(4,cA (dj (LO k))),(5,cm (LW k)),(3,[.msl 2 (x.bz.length*3) 3 0 x.bz.length,.msl 4 ((LO k).length*4) 4 0 (LO k).length,.msl 5 (LW k).length 1 0 (LW k).length,.w true true (.sl 0 [])])]) (λ(k:Nat)=>x.os.length-k) (λ(_u:Unit)=>True) [1,2,4,5] (λ(_u:Unit)=>[]) [0,1,2] (λ(_u:Unit)=>[(4,cA (dj (LO x.os.length))),(5,cm (LW x.os.length)),(3,[.msl 2 (x.bz.length*3) 3 0 x.bz.length,.msl 4 ((LO x.os.length).length*4) 4 0 (LO x.os.length).length,.msl 5 (LW x.os.length).length 1 0 (LW x.os.length).length,.w true true (.sl 0 [])])]) (0) (cG _) (de [] ae (by simp[show LO 0=[] from k4,show LW 0=[] from k5,e0,e00])) (λk hk=>?_) (λ_u hf=>?_)
 .clear e0 e00 q4 k4 k5 k6;by_cases h8:k<x.os.length
  .obtain⟨sO,sW,bO,wr,lw,lwL,lo,lc⟩:=q3;have e2:=sO k;have w2:=sW k h8;have b:=bO k;have h9:inI .i64 ((k:Int)+1):=cu ab ab
   have hz:k+1<=x.os.length:=ab
   have hx:(LO k).length+1<=1000000000:=ab
   have hl9w:(LW k).length+1<=1000000000:=by rw[lwL];exact hx
   have hr:=zcc (LO k)
   have hw:k<x.wt.length:=ab
   have c1:=xl (nth x.wt k) (by have:=wr k h8;omega);clear sO sW bO wr lw lwL lo lc b;by_cases hg:k=o
   .rw[bX hg] at e2 w2;clear c1;subst hg
    repeat' first|(with_reducible first|apply bG|apply cj|apply bS|apply bE|apply bP|intro _)|simp[*,h8,h9]
    all_goals first
     |omega
     |assumption
     |(refine dJ _ _ _ _ _ (k+1) _ ?_ ab ?_;(· exact hz);(refine de [] ?_ ?_<;>first|trivial|(simp[*,e2,w2];done)))
   .rw[bH hg] at e2 w2
    have hkI:¬(k:Int)=(o:Int):=ab
    have e4:=ze2 (LO k) (nth x.os k);rw[<-e2] at e4
    have e5:(LO (k+1)).length=(LO k).length+1:=by rw[e2];simp
    have e6:=zdf (LW k) (nth x.wt k);rw[<-w2] at e6
    have e7:(LW (k+1)).length=(LW k).length+1:=by rw[w2];simp
    clear e2 w2
    repeat' first|(with_reducible first|apply bG|apply cj|apply bS|apply bE|refine cT (id:=6) 8 mixed ai ?_|refine cT (id:=7) 9 mixed ai ?_|apply bP|refine And.intro ?_ ?_|intro _)|simp[*,h8,h9,hkI,hg,hw,hr,Tw.dW]|(refine bN (c1) ?_ ?_;· simp[*];done)
    all_goals first
     |omega
     |assumption
     |(refine dJ _ _ _ _ _ (k+1) _ ?_ ab ?_;(· exact hz);(refine de [] ?_ ?_<;>first|trivial|(simp[*,e4,e5,e6,e7,ga];done)))
  .have hh:k=x.os.length:=ab
   subst hh;clear q3
   repeat' first|(with_reducible first|apply bG|apply cK|apply bE|apply bP|intro _)|simp[*,h8]
   all_goals first
    |omega
    |(refine dp () ?_ ?_;(· trivial);(refine cg ?_ ?_<;>first|trivial|(simp[*];done)))
 .clear e0 e00 q3 k4 k5
  repeat' first|(with_reducible first|apply bG|apply bE|intro _)|simp[*]
  have e0:cA (dm [])=[]:=rfl;refine fI 7 (λ(k:Nat)=>k<=x.zs.length) [1,2,4,5] (λ(k:Nat)=>[(7,.w false false (.int .i64 k))]) [0,1,2,4,5] (λ(k:Nat)=>[(6,cA (dm (LZ k))),(3,[.msl 2 (x.bz.length*3) 3 0 x.bz.length,.msl 4 ((LO x.os.length).length*4) 4 0 (LO x.os.length).length,.msl 5 (LW x.os.length).length 1 0 (LW x.os.length).length,.msl 6 ((LZ k).length*2) 2 0 (LZ k).length])]) (λ(k:Nat)=>x.zs.length-k) (λ(_u:Unit)=>True) [4,5] (λ(_u:Unit)=>[]) [0,1,2,4,5] (λ(_u:Unit)=>[(6,cA (dm (LZ x.zs.length))),(3,[.msl 2 (x.bz.length*3) 3 0 x.bz.length,.msl 4 ((LO x.os.length).length*4) 4 0 (LO x.os.length).length,.msl 5 (LW x.os.length).length 1 0 (LW x.os.length).length,.msl 6 ((LZ x.zs.length).length*2) 2 0 (LZ x.zs.length).length])]) (0) (cG _) (de [] ae aX) (λk hk=>?_) (λ_u hf=>?_)
  .clear e0 k6;by_cases h8:k<x.zs.length
   .obtain⟨sZ,eP,bZ,zr,lz,lo,lc⟩:=q4;have s1:=sZ k h8;obtain⟨a,b,eab,ha,hb⟩:=zr k h8;rw[eab,eP a b ha hb] at s1;have b9:=bZ k;have h9:inI .i64 ((k:Int)+1):=cu ab ab
    have hz:k+1<=x.zs.length:=ab
    have hx:(LZ k).length+1<=1000000000:=ab
    have hr:=LK (LZ k);have c1:=zfo (a:Int) (o:Int) (cu ab ab)
    have ea1:(nth x.zs k).1=(a:Int):=by rw[eab]
    have ea2:(nth x.zs k).2=(b:Int):=by rw[eab]
    clear sZ eP bZ zr lz lo lc b9 eab ha hb;by_cases h':a=o
    .rw[bX h'] at s1;simp only[pR] at s1
     have haI:(a:Int)=(o:Int):=ab
     clear c1 h'
     repeat' first|(with_reducible first|apply bG|apply cj|apply bS|apply bE|apply bP|refine And.intro ?_ ?_|intro _)|simp[*,h8,h9,ea1,ea2,haI,Tw.dP]
     all_goals first
      |omega
      |assumption
      |(refine dJ _ _ _ _ _ (k+1) _ ?_ ab ?_;(· exact hz);(refine de [] ?_ ?_<;>first|trivial|(simp[*,s1];done)))
    .rw[bH h'] at s1
     have haI:¬(a:Int)=(o:Int):=ab
     generalize (if (o:Int)<(a:Int) then (a:Int)-1 else (a:Int))=w at *;have s2:=zde (LZ k) (w,(b:Int));rw[<-s1] at s2
     have s3:(LZ (k+1)).length=(LZ k).length+1:=by rw[s1];simp
     clear s1
     repeat' first|(with_reducible first|apply bG|apply cj|apply bS|apply bE|refine cT (id:=13) 10 mixed ai ?_|apply bP|refine And.intro ?_ ?_|intro _)|simp[*,h8,h9,ea1,ea2,haI,h',hr,Tw.dP]|(refine bN (c1) ?_ ?_;· simp[*];done)
     all_goals first
      |omega
      |assumption
      |(refine dJ _ _ _ _ _ (k+1) _ ?_ ab ?_;(· exact hz);(refine de [] ?_ ?_<;>first|trivial|(simp[*,s2,s3,ga];done)))
   .have hh:k=x.zs.length:=ab
    subst hh;clear q4
    repeat' first|(with_reducible first|apply bG|apply cK|apply bE|apply bP|intro _)|simp[*,h8]
    all_goals first
     |omega
     |(refine dp () ?_ ?_;(· trivial);(refine cg ?_ ?_<;>first|trivial|simp))
  .clear e0 k6 q4;have h1:=zcb x.bz;have h2:=zcc (LO x.os.length);have h3:=LK (LZ x.zs.length)
   repeat' first|(with_reducible first|apply bG|apply bU|apply bE|intro _)|simp[*,h1,h2,h3]
   all_goals first|omega|trivial
theorem zho(l:List Int):eh (iA l)=true:=tX false false _ (gz.2 λy hy=>by obtain⟨v,_,rfl⟩:=gA.1 hy;rfl)
theorem zhp(l:List Int)(a b:Nat):eh (((List.map (AV.w false false) (ints l)).drop a).take b)=true:=by
 rw[<-List.map_drop,<-Jf]
 exact zdr λy hy=>by
  obtain⟨v,_,rfl⟩:=gA.1 (List.mem_of_mem_drop (List.mem_of_mem_take hy));rfl
theorem zhq(l:List Int)(h:l.length<100000):og Tz.prog 24 [.sl l.length (ints l)] [iA l] (.msl 0 l.length 1 0 l.length):=by
 have e:(ints l).map (AV.w false false)=iA l:=rfl;have g:=zho l;refine xk 0 [] Tz.func24 aj rfl (gH aj) ae (by intro c hc;simp only[qW] at hc;subst hc;exact zen l) ?_;simp only[Tryz.results24,Tryz.ntmps24]
 repeat' first|(with_reducible first|apply bG|apply bU|apply bE|refine And.intro ?_ ?_|intro _)|simp[*,e,g]
 omega
theorem zfs(l:List Int)(c:Nat):∀k,k<=l.length->(bf [(c:Int)] k).map (nth l)=if k<=c then l.take k else l.take c++(l.take k).drop (c+1)
 |0,_=>by rw[bX (cG _)];rfl
 |k+1,h=>by
  have ih:=zfs l c k ab;have ht:l.take (k+1)=l.take k++[nth l k]:=G2 l k ab
  have hlen:(l.take k).length=k:=aO
  rw[mH,BF]
  grind
theorem zhr(x:Rd)(i c:Nat)(h:(nth x.wt i).length=x.bz.length)(hc:c<x.bz.length):eM x [(c:Int)] i x.bz.length=(nth x.wt i).take c++(nth x.wt i).drop (c+1):=by
 unfold eM;rw[<-h,zfs (nth x.wt i) c _ (bV _),bH ab,yn]
theorem zhs(x:Rd)(h:Rt x.bz x.os x.wt x.zs)(o:Nat)(ho:o<x.bz.length):bT Tz.prog 46 [.agg [.sl x.bz.length (dk x.bz),.sl x.os.length (dj x.os),.sl x.wt.length (dQ x.wt),.sl x.zs.length (dm x.zs)],.int .i64 o] (bt x [] [(o:Int)]) true:=by
 have lc:=h.lc;have lo:=h.lo;have lw:=h.lw;have lz:=h.lz
 have wr:∀i,i<x.os.length->(nth x.wt i).length=x.bz.length:=λi hi=>(h.wr _ (tE ab)).1
 have zr:=λk hk=>zgc h (k:=k) hk
 have sC:∀k,bu x [(o:Int)] (k+1)=if k=o then bu x [(o:Int)] k else bu x [(o:Int)] k++[nth x.bz k]:=λk=>by
  unfold bu;rw[mH,BF];by_cases e:k=o<;>simp[e]
 have sW:∀k,k<x.os.length->bn x [] [(o:Int)] (k+1)=bn x [] [(o:Int)] k++[(nth x.wt k).take o++(nth x.wt k).drop (o+1)]:=λk hk=>by
  unfold bn;rw[mH,zco];simp[zhr x k o (wr k hk) ho]
 have sZ:∀k,k<x.zs.length->br x [] [(o:Int)] (k+1)=br x [] [(o:Int)] k++bF [] [(o:Int)] x.os.length x.bz.length (nth x.zs k):=λk hk=>by
  unfold br;rw[ym hk,u7];rw[<-D9 x.zs k hk];simp
 have bW:∀k,(bn x [] [(o:Int)] k).length=k:=λk=>by simp[bn,E1]
 have bC:∀k,(bu x [(o:Int)] k).length<=k:=λk=>by simp[bu];exact sf _ k
 have bZ:∀k,(br x [] [(o:Int)] k).length<=k:=λk=>by
  unfold br
  have key:∀l:List Par,(l.flatMap (bF [] [(o:Int)] x.os.length x.bz.length)).length<=l.length:=λl=>by
   induction l with
   |nil=>simp
   |cons p l ih=>
    rw[jq,nK,gw]
    have:(bF [] [(o:Int)] x.os.length x.bz.length p).length<=1:=by
     unfold bF;split<;>simp
    omega
  grind
 have z4:bu x [(o:Int)] 0=[]:=rfl;have z5:bn x [] [(o:Int)] 0=[]:=rfl;have z6:br x [] [(o:Int)] 0=[]:=rfl
 have eP:=λa b ha hb=>zfq (o:=o) (n:=x.os.length) (c:=x.bz.length) (a:=a) (b:=b) ha hb
 unfold bt;rw[zdq,<-zdg (bn x [] [(o:Int)] x.os.length)];generalize bu x [(o:Int)]=LC at *;generalize bn x [] [(o:Int)]=LW at *;generalize br x [] [(o:Int)]=LZ at *;generalize bF [] [(o:Int)] x.os.length x.bz.length=LP at *;have q2:=keep (And.intro sC (And.intro bC lc));have q3:=keep (And.intro sW (And.intro bW (And.intro wr (And.intro lw (And.intro lo lc)))));have q4:=keep (And.intro sZ (And.intro eP (And.intro bZ (And.intro zr (And.intro lz (And.intro lo lc))))));have k4:=keep z4;have k5:=keep z5;have k6:=keep z6;have kw:=keep lw;have c0:=zhm x.os
 have c9:x.os.length<=1000000000:=ab
 clear sC sW bC bW wr lw sZ eP bZ zr lz lo lc z4 z5 z6 h;refine rcK Tz.func46 ?_;simp only[Tryz.results46,Tryz.ntmps46]
 repeat' first|(with_reducible first|apply bG|apply bE|intro _)|simp[*]
 all_goals try first|exact c9|exact c0
 have eC:(dj x.os).map (AV.w false false)=cA (dj x.os):=rfl;rw[eC];clear eC c0 c9;have e0:cA (dk [])=[]:=rfl;refine fI 5 (λ(k:Nat)=>k<=x.bz.length) [1,2,4,5] (λ(k:Nat)=>[(6,.w false false (.int .i64 k))]) [0,1,2] (λ(k:Nat)=>[(4,cA (dk (LC k))),(3,[.msl 4 ((LC k).length*3) 3 0 (LC k).length,.msl 2 (x.os.length*4) 4 0 x.os.length,.w true true (.sl 0 []),.w true true (.sl 0 [])])]) (λ(k:Nat)=>x.bz.length-k) (λ(_u:Unit)=>True) [1,2,4,5] (λ(_u:Unit)=>[]) [0,1,2] (λ(_u:Unit)=>[(4,cA (dk (LC x.bz.length))),(3,[.msl 4 ((LC x.bz.length).length*3) 3 0 (LC x.bz.length).length,.msl 2 (x.os.length*4) 4 0 x.os.length,.w true true (.sl 0 []),.w true true (.sl 0 [])])]) (0) (cG _) (de [] ae (by simp[show LC 0=[] from k4,e0])) (λk hk=>?_) (λ_u hf=>?_)
 .clear e0 q3 q4 k4 k5 k6 kw;by_cases h8:k<x.bz.length
  .obtain⟨sC,bC,lc⟩:=q2;have e2:=sC k;have b:=bC k;have h9:inI .i64 ((k:Int)+1):=cu ab ab
   have hz:k+1<=x.bz.length:=ab
   have hx:(LC k).length+1<=1000000000:=ab
   have hr:=zcb (LC k);clear sC bC lc b;by_cases hg:k=o
   .rw[bX hg] at e2;subst hg
    repeat' first|(with_reducible first|apply bG|apply cj|apply bS|apply bE|apply bP|intro _)|simp[*,h8,h9]
    all_goals first
     |omega
     |assumption
     |(refine dJ _ _ _ _ _ (k+1) _ ?_ ab ?_;(· exact hz);(refine de [] ?_ ?_<;>first|trivial|(simp[*,e2];done)))
   .rw[bH hg] at e2
    have hkI:¬(k:Int)=(o:Int):=ab
    have e4:=ze1 (LC k) (nth x.bz k);rw[<-e2] at e4
    have e5:(LC (k+1)).length=(LC k).length+1:=by rw[e2];simp
    clear e2
    repeat' first|(with_reducible first|apply bG|apply cj|apply bS|apply bE|refine cT (id:=6) 8 mixed ai ?_|apply bP|refine And.intro ?_ ?_|intro _)|simp[*,h8,h9,hkI,hg,hr,Tw.eX]
    all_goals first
     |omega
     |assumption
     |(refine dJ _ _ _ _ _ (k+1) _ ?_ ab ?_;(· exact hz);(refine de [] ?_ ?_<;>first|trivial|(simp[*,e4,e5,ga];done)))
  .have hh:k=x.bz.length:=ab
   subst hh;clear q2
   repeat' first|(with_reducible first|apply bG|apply cK|apply bE|apply bP|intro _)|simp[*,h8]
   all_goals first
    |omega
    |(refine dp () ?_ ?_;(· trivial);(refine cg ?_ ?_<;>first|trivial|(simp[*];done)))
 clear e0 q2 k4
 repeat' first|(with_reducible first|apply bG|apply bE|intro _)|simp[*]
 have e00:cm []=[]:=rfl;refine fI 6 (λ(k:Nat)=>k<=x.os.length) [1,2,4,5] (λ(k:Nat)=>[(7,.w false false (.int .i64 k))]) [0,1,2,4] (λ(k:Nat)=>[(5,cm (LW k)),(3,[.msl 4 ((LC x.bz.length).length*3) 3 0 (LC x.bz.length).length,.msl 2 (x.os.length*4) 4 0 x.os.length,.msl 5 k 1 0 k,.w true true (.sl 0 [])])]) (λ(k:Nat)=>x.os.length-k) (λ(_u:Unit)=>True) [1,2,4,5] (λ(_u:Unit)=>[]) [0,1,2,4] (λ(_u:Unit)=>[(5,cm (LW x.os.length)),(3,[.msl 4 ((LC x.bz.length).length*3) 3 0 (LC x.bz.length).length,.msl 2 (x.os.length*4) 4 0 x.os.length,.msl 5 x.os.length 1 0 x.os.length,.w true true (.sl 0 [])])]) (0) (cG _) (de [] ae (by simp[show LW 0=[] from k5,e00])) (λk hk=>?_) (λ_u hf=>?_)
 .clear e00 q4 k5 k6;obtain⟨sW,bW,wr,lw,lo,lc⟩:=q3;by_cases h8:k<x.os.length
  .have w2:=sW k h8;have h9:inI .i64 ((k:Int)+1):=cu ab ab;have a':inI .i64 ((o:Int)+1):=cu ab ab
   have hz:k+1<=x.os.length:=ab
   have ao:k+1<=1000000000:=ab
   have hw:k<x.wt.length:=ab
   have a5:=wr k h8;have b1:=bW k;generalize hN:nth x.wt k=R at *
   have hoR:o<=R.length:=ab
   have hoR1:o+1<=R.length:=ab
   have ag:R.length<=1000000000:=ab
   have c1:=zhq (R.take o) aO
   have lt0:(R.take o).length=o:=aO
   rw[lt0] at c1;have e6:=zdf (LW k) (R.take o++R.drop (o+1));rw[<-w2] at e6
   have hLc:iA (R.take o)++List.take (R.length-(o+1)) (List.drop (o+1) (List.map (AV.w false false) (ints R)))=iA (R.take o++R.drop (o+1)):=by
    rw[<-HR];congr 1;rw[SZ (Nat.le_of_eq (by rw[uR,iV,Oi]))];simp[iA,ints,List.map_drop]
   have hLl:o+(R.length-(o+1))=(R.take o++R.drop (o+1)).length:=ar
   obtain⟨L,hL⟩:∃L,R.take o++R.drop (o+1)=L:=⟨_,rfl⟩;rw[hL] at e6 hLc hLl;have kq:=keep (And.intro e6 (And.intro hLc hLl));clear sW bW wr lw lo lc w2 lt0 a5 ho kw e6 hLc hLl hL
   repeat' first|(with_reducible first|apply bG|apply ry|apply bS|apply bE|refine j8 (id:=10) [0,1,2,3,4,5,6,7,8,9,10,11,12,13,14,15,16,17] [18,19,20,21,22] [[.new 0],[.new 0],[],[],[],[],[],[],[],[],[],[],[],[],[],[],[],[]] [[.new 0],[],[.fld 5 27 2],[],[.slot 5]] mixed ai ?_|apply bP|refine And.intro ?_ ?_|refine cwM (c1) ?_|intro _)|simp[*,h8,h9,a',hw,hN,hoR,hoR1]
   all_goals try first|omega|assumption|exact zhp _ _ _
   obtain⟨e6,hLc,hLl⟩:=kq
   all_goals first
    |(refine dJ _ _ _ _ _ (k+1) _ ?_ ab ?_;(· exact hz);(refine de [6] ?_ ?_<;>first|trivial|(simp[*,e6,hLc,hLl];done)))
  .have hh:k=x.os.length:=ab
   subst hh
   have hw:¬(x.os.length:Int)<(x.wt.length:Int):=ab
   have a4:¬x.os.length<x.wt.length:=ab
   clear sW bW wr lw lo lc kw
   repeat' first|(with_reducible first|apply bG|apply cK|apply bE|apply bP|intro _)|simp[*,hw,a4]
   all_goals first
    |omega
    |(refine dp () ?_ ?_;(· trivial);(refine cg ?_ ?_<;>first|trivial|(simp[*];done)))
 have hWl:(LW x.os.length).length=x.os.length:=q3.2.1 _;have kWl:=keep hWl;clear e00 q3 k5 hWl
 repeat' first|(with_reducible first|apply bG|apply bE|intro _)|simp[*]
 have e0:cA (dm [])=[]:=rfl;refine fI 7 (λ(k:Nat)=>k<=x.zs.length) [1,2,4,5] (λ(k:Nat)=>[(8,.w false false (.int .i64 k))]) [0,1,2,4,5] (λ(k:Nat)=>[(6,cA (dm (LZ k))),(3,[.msl 4 ((LC x.bz.length).length*3) 3 0 (LC x.bz.length).length,.msl 2 (x.os.length*4) 4 0 x.os.length,.msl 5 x.os.length 1 0 x.os.length,.msl 6 ((LZ k).length*2) 2 0 (LZ k).length])]) (λ(k:Nat)=>x.zs.length-k) (λ(_u:Unit)=>True) [4,5] (λ(_u:Unit)=>[]) [0,1,2,4,5] (λ(_u:Unit)=>[(6,cA (dm (LZ x.zs.length))),(3,[.msl 4 ((LC x.bz.length).length*3) 3 0 (LC x.bz.length).length,.msl 2 (x.os.length*4) 4 0 x.os.length,.msl 5 x.os.length 1 0 x.os.length,.msl 6 ((LZ x.zs.length).length*2) 2 0 (LZ x.zs.length).length])]) (0) (cG _) (de [] ae aX) (λk hk=>?_) (λ_u hf=>?_)
 .clear e0 k6;by_cases h8:k<x.zs.length
  .obtain⟨sZ,eP,bZ,zr,lz,lo,lc⟩:=q4;have s1:=sZ k h8;obtain⟨a,b,eab,ha,hb⟩:=zr k h8;rw[eab,eP a b ha hb] at s1;have b9:=bZ k;have h9:inI .i64 ((k:Int)+1):=cu ab ab
   have hz:k+1<=x.zs.length:=ab
   have hx:(LZ k).length+1<=1000000000:=ab
   have hr:=LK (LZ k);have c1:=zfo (b:Int) (o:Int) (cu ab ab)
   have ea1:(nth x.zs k).1=(a:Int):=by rw[eab]
   have ea2:(nth x.zs k).2=(b:Int):=by rw[eab]
   clear sZ eP bZ zr lz lo lc b9 eab ha hb;by_cases h':b=o
   .rw[bX h'] at s1;simp only[pR] at s1
    have haI:(b:Int)=(o:Int):=ab
    clear c1 h'
    repeat' first|(with_reducible first|apply bG|apply cj|apply bS|apply bE|apply bP|refine And.intro ?_ ?_|intro _)|simp[*,h8,h9,ea1,ea2,haI,Tw.dP]
    all_goals first
     |omega
     |assumption
     |(refine dJ _ _ _ _ _ (k+1) _ ?_ ab ?_;(· exact hz);(refine de [] ?_ ?_<;>first|trivial|(simp[*,s1];done)))
   .rw[bH h'] at s1
    have haI:¬(b:Int)=(o:Int):=ab
    generalize (if (o:Int)<(b:Int) then (b:Int)-1 else (b:Int))=w at *;have s2:=zde (LZ k) ((a:Int),w);rw[<-s1] at s2
    have s3:(LZ (k+1)).length=(LZ k).length+1:=by rw[s1];simp
    clear s1
    repeat' first|(with_reducible first|apply bG|apply cj|apply bS|apply bE|refine cT (id:=16) 10 mixed ai ?_|apply bP|refine And.intro ?_ ?_|intro _)|simp[*,h8,h9,ea1,ea2,haI,h',hr,Tw.dP]|(refine bN (c1) ?_ ?_;· simp[*];done)
    all_goals first
     |omega
     |assumption
     |(refine dJ _ _ _ _ _ (k+1) _ ?_ ab ?_;(· exact hz);(refine de [] ?_ ?_<;>first|trivial|(simp[*,s2,s3,ga];done)))
  .have hh:k=x.zs.length:=ab
   subst hh;clear q4
   repeat' first|(with_reducible first|apply bG|apply cK|apply bE|apply bP|intro _)|simp[*,h8]
   all_goals first
    |omega
    |(refine dp () ?_ ?_;(· trivial);(refine cg ?_ ?_<;>first|trivial|simp))
 .clear e0 k6 q4;have h1:=zcc x.os;have h2:=zcb (LC x.bz.length);have h3:=LK (LZ x.zs.length);have h4:(LW x.os.length).length=x.os.length:=kWl
  repeat' first|(with_reducible first|apply bG|apply bU|apply bE|intro _)|simp[*,h1,h2,h3,h4]
  all_goals first|omega|trivial
end
noncomputable instance zkj:bJ:=LD
theorem D5(t:Nat)(ex:List Int)(k:Nat):cO ((t:Int)::ex) k=(cO ex k && !decide (k=t)):=by
 rw[uU,eT,D4,D4]
 grind
theorem zht(t:Nat)(ex:List Int)(n:Nat):bf ((t:Int)::ex) n=(bf ex n).filter λk=>!decide (k=t):=by
 unfold bf;rw[List.filter_filter]
 exact Jh λk _=>by rw[D5,Bool.and_comm]
theorem zhu{ex:List Int}{n j k:Nat}(hj:j<a9 ex n)(hk:k<a9 ex n):nth (bf ex n) k=nth (bf ex n) j↔k=j:=by
 constructor
 .intro e;have h1:=(l9 ex n j hj).2.2;have h2:=(l9 ex n k hk).2.2;rw[e] at h2;omega
 simp_all
theorem zcr(ex:List Int)(n j:Nat)(hj:j<a9 ex n):(bf [(j:Int)] (a9 ex n)).map (nth (bf ex n))=bf ((nth (bf ex n) j:Nat)::ex) n:=by
 rw[zht (nth (bf ex n) j) ex n];have h:bf ex n=(List.range (a9 ex n)).map (nth (bf ex n)):=(E2 (bf ex n)).symm;rw[show (bf ex n).filter (λk=>!decide (k=nth (bf ex n) j))=((List.range (a9 ex n)).map (nth (bf ex n))).filter (λk=>!decide (k=nth (bf ex n) j)) from by rw[<-h],List.filter_map];congr 1
 refine Jh λk hk=>?_
 rw[BF];have:=zhu hj (lW.1 hk)
 grind
theorem zft{ex:List Int}{t:Nat}(ht:cO ex t=true):∀b,a9 ((t:Int)::ex) b=a9 ex b-if t<b then 1 else 0
 |0=>rfl
 |b+1=>by
  have ih:=zft ht b;rw[EX,EX,D5,ih];by_cases e:b=t
  .simp_all
  .by_cases h8:t<b
   .have:=m6 ht h8
    cases cO ex b<;>simp[e,h8]<;>split<;>omega
   grind
theorem zfu{ex:List Int}{n j b:Nat}(hj:j<a9 ex n)(hb:cO ex b=true):a9 [(j:Int)] (a9 ex b)=a9 ((nth (bf ex n) j:Nat)::ex) b:=by
 obtain⟨h1,h2,h3⟩:=l9 ex n j hj;rw[LS,zft h2];by_cases h:nth (bf ex n) j<b
 .have:=m6 h2 h;rw[bX h,bX ab]
 .rw[bH h,bH]
  .rfl
  intro h4;by_cases e:b=nth (bf ex n) j
  .rw[e,h3] at h4;omega
  .have:=m6 hb (show b<nth (bf ex n) j by omega);omega
theorem zce(os cs:List Int)(n c:Nat)(p:Par):bF os cs n c p=if (0<=p.1/\p.1<(n:Int)/\cO os p.1.toNat=true)/\(0<=p.2/\p.2<(c:Int)/\cO cs p.2.toNat=true) then [((a9 os p.1.toNat:Int),(a9 cs p.2.toNat:Int))] else []:=by
 unfold bF;rw[Bm,Bm]
 grind
def lRd(x:Rd)(os cs:List Int):Rd:=⟨bu x cs x.bz.length,bo x os x.os.length,bn x os cs x.os.length,br x os cs x.zs.length,[]⟩
section
variable(x:Rd)(os cs:List Int)
theorem Mk:(lRd x os cs).bz.length=a9 cs x.bz.length:=by simp[lRd,bu,a9]
theorem zcf:(lRd x os cs).os.length=a9 os x.os.length:=by simp[lRd,bo,a9]
theorem C6{α β:Type}{f g:α->β}{l:List α}(h:∀y∈l,f y=g y):l.map f=l.map g:=I0 h
theorem ziu(j:Nat)(hj:j<a9 cs x.bz.length):bu (lRd x os cs) [(j:Int)] (lRd x os cs).bz.length=bu x ((nth (bf cs x.bz.length) j:Nat)::cs) x.bz.length:=by
 rw[Mk];unfold bu;rw[<-zcr cs _ j hj,sX]
 exact C6 λk hk=>zfk x cs (rL _ _ _ hk)
theorem ziv(j:Nat)(hj:j<a9 os x.os.length):bo (lRd x os cs) [(j:Int)] (lRd x os cs).os.length=bo x ((nth (bf os x.os.length) j:Nat)::os) x.os.length:=by
 rw[zcf];unfold bo;rw[<-zcr os _ j hj,sX]
 exact C6 λk hk=>zdm x os (rL _ _ _ hk)
theorem ziw(j:Nat)(hj:j<a9 cs x.bz.length):bn (lRd x os cs) [] [(j:Int)] (lRd x os cs).os.length=bn x os ((nth (bf cs x.bz.length) j:Nat)::cs) x.os.length:=by
 rw[zcf];unfold bn;rw[E1,show bf os x.os.length=(List.range (a9 os x.os.length)).map (nth (bf os x.os.length)) from (E2 _).symm,sX]
 refine C6 λi hi=>?_
 have hi:i<a9 os x.os.length:=by
  have:=lW.1 hi;simpa using this
 simp only[Function.comp];unfold eM;rw[Mk,<-zcr cs _ j hj,sX]
 refine C6 λk hk=>?_
 have:=zdn x os cs hi (rL _ _ _ hk);trivial
theorem zix(j:Nat)(hj:j<a9 os x.os.length):bn (lRd x os cs) [(j:Int)] [] (lRd x os cs).os.length=bn x ((nth (bf os x.os.length) j:Nat)::os) cs x.os.length:=by
 rw[zcf];unfold bn;rw[<-zcr os _ j hj,sX]
 refine C6 λi hi=>?_
 have hi:i<a9 os x.os.length:=rL _ _ _ hi;simp only[Function.comp];unfold eM;rw[Mk,E1,show bf cs x.bz.length=(List.range (a9 cs x.bz.length)).map (nth (bf cs x.bz.length)) from (E2 _).symm,sX]
 refine C6 λk hk=>?_
 have hk:k<a9 cs x.bz.length:=by
  have:=lW.1 hk;simpa using this
 have:=zdn x os cs hi hk;trivial
theorem E3(y:Rd)(a b:List Int):br y a b y.zs.length=y.zs.flatMap (bF a b y.os.length y.bz.length):=by unfold br;rw[yn]
theorem zfv{α β:Type}{f g:α->List β}{l:List α}(h:∀y,f y=g y):l.flatMap f=l.flatMap g:=by rw[funext h]
theorem ziy(j:Nat)(hj:j<a9 cs x.bz.length):br (lRd x os cs) [] [(j:Int)] (lRd x os cs).zs.length=br x os ((nth (bf cs x.bz.length) j:Nat)::cs) x.zs.length:=by
 rw[E3,E3,zcf,Mk];show (br x os cs x.zs.length).flatMap _=_;rw[E3,List.flatMap_assoc]
 refine zfv λp=>?_
 rw[zce os cs,zce os ((nth (bf cs x.bz.length) j:Nat)::cs)];by_cases h1:0<=p.1/\p.1<(x.os.length:Int)/\cO os p.1.toNat=true
 .by_cases h2:0<=p.2/\p.2<(x.bz.length:Int)/\cO cs p.2.toNat=true
  .rw[bX ⟨h1,h2⟩];obtain⟨k1,k2,k3⟩:=l9 cs x.bz.length j hj;have i1:=m6 h1.2.2 (show p.1.toNat<x.os.length by omega);have i2:=m6 h2.2.2 (show p.2.toNat<x.bz.length by omega);rw[jq,List.flatMap_nil,pR,zfq i1 i2];by_cases e:a9 cs p.2.toNat=j
   .have e2:p.2.toNat=nth (bf cs x.bz.length) j:=EO h2.2.2 k2 ab;rw[bX e,bH]
    rintro⟨_,_,_,h5⟩
    rw[D5,e2] at h5;simp at h5
   .have e2:¬p.2.toNat=nth (bf cs x.bz.length) j:=λe3=>e (by rw[e3];exact k3)
    have hp:(0<=p.1/\p.1<(x.os.length:Int)/\cO os p.1.toNat=true)/\(0<=p.2/\p.2<(x.bz.length:Int)/\cO ((nth (bf cs x.bz.length) j:Nat)::cs) p.2.toNat=true):=⟨h1,h2.1,h2.2.1,by rw[D5,h2.2.2];simp[e2]⟩;rw[bH e,bX hp,<-zfu hj h2.2.2,LS];congr 2
    split<;>split<;>omega
  .rw[bH (λh=>h2 h.2),bH]
   .rfl
   rintro⟨_,h3,h4,h5⟩
   rw[D5,eT] at h5;exact h2 ⟨h3,h4,h5.1⟩
 grind
theorem ziz(j:Nat)(hj:j<a9 os x.os.length):br (lRd x os cs) [(j:Int)] [] (lRd x os cs).zs.length=br x ((nth (bf os x.os.length) j:Nat)::os) cs x.zs.length:=by
 rw[E3,E3,zcf,Mk];show (br x os cs x.zs.length).flatMap _=_;rw[E3,List.flatMap_assoc]
 refine zfv λp=>?_
 rw[zce os cs,zce ((nth (bf os x.os.length) j:Nat)::os) cs];by_cases h2:0<=p.2/\p.2<(x.bz.length:Int)/\cO cs p.2.toNat=true
 .by_cases h1:0<=p.1/\p.1<(x.os.length:Int)/\cO os p.1.toNat=true
  .rw[bX ⟨h1,h2⟩];obtain⟨k1,k2,k3⟩:=l9 os x.os.length j hj;have i1:=m6 h1.2.2 (show p.1.toNat<x.os.length by omega);have i2:=m6 h2.2.2 (show p.2.toNat<x.bz.length by omega);rw[jq,List.flatMap_nil,pR,zfp i1 i2];by_cases e:a9 os p.1.toNat=j
   .have e2:p.1.toNat=nth (bf os x.os.length) j:=EO h1.2.2 k2 ab;rw[bX e,bH]
    rintro⟨⟨_,_,h5⟩,_⟩
    rw[D5,e2] at h5;simp at h5
   .have e2:¬p.1.toNat=nth (bf os x.os.length) j:=λe3=>e (by rw[e3];exact k3)
    have hp:(0<=p.1/\p.1<(x.os.length:Int)/\cO ((nth (bf os x.os.length) j:Nat)::os) p.1.toNat=true)/\(0<=p.2/\p.2<(x.bz.length:Int)/\cO cs p.2.toNat=true):=⟨⟨h1.1,h1.2.1,by rw[D5,h1.2.2];simp[e2]⟩,h2⟩;rw[bH e,bX hp,<-zfu hj h1.2.2,LS];congr 2
    split<;>split<;>omega
  .rw[bH (λh=>h1 h.1),bH]
   .rfl
   rintro⟨⟨h3,h4,h5⟩,_⟩
   rw[D5,eT] at h5;exact h1 ⟨h3,h4,h5.1⟩
 grind
theorem zhv(j:Nat)(hj:j<a9 cs x.bz.length):bt (lRd x os cs) [] [(j:Int)]=bt x os ((nth (bf cs x.bz.length) j:Nat)::cs):=by
 unfold bt;rw[ziu x os cs j hj,ziw x os cs j hj,ziy x os cs j hj,zdq];rfl
theorem zhw(j:Nat)(hj:j<a9 os x.os.length):bt (lRd x os cs) [(j:Int)] []=bt x ((nth (bf os x.os.length) j:Nat)::os) cs:=by
 unfold bt;rw[ziv x os cs j hj,zix x os cs j hj,ziz x os cs j hj,zdp];rfl
end
theorem zhx(x:Rd){os cs a6 cs':List Int}(ho:∀k,k<x.os.length->cO os k=cO a6 k)(hc:∀k,k<x.bz.length->cO cs k=cO cs' k):bt x os cs=bt x a6 cs':=by
 have kN:∀{a b:List Int}{n:Nat},(∀k,k<n->cO a k=cO b k)->bf a n=bf b n:=λh=>Jh λk hk=>h k (lW.1 hk)
 have e1:=kN ho;have e2:=kN hc
 have m1:dX os x.os.length=dX a6 x.os.length:=by
  unfold dX;rw[e1]
  refine C6 λk hk=>?_
  have hk:=rL _ _ _ hk;unfold a9;rw[kN λj hj=>ho j ab]
 have m2:dX cs x.bz.length=dX cs' x.bz.length:=by
  unfold dX;rw[e2]
  refine C6 λk hk=>?_
  have hk:=rL _ _ _ hk;unfold a9;rw[kN λj hj=>hc j ab]
 unfold bt bu bo bn eM br bF;rw[e1,e2,m1,m2]
theorem zhy(x:Rd)(h:Rt x.bz x.os x.wt x.zs):bt x [] []=.agg [.sl x.bz.length (dk x.bz),.sl x.os.length (dj x.os),.sl x.wt.length (dQ x.wt),.sl x.zs.length (dm x.zs)]:=by
 have eW:bn x [] [] x.os.length=x.wt:=by
  unfold bn;rw[E1,<-h.lw]
  have:∀i∈List.range x.wt.length,eM x [] i x.bz.length=nth x.wt i:=λi hi=>zfr x i (h.wr _ (tE (lW.1 hi))).1
  rw[C6 this,E2]
 have eZ:br x [] [] x.zs.length=x.zs:=by
  rw[E3]
  have key:∀l:List Par,(∀p∈l,da p.1 0 ((x.os.length:Int)-1)=true/\da p.2 0 ((x.bz.length:Int)-1)=true)->l.flatMap (bF [] [] x.os.length x.bz.length)=l:=λl hl=>by
   induction l with
   |nil=>rfl
   |cons p l ih=>
    rw[jq,ih λq hq=>hl q (fw _ hq),zce];obtain⟨h1,h2⟩:=hl p jB;have h1:=kQ.1 h1;have h2:=kQ.1 h2;rw[bX ⟨⟨h1.1,ab,rfl⟩,h2.1,ab,rfl⟩,zcp,zcp]
    have e1:((p.1.toNat:Nat):Int)=p.1:=ab
    have e2:((p.2.toNat:Nat):Int)=p.2:=ab
    rw[e1,e2];rfl
  exact key _ h.zr
 unfold bt;rw[zdp,zdq,eW,eZ]
noncomputable instance zkk:bJ:=LD
end Go.Proofs.YthpkmilhiganjaaGreat
