/- Lemmas. -/
import Derived.Test.YthpkmilhiganjaaGreatPEa
import Derived.Test.YthpkmilhiganjaaGreatPLg
import Derived.Test.YthpkmilhiganjaaGreatPLd
set_option linter.all false
set_option maxHeartbeats 32000000
set_option maxRecDepth 100000
namespace Go.Proofs.YthpkmilhiganjaaGreat
open Go Go.Fi
variable[av]
def prio(x:Rd)(i:Nat):Nat:=(nth x.os i).2.2.2.toNat
def bF(x:Rd):Nat->Int
 |0=>0
 |k+1=>bF x k+bw (prio x k)
@[simp]theorem sW(x:Rd):bF x 0=0:=rfl
def bZ(x:Rd)(i:Nat)(k:Int):Int:=nth (nth x.wt i) k.toNat
def bo(x:Rd)(plan:List Int):Nat->Int
 |0=>bF x x.os.length
 |k+1=>if nth plan k=-1 then bo x plan k else bo x plan k+(bZ x k (nth plan k)-bw (prio x k))
def b9(x:Rd)(plan:List Int):Int:=bo x plan plan.length
structure cn(x:Rd)(plan:List Int):Prop where
 len:plan.length=x.os.length
 at_:∀k,k<plan.length->nth plan k=-1\/(0<=nth plan k/\nth plan k<(x.ab.length:Int))
theorem eG(x:Rd)(ok:bR x)(i:Nat)(h:i<x.os.length):prio x i<=6/\((prio x i:Nat):Int)=(nth x.os i).2.2.2:=by
 have:=ok.pr i h;unfold prio;omega
theorem eL(x:Rd)(ok:bR x):∀k,k<=x.os.length->0<=bF x k/\bF x k<=1000000000000*(k:Int)
 |0,_=>⟨mZ _,by simp⟩
 |k+1,h=>by
  have:=eL x ok k (by omega);have:=nz (prio x k) (eG x ok k (by omega)).1;unfold bF;omega
theorem ft(x:Rd)(ok:bR x)(plan:List Int)(hp:cn x plan):∀k,k<=plan.length->-(1000000000000*(k:Int))<=bo x plan k/\bo x plan k<=8000000000000+100000*(k:Int)
 |0,_=>by
  have:=eL x ok x.os.length (aE _);have:=ok.lo;unfold bo;omega
 |k+1,h=>by
  have hk:k<x.os.length:=by have:=hp.len;omega
  have h1:=ft x ok plan hp k (by omega);have h2:=nz (prio x k) (eG x ok k hk).1;unfold bo;split
  .omega
  .rename_i h';have h3:=(hp.at_ k (by omega)).resolve_left h';have h4:=ok.wn k hk (nth plan k).toNat (by omega);unfold bZ;omega
theorem kV(x:Rd)(ok:bR x)(plan:List Int)(hp:cn x plan):aC Tz.prog 78 [x.pv,.sl plan.length (ints plan)] (.int .i64 (b9 x plan)) true:=by
 have b1:=eL x ok;have b2:=ft x ok plan hp
 have b3:=λi hi=>eG x ok i hi
 have b4:=ok.wn;have b5:=ok.wr;have lo:=ok.lo;have lw:=ok.lw;have hl:=hp.len;have ha:=hp.at_;have eC:b9 x plan=bo x plan plan.length:=rfl;have e0:bo x plan 0=bF x x.os.length:=rfl
 have eS:∀k,bo x plan (k+1)=if nth plan k=-1 then bo x plan k else bo x plan k+(bZ x k (nth plan k)-bw (prio x k)):=λ_=>rfl
 have eP:∀k,bF x (k+1)=bF x k+bw (prio x k):=λ_=>rfl
 unfold bZ at eS;rw[eC];generalize hCK:bo x plan=CK at *;generalize hPK:bF x=PK at *;generalize a6:prio x=pr at *
 have a5:PK 0=0:=by rw[<-hPK];rfl
 clear hCK hPK eC hp
 have h5:∀i,pr i=(nth x.os i).2.2.2.toNat:=λi=>by rw[<-a6];rfl
 clear a6 ok;obtain⟨ab,os,wt,zs,fit⟩:=x;unfold Rd.pv;simp only[] at b1 b2 b3 b4 b5 lo lw hl ha e0 eS eP h5 ⊢;have kk:=keep (And.intro b1 (And.intro b2 (And.intro b3 (And.intro b4 (And.intro b5 (And.intro lo (And.intro lw (And.intro hl (And.intro ha (And.intro e0 (And.intro eS (And.intro eP h5))))))))))));clear b1 b2 b3 b4 b5 lo lw hl ha e0 eS eP h5;refine oO Tz.func78 (by kernel_rfl) rfl (di (by kernel_rfl)) ?_;simp only[Tryz.results78,Tryz.ntmps78];refine cP (cO ?_)
 repeat' first|(with_reducible first|apply af|intro _)|(simp[*])
 refine cP (cO ?_)
 repeat' first|(with_reducible first|apply af|intro _)|(simp[*])
 refine cP (cO ?_)
 repeat' first|(with_reducible first|apply ai|apply af|intro _)|(simp[*])
 refine df 2 (λ(k:Nat)=>k<=os.length) [1,2,5,14,15] (λ(k:Nat)=>[(16,.w false false (.int .i64 k))]) [0] (λ(k:Nat)=>[(1,[.w false false (.int .i64 (PK k))])]) (λ(k:Nat)=>os.length-k) (λ(_u:Unit)=>True) [1,2,5] (λ(_u:Unit)=>[]) [0] (λ(_u:Unit)=>[(1,[.w false false (.int .i64 (PK os.length))])]) (0) (aK _) (aO [] (by simp[a5]) (by simp[a5])) (λk hk=>?_) (λ_u hf=>?_)
 .by_cases h8:k<os.length
  .obtain⟨b1,b2,b3,b4,b5,lo,lw,hl,ha,e0,eS,eP,h5⟩:=kk;have h1:=b3 k h8;have h2:=b1 k hk;have h3:=nz (pr k) h1.1;have c1:=sw (pr k) h1.1;have h4:=eP k;have h6:(nth os k).2.2.2=((pr k:Nat):Int):=h1.2.symm;have hb:inI .i64 (PK k+bw (pr k)):=aG (by omega) (by omega);have h9:inI .i64 ((k:Int)+1):=aG (by omega) (by omega)
   have hz:k+1<=os.length:=by omega
   generalize bw (pr k)=pp at *;clear b1 b2 b3 b4 b5 lo lw hl ha e0 eS eP h5 h2 h3 h1
   repeat' first|(with_reducible first|apply ai|apply aF|apply au|apply af|refine aQ (id:=5) 5 mixed (by decide +kernel) ?_|apply al|refine And.intro ?_ ?_|refine cw (c1) ?_|intro _)|(simp[*,h8,hb,h9,h6,Tw.cg])|(refine ae (c1) ?_ ?_;(· (simp[*];done)))
   all_goals first
    |omega
    |assumption
    |(refine nx (k+1) ?_ ?_;(· exact hz);(refine aO [] ?_ ?_<;>first|trivial|(simp[*,h4];done)))
  .have hg:k=os.length:=by omega
   subst hg
   repeat' first|(with_reducible first|apply ai|apply aL|apply af|apply al|intro _)|(simp[*,h8])
   all_goals first
    |omega
    |(refine aZ () ?_ ?_;(· trivial);(refine aD ?_ ?_<;>first|trivial|(simp[*];done)))
 .refine cP (cP (cO ?_));have cs:=xd ⟨ab,os,wt,zs,fit⟩ plan;unfold Rd.pv at cs;simp only[] at cs
  repeat' first|(with_reducible first|apply af|refine And.intro ?_ ?_|refine cw (cs) ?_|intro _)|(simp[*])|(refine ae (cs) ?_ ?_;(· (simp[*];done)))
  clear cs;refine l8 (ry (gf:=122) (aH:=[.w false false (.ip [.sl plan.length (ints plan)] 0),.w false false (.ip [.ip [.sl ab.length (aS ab),.sl os.length (aR os),.sl wt.length (a8 wt),.sl zs.length (aT zs),.sl fit.length (lJ fit)] 0] 0)]) ?_ Tz.func122 (by kernel_rfl) rfl (di (by kernel_rfl)) (λl=>?_))
  .rfl
  simp only[Tryz.results122,Tryz.ntmps122];simp
  repeat' first|(with_reducible first|apply ai|apply af|intro _)|(simp[*])
  all_goals try first|exact aG (by omega) (by omega)|omega
  have e0:CK 0=PK os.length:=kk.2.2.2.2.2.2.2.2.2.1;refine df 2 (λ(k:Nat)=>k<=plan.length) [0,2,6,7] (λ(k:Nat)=>[(8,.w false false (.int .i64 k))]) [0] (λ(k:Nat)=>[(1,[.w false false (.int .i64 (CK k))])]) (λ(k:Nat)=>plan.length-k) (λ(_u:Unit)=>True) [] (λ(_u:Unit)=>[]) [0] (λ(_u:Unit)=>[(1,[.w false false (.int .i64 (CK plan.length))])]) (0) (aK _) (aO [] (by simp[e0]) (by simp[e0])) (λk hk=>?_) (λ_u hf=>?_)
  .clear e0;by_cases h8:k<plan.length
   .obtain⟨b1,b2,b3,b4,b5,lo,lw,hl,ha,e0,eS,eP,h5⟩:=kk
    have hh:k<os.length:=by omega
    have a4:k<wt.length:=by omega
    have hy:(k:Int)<8:=by omega
    have h1:=b3 k hh;have h2:=b2 k hk;have hx:=b2 (k+1) (by omega);have h3:=nz (pr k) h1.1;have c1:=sw (pr k) h1.1;have h4:=eS k;have h6:(nth os k).2.2.2=((pr k:Nat):Int):=h1.2.symm;have hn:=ha k h8;have hr:=b5 k hh;have hw:=b4 k hh;have h9:inI .i64 ((k:Int)+1):=aG (by omega) (by omega)
    have hz:k+1<=plan.length:=by omega
    clear b1 b2 b3 b4 b5 lo lw hl ha e0 eS eP h5;generalize hq:nth plan k=q at *
    rcases hn with hn|hn
    .rw[aB hn] at h4;subst hn;clear h1 h2 hx h3 c1 hr hw h6 hy
     repeat' first|(with_reducible first|refine mf (id:=3) 16 ?_ ?_|apply ai|apply aF|apply au|apply af|apply al|intro _)|(simp[*,h8,hq,h9])
     all_goals first
      |omega
      |assumption
      |(refine nx (k+1) ?_ ?_;(· exact hz);(refine aO [] ?_ ?_<;>first|trivial|(simp[*,h4];done)))
    .have h':¬q=-1:=by omega
     obtain⟨m,rfl⟩:∃m:Nat,q=m:=⟨q.toNat,by omega⟩;rw[ar h'] at h4
     have hm:m<(nth wt k).length:=by omega
     have ag:=hw m (by omega);simp only[bT] at h4;generalize bw (pr k)=pp at *;generalize ao:nth (nth wt k) m=W at *
     have hb:inI .i64 (CK k+(W-pp)):=by rw[<-h4];exact aG (by omega) (by omega)
     have a9:inI .i64 (W-pp):=aG (by omega) (by omega);clear h1 h2 hx h3 hr hw hn ag hy
     repeat' first|(with_reducible first|refine mf (id:=3) 16 ?_ ?_|apply ai|apply aF|apply au|apply af|apply al|intro _)|(simp[*,h8,a4,hq,h9,h',hm])
     all_goals try first|omega|assumption
     refine rC rfl (by simp) ?_
     repeat' first|(with_reducible first|apply ai|apply iV|apply af|refine aQ (id:=10) 14 mixed (by decide +kernel) ?_|refine And.intro ?_ ?_|refine cw (c1) ?_|intro _)|(simp[*,hh,h6,hb,a9,ao])|(refine ae (c1) ?_ ?_;(· (simp[*];done)))
     all_goals try first|omega|assumption
     refine tY [(1,[.w false false (.int .i64 (CK (k+1)))]),(0,[.w false false (.ip [.sl ab.length (aS ab),.sl os.length (aR os),.sl wt.length (a8 wt),.sl zs.length (aT zs),.sl fit.length (lJ fit)] 0)])] 2 46 ?_ ?_
     .refine aO [] ?_ ?_<;>first|trivial|(simp[h4];done)
     repeat' first|(with_reducible first|apply au|apply af|apply al|intro _)|(simp[*,h8,a4,hq,h9,h',hm])
     all_goals first
      |omega
      |assumption
      |(refine nx (k+1) ?_ ?_;(· exact hz);(refine aO [] ?_ ?_<;>first|trivial|(simp[*];done)))
   .have hg:k=plan.length:=by omega
    subst hg
    repeat' first|(with_reducible first|apply ai|apply aL|apply af|apply al|intro _)|(simp[*,h8])
    all_goals first
     |omega
     |(refine aZ () ?_ ?_;(· trivial);(refine aD ?_ ?_<;>first|trivial|(simp[*];done)))
  .repeat' first|(with_reducible first|intro _)|(simp[*])
   simp[dC];refine cP (cO ?_)
   repeat' first|(with_reducible first|apply af|intro _)|(simp[*])
   refine cO ?_
   repeat' first|(with_reducible first|apply az|intro _)|(simp[*])
def iA(l:List Int):List AV:=(ints l).map (AV.w false false)
@[simp]theorem sZ(l:List Int):(iA l).length=l.length:=by simp[iA]
@[simp]theorem tP(l:List Int)(n:Nat):AV.lt.ltL n (iA l)=true:=qv n false false (ints l)
@[simp]theorem tl{D:List Nat}{h:ak}{n n':Nat}(l:List Int):gZ D h n n' (iA l) (iA l)=True:=eq_true (oM false false _)
@[simp high] theorem tu(h:ak)(d:Nat)(l:List Int):(iA l).mapM (frz h d)=some (ints l):=wY h d false false (ints l)
@[simp]theorem hH:∀l:List Int,fA (ints l)=true
 |[]=>rfl
 |x::r=>by have:=hH r;simpa[ints,fA,flat] using this
@[simp high] theorem tv(h:ak)(d:Nat)(l:List Int):(iA l).all (dQ h d)=true:=tU h d false false (ints l) (hH l)
@[simp]theorem ic(a b:List Int):iA a++iA b=iA (a++b):=by simp[iA,ints]
def nU(x:Rd)(i j:Nat):Int:=
 if j<x.ab.length/\nth (nth x.fit i) j=true then nth (nth x.wt i) j else if j=x.ab.length+i then bw (prio x i) else 1000000000000000
def nV(x:Rd)(i:Nat):List Int:=(List.range (x.ab.length+x.os.length)).map (nU x i)
def n5(x:Rd)(n:Nat):List (List Int):=(List.range n).map (nV x)
def cm(ab:List Car)(os:List Ord)(zs:List Par)(i k:Nat):Bool:=
 (decide ((nth os i).2.1<=(nth ab k).2.1)&&((nth ab k).2.2 || !(nth os i).2.2.1)) && !hasB zs ((i:Int),(k:Int))
theorem oc(r:Tw.RND)(i k:Nat)(hi:i<r.os.length)(hk:k<r.ab.length):nth (nth (aj r).fit i) k=cm r.ab r.os r.zs i k:=by
 have e1:nth (aj r).fit i=Tw.lE r i:=by
  unfold aj;simp[nth,bS,hi]
 have e2:nth (Tw.lE r i) k=Tw.BV (Tw.odW (Tw.odR r) i 0 0 0) k:=by
  show nth ((List.range r.ab.length).map _) k=_;simp[nth,bS,hk]
 rw[e1,e2]
 have e3:Tw.qD r.zs (i:Int) (k:Int)=hasB r.zs ((i:Int),(k:Int)):=by
  unfold Tw.qD hasB;congr 1
  funext z
  obtain⟨a,b⟩:=z;rw[iS];simp only[beq_iff_eq,bX,bU,decide_eq_true_eq];exact⟨λh=>⟨h.1.symm,h.2.symm⟩,λh=>⟨h.1.symm,h.2.symm⟩⟩
 show ((decide (((r.ab.getD k (default,0,false)).2.1)>=(r.os.getD i (default,0,false,0)).2.1)&&((r.ab.getD k (default,0,false)).2.2 || !(r.os.getD i (default,0,false,0)).2.2.1))&&(!Tw.qD r.zs i k))=_;rw[e3]
 have h1:r.ab.getD k (default,0,false)=nth r.ab k:=by simp[nth,bS,hk]
 have h2:r.os.getD i (default,0,false,0)=nth r.os i:=by simp[nth,bS,hi]
 rw[h1,h2];rfl
theorem kW(ab:List Car)(os:List Ord)(wt:List (List Int))(zs:List Par)(i k:Nat)(hi:i<os.length)(hk:k<ab.length)(hz:zs.length<100000):aC Tz.prog 60 [.agg [.sl ab.length (aS ab),.sl os.length (aR os),.sl wt.length (a8 wt),.sl zs.length (aT zs)],.int .i64 i,.int .i64 k] (.bool (cm ab os zs i k)) true:=by
 have c1:=eQ zs hz ((i:Int),(k:Int));unfold Tw.cu at c1;unfold cm;generalize hasB zs ((i:Int),(k:Int))=g at *;by_cases h1:(nth os i).2.1<=(nth ab k).2.1
 .rw[decide_eq_true h1]
  cases h2:(nth ab k).2.2 with
  |true=>
   simp only[fV,eo];refine rcK Tz.func60 ?_;simp only[Tryz.results60,Tryz.ntmps60]
   repeat' first|(with_reducible first|apply ai|apply az|apply af|refine iX (id:=1) [0,1,2,3,4,5,6,7,8,9,10,11] [12,13] [[],[],[],[],[],[.new 0],[.new 0],[.new 0],[.new 0],[.new 0],[],[]] [[.new 0],[.new 1]] mixed (by decide +kernel) ?_|refine And.intro ?_ ?_|refine cw (c1) ?_|intro _)|(simp[*,hi,hk,h1,h2,Tw.dt,Tw.cg,Tw.cu])|(refine ae (c1) ?_ ?_;(· (simp[*];done)))
   all_goals first|omega
  |false=>
   cases h3:(nth os i).2.2.1 with
   |true=>
    simp only[fJ,ij,ig,gG];refine rcK Tz.func60 ?_;simp only[Tryz.results60,Tryz.ntmps60]
    repeat' first|(with_reducible first|apply ai|apply az|apply af|refine iX (id:=1) [0,1,2,3,4,5,6,7,8,9,10,11] [12,13] [[],[],[],[],[],[.new 0],[.new 0],[.new 0],[.new 0],[.new 0],[],[]] [[.new 0],[.new 1]] mixed (by decide +kernel) ?_|refine And.intro ?_ ?_|intro _)|(simp[*,hi,hk,h1,h2,h3,Tw.dt,Tw.cg,Tw.cu])|(refine ae (c1) ?_ ?_;(· (simp[*];done)))
    all_goals first|omega
   |false=>
    simp only[gm,iI,eo];refine rcK Tz.func60 ?_;simp only[Tryz.results60,Tryz.ntmps60]
    repeat' first|(with_reducible first|apply ai|apply az|apply af|refine iX (id:=1) [0,1,2,3,4,5,6,7,8,9,10,11] [12,13] [[],[],[],[],[],[.new 0],[.new 0],[.new 0],[.new 0],[.new 0],[],[]] [[.new 0],[.new 1]] mixed (by decide +kernel) ?_|refine And.intro ?_ ?_|refine cw (c1) ?_|intro _)|(simp[*,hi,hk,h1,h2,h3,Tw.dt,Tw.cg,Tw.cu])|(refine ae (c1) ?_ ?_;(· (simp[*];done)))
    all_goals first|omega
 .rw[decide_eq_false h1];simp only[gG];refine rcK Tz.func60 ?_;simp only[Tryz.results60,Tryz.ntmps60]
  repeat' first|(with_reducible first|apply ai|apply az|apply af|refine iX (id:=1) [0,1,2,3,4,5,6,7,8,9,10,11] [12,13] [[],[],[],[],[],[.new 0],[.new 0],[.new 0],[.new 0],[.new 0],[],[]] [[.new 0],[.new 1]] mixed (by decide +kernel) ?_|refine And.intro ?_ ?_|intro _)|(simp[*,hi,hk,h1,Tw.dt,Tw.cg,Tw.cu])|(refine ae (c1) ?_ ?_;(· (simp[*];done)))
  all_goals first|omega
theorem k6(ab:List Car)(os:List Ord)(wt:List (List Int))(zs:List Par)(a7:ab.length<=1000)(a':os.length<=1000)(aa:wt.length<100000)(aq:zs.length<100000)(hc:∀x∈ab,x.1.size<1000000)(ho:∀x∈os,x.1.size<1000000)(hw:∀x∈wt,x.length<100000):aC Tz.prog 20 [.agg [.sl ab.length (aS ab),.sl os.length (aR os),.sl wt.length (a8 wt),.sl zs.length (aT zs)]] (.int .i64 (g9 ab os wt zs).2) true:=by
 have c:=kP ab os wt zs a7 a' aa aq hc ho hw;generalize g9 ab os wt zs=R at *;clear hc ho hw;refine rcK Tz.func20 ?_;simp only[Tryz.results20,Tryz.ntmps20]
 repeat' first|(with_reducible first|apply ai|apply az|apply af|refine And.intro ?_ ?_|refine cw (c) ?_|intro _)|(simp[*])|(refine ae (c) ?_ ?_;(· (simp[*];done)))
end Go.Proofs.YthpkmilhiganjaaGreat
namespace Go.Proofs.YthpkmilhiganjaaGreat
open Go Go.Fi
noncomputable instance vb:av:=LD
abbrev FS:=List Int×List Bool
def eb(sn:List Bool):Nat:=sn.countP λb=>!b
structure pI(x:Rd)(s:FS):Prop where
 l1:s.1.length=x.ab.length
 l2:s.2.length=x.ab.length
 rg:∀k,k<x.ab.length->nth s.1 k=-1\/(0<=nth s.1 k/\nth s.1 k<(x.os.length:Int))
structure wu(x:Rd)(s t:FS):Prop where
 ok:pI x t
 un:eb t.2<=eb s.2
def eM(tk:List Int)(n:Nat):Nat->List Int
 |0=>List.replicate n (-1)
 |k+1=>if 0<=nth tk k then (eM tk n k).set (nth tk k).toNat k else eM tk n k
structure ScS where
 sl:List Int
 ah:List Int
 least:Int
 next:Int
def nvS(C:Nat->Nat->Int)(u v:List Int)(i j:Nat):Int:=C i j-nth u i-nth v j
def ej(C:Nat->Nat->Int)(u v:List Int)(sn:List Bool)(i:Nat)(at_:Int)(sl ah:List Int):Nat->ScS
 |0=>⟨sl,ah,10000000000000000,-1⟩
 |k+1=>
  let s:=ej C u v sn i at_ sl ah k
  if nth sn k then s
  else
   let s1:ScS:=if nvS C u v i k<nth s.sl k then ⟨s.sl.set k (nvS C u v i k),s.ah.set k at_,s.least,s.next⟩ else s
   if nth s1.sl k<s1.least then ⟨s1.sl,s1.ah,nth s1.sl k,k⟩ else s1
def bO(sn:List Bool)(ow:List Int)(d:Int)(u v sl:List Int):Nat->List Int×List Int×List Int
 |0=>(u,v,sl)
 |k+1=>
  let s:=bO sn ow d u v sl k
  if nth sn k then (s.1.set (nth ow k).toNat (nth s.1 (nth ow k).toNat+d),s.2.1.set k (nth s.2.1 k-d),s.2.2)
  else (s.1,s.2.1,s.2.2.set k (nth s.2.2 k-d))
structure Ws where
 u:List Int
 v:List Int
 sl:List Int
 ah:List Int
 sn:List Bool
 at_:Int
 i:Nat
def bl(C:Nat->Nat->Int)(m:Nat)(w:Ws):ScS:=ej C w.u w.v w.sn w.i w.at_ w.sl w.ah m
def eN(C:Nat->Nat->Int)(m:Nat)(ow:List Int)(row:Nat)(w:Ws):List Int×List Int×List Int:=
 bO w.sn ow (bl C m w).least (w.u.set row (nth w.u row+(bl C m w).least)) w.v (bl C m w).sl m
def kC(C:Nat->Nat->Int)(m:Nat)(ow:List Int)(row:Nat)(w:Ws):Ws:=
 ⟨(eN C m ow row w).1,(eN C m ow row w).2.1,(eN C m ow row w).2.2,(bl C m w).ah,w.sn.set (bl C m w).next.toNat true,(bl C m w).next,(nth ow (bl C m w).next.toNat).toNat⟩
def kF(C:Nat->Nat->Int)(m:Nat)(ow:List Int)(row:Nat):Nat->Ws->Ws
 |0,w=>w
 |f+1,w=>if nth ow (bl C m w).next.toNat<0 then kC C m ow row w else kF C m ow row f (kC C m ow row w)
def kG(ah:List Int)(row:Nat):Nat->Int->List Int->List Int
 |0,_,ow=>ow
 |f+1,at_,ow=>if at_<0 then ow else kG ah row f (nth ah at_.toNat) (ow.set at_.toNat (if nth ah at_.toNat<0 then (row:Int) else nth ow (nth ah at_.toNat).toNat))
structure Hs where
 u:List Int
 v:List Int
 ow:List Int
def ws0(m:Nat)(s:Hs)(row:Nat):Ws:=⟨s.u,s.v,List.replicate m 10000000000000000,List.replicate m (-1),List.replicate m false,-1,row⟩
def ez(C:Nat->Nat->Int)(m:Nat)(s:Hs)(row:Nat):Ws:=kF C m s.ow row (m+1) (ws0 m s row)
def rE(C:Nat->Nat->Int)(m:Nat)(s:Hs)(row:Nat):Hs:=
 ⟨(ez C m s row).u,(ez C m s row).v,kG (ez C m s row).ah row (m+1) (ez C m s row).at_ s.ow⟩
def kH(C:Nat->Nat->Int)(n m:Nat):Nat->Hs
 |0=>⟨List.replicate n 0,List.replicate m 0,List.replicate m (-1)⟩
 |r+1=>rE C m (kH C n m r) r
structure eU(C:Nat->Nat->Int)(u v:List Int)(sn:List Bool)(i:Nat)(at_:Int)(sl ah:List Int)(k:Nat)(s:ScS):Prop where
 l1:s.sl.length=sl.length
 l2:s.ah.length=ah.length
 esl:∀j,nth s.sl j=if j<k/\nth sn j=false/\nvS C u v i j<nth sl j then nvS C u v i j else nth sl j
 eah:∀j,nth s.ah j=if j<k/\nth sn j=false/\nvS C u v i j<nth sl j then at_ else nth ah j
 lo:∀j,j<k->nth sn j=false->s.least<=nth s.sl j
 nx:(s.next=-1/\s.least=10000000000000000)\/(0<=s.next/\s.next<(k:Int)/\nth sn s.next.toNat=false/\s.least=nth s.sl s.next.toNat)
structure wv(sn:List Bool)(ow:List Int)(d:Int)(u v sl:List Int)(k:Nat)(t:List Int×List Int×List Int):Prop where
 l1:t.1.length=u.length
 l2:t.2.1.length=v.length
 l3:t.2.2.length=sl.length
 ut:∀l:Nat,(∃j,j<k/\nth sn j=true/\nth ow j=(l:Int))->nth t.1 l=nth u l+d
 uf:∀l:Nat,(¬∃j,j<k/\nth sn j=true/\nth ow j=(l:Int))->nth t.1 l=nth u l
 ev:∀j,nth t.2.1 j=if j<k/\nth sn j=true then nth v j-d else nth v j
 esl:∀j,nth t.2.2 j=if j<k/\nth sn j=false then nth sl j-d else nth sl j
structure Hp(C:Nat->Nat->Int)(n c:Nat):Prop where
 nn:n<=8
 cc:c<=8
 pr:∀i,i<n->0<=C i (c+i)/\C i (c+i)<=1000000000000
 ot:∀i l,i<n->l<n->l≠i->C i (c+l)=1000000000000000
 cr:∀i j,i<n->j<c->C i j=1000000000000000\/(0<=C i j/\C i j<=1000000000000)
theorem Hp.bd{C:Nat->Nat->Int}{n c:Nat}(h:Hp C n c){i j:Nat}(hi:i<n)(hj:j<c+n):0<=C i j/\C i j<=1000000000000000:=by
 by_cases hc:j<c
 .rcases h.cr i j hi hc with h|h<;>omega
 .obtain⟨l,rfl⟩:∃l,j=c+l:=⟨j-c,by omega⟩;by_cases hl:l=i
  .subst hl;have:=h.pr l hi;omega
  .rw[h.ot i l hi (by omega) hl];omega
structure MI(C:Nat->Nat->Int)(n c r:Nat)(u v ow:List Int):Prop where
 lu:u.length=n
 lv:v.length=c+n
 lo:ow.length=c+n
 hu:∀l,l<n->0<=nth u l
 hv:∀j,j<c+n->nth v j<=0
 hvz:∀j,j<c+n->nth ow j=-1->nth v j=0
 hvp:∀l,l<n->nth v (c+l)=0
 hf:∀l j,l<n->j<c+n->nth u l+nth v j<=C l j
 how:∀j,j<c+n->nth ow j=-1\/(0<=nth ow j/\nth ow j<(r:Int))
 dL:∀j k,j<c+n->k<c+n->0<=nth ow j->nth ow j=nth ow k->j=k
 ht:∀j,j<c+n->0<=nth ow j->nth u (nth ow j).toNat+nth v j=C (nth ow j).toNat j
 rL:∀l,l<r->∃j,j<c+n/\nth ow j=(l:Int)
section
variable{C:Nat->Nat->Int}{n c row:Nat}{u v ow:List Int}
end
def Tv(m row:Nat)(ow:List Int)(w:Ws)(l:Nat):Prop:=l=row\/∃j,j<m/\nth w.sn j=true/\nth ow j=(l:Int)
def Via(m row:Nat)(ow:List Int)(w:Ws)(j:Nat)(p:Nat->Prop):Prop:=
 (nth w.ah j=-1/\p row)\/(0<=nth w.ah j/\nth w.ah j<(m:Int)/\nth w.sn (nth w.ah j).toNat=true/\p (nth ow (nth w.ah j).toNat).toNat)
structure GI(C:Nat->Nat->Int)(n c row:Nat)(ow:List Int)(w:Ws):Prop where
 mi:MI C n c row w.u w.v ow
 ls:w.sl.length=c+n
 la:w.ah.length=c+n
 ln:w.sn.length=c+n
 hs:∀j,j<c+n->nth w.sn j=true->0<=nth ow j/\j<c
 hat:(w.at_=-1/\w.i=row/\∀j,j<c+n->nth w.sn j=false)\/(0<=w.at_/\w.at_<((c+n:Nat):Int)/\nth w.sn w.at_.toNat=true/\nth ow w.at_.toNat=(w.i:Int))
 h1:∀j,j<c+n->nth w.sn j=false->∀l,Tv (c+n) row ow w l->l≠w.i->nth w.sl j<=C l j-nth w.u l-nth w.v j
 h2:∀j,j<c+n->nth w.sn j=false->(nth w.sl j=10000000000000000/\w.at_=-1)\/Via (c+n) row ow w j λl=>nth w.sl j=C l j-nth w.u l-nth w.v j
 pth:∀j,j<c+n->nth w.sn j=true->Via (c+n) row ow w j λl=>nth w.u l+nth w.v j=C l j
 rk:∃rk:Nat->Nat,(∀j,j<c+n->nth w.sn j=true->rk j+eb w.sn<c+n)/\∀j,j<c+n->nth w.sn j=true->0<=nth w.ah j->rk (nth w.ah j).toNat<rk j
structure z7(C:Nat->Nat->Int)(n c row:Nat)(ow:List Int)(w:Ws)(s:ScS):Prop where
 ok:eU C w.u w.v w.sn w.i w.at_ w.sl w.ah (c+n) s
 nx0:0<=s.next
 nx1:s.next<((c+n:Nat):Int)
 nx2:nth w.sn s.next.toNat=false
 d0:0<=s.least
 d1:s.least<=1000000000000
 dn:s.least=nth s.sl s.next.toNat
 lo:∀j,j<c+n->nth w.sn j=false->∀l,Tv (c+n) row ow w l->nth s.sl j<=C l j-nth w.u l-nth w.v j
 via:∀j,j<c+n->nth w.sn j=false->(nth s.ah j=-1/\nth s.sl j=C row j-nth w.u row-nth w.v j)\/(0<=nth s.ah j/\nth s.ah j<((c+n:Nat):Int)/\nth w.sn (nth s.ah j).toNat=true/\nth s.sl j=C (nth ow (nth s.ah j).toNat).toNat j-nth w.u (nth ow (nth s.ah j).toNat).toNat-nth w.v j)
 old:∀j,nth w.sn j=true->nth s.ah j=nth w.ah j
 car:s.next.toNat<c\/nth ow s.next.toNat=-1
structure Ak(C:Nat->Nat->Int)(n c row:Nat)(ow:List Int)(w:Ws):Prop where
 mi:MI C n c row w.u w.v ow
 la:w.ah.length=c+n
 a0:0<=w.at_
 a1:w.at_<((c+n:Nat):Int)
 a2:nth ow w.at_.toNat=-1
 a3:nth w.sn w.at_.toNat=true
 hs:∀j,j<c+n->nth w.sn j=true->(j:Int)≠w.at_->0<=nth ow j
 pth:∀j,j<c+n->nth w.sn j=true->Via (c+n) row ow w j λl=>nth w.u l+nth w.v j=C l j
 rk:∃rk:Nat->Nat,(∀j,j<c+n->nth w.sn j=true->rk j<c+n)/\(∀j,j<c+n->nth w.sn j=true->0<=nth w.ah j->rk (nth w.ah j).toNat<rk j)/\∀j,j<c+n->nth w.sn j=true->rk j<=rk w.at_.toNat
section
variable{C:Nat->Nat->Int}{n c row:Nat}{ow:List Int}{w:Ws}
structure Ao(C:Nat->Nat->Int)(n c row:Nat)(ow:List Int)(w:Ws)(s:ScS)(t:List Int×List Int×List Int):Prop where
 l1:t.1.length=n
 l2:t.2.1.length=c+n
 l3:t.2.2.length=c+n
 uT:∀l,Tv (c+n) row ow w l->nth t.1 l=nth w.u l+s.least
 uF:∀l,¬Tv (c+n) row ow w l->nth t.1 l=nth w.u l
 vT:∀j,j<c+n->nth w.sn j=true->nth t.2.1 j=nth w.v j-s.least
 vF:∀j,nth w.sn j=false->nth t.2.1 j=nth w.v j
 sF:∀j,j<c+n->nth w.sn j=false->nth t.2.2 j=nth s.sl j-s.least
structure Rnd(C:Nat->Nat->Int)(n c row:Nat)(ow:List Int)(w w':Ws):Prop where
 a0:0<=w'.at_
 a1:w'.at_<((c+n:Nat):Int)
 new:nth w.sn w'.at_.toNat=false
 sn:w'.sn=w.sn.set w'.at_.toNat true
 la:w'.ah.length=c+n
 pth:∀j,j<c+n->nth w'.sn j=true->Via (c+n) row ow w' j λl=>nth w'.u l+nth w'.v j=C l j
 rk:∃rk:Nat->Nat,(∀j,j<c+n->nth w'.sn j=true->rk j+eb w'.sn<c+n)/\(∀j,j<c+n->nth w'.sn j=true->0<=nth w'.ah j->rk (nth w'.ah j).toNat<rk j)/\∀j,j<c+n->nth w'.sn j=true->rk j<=rk w'.at_.toNat
end
structure AI(C:Nat->Nat->Int)(n c row:Nat)(u v ow:List Int)(sn:List Bool)(rk:Nat->Nat)(at_:Nat)(ow1:List Int):Prop where
 lo:ow1.length=c+n
 how:∀j,j<c+n->j≠at_->nth ow1 j=-1\/(0<=nth ow1 j/\nth ow1 j<(row:Int))
 dL:∀j k,j<c+n->k<c+n->j≠at_->k≠at_->0<=nth ow1 j->nth ow1 j=nth ow1 k->j=k
 ht:∀j,j<c+n->j≠at_->0<=nth ow1 j->nth u (nth ow1 j).toNat+nth v j=C (nth ow1 j).toNat j
 rL:∀l,l<row->∃j,j<c+n/\j≠at_/\nth ow1 j=(l:Int)
 hz:∀j,j<c+n->j≠at_->nth ow1 j=-1->nth ow j=-1
 same:∀j,j<c+n->nth sn j=true->rk j<rk at_->nth ow1 j=nth ow j
structure Av(C:Nat->Nat->Int)(n m row:Nat)(ow:List Int)(w:Ws):Prop where
 hin:w.i<n
 lu:w.u.length=n
 lv:w.v.length=m
 ls:w.sl.length=m
 la:w.ah.length=m
 ln:w.sn.length=m
 nv:∀k,k<m->inI .i64 (C w.i k-nth w.u w.i)/\inI .i64 (C w.i k-nth w.u w.i-nth w.v k)
 sk:∀k,k<=m->(ej C w.u w.v w.sn w.i w.at_ w.sl w.ah k).sl.length=m/\(ej C w.u w.v w.sn w.i w.at_ w.sl w.ah k).ah.length=m
 ur:inI .i64 (nth w.u row+(bl C m w).least)
 tk:∀k,k<=m->(bO w.sn ow (bl C m w).least (w.u.set row (nth w.u row+(bl C m w).least)) w.v (bl C m w).sl k).1.length=n/\(bO w.sn ow (bl C m w).least (w.u.set row (nth w.u row+(bl C m w).least)) w.v (bl C m w).sl k).2.1.length=m /\
  (bO w.sn ow (bl C m w).least (w.u.set row (nth w.u row+(bl C m w).least)) w.v (bl C m w).sl k).2.2.length=m
 ts:∀k,k<m->nth w.sn k=true->∃l:Nat,nth ow k=l/\l<n/\inI .i64 (nth (bO w.sn ow (bl C m w).least (w.u.set row (nth w.u row+(bl C m w).least)) w.v (bl C m w).sl k).1 l+(bl C m w).least) /\
  inI .i64 (nth (bO w.sn ow (bl C m w).least (w.u.set row (nth w.u row+(bl C m w).least)) w.v (bl C m w).sl k).2.1 k-(bl C m w).least)
 tf:∀k,k<m->nth w.sn k=false->inI .i64 (nth (bO w.sn ow (bl C m w).least (w.u.set row (nth w.u row+(bl C m w).least)) w.v (bl C m w).sl k).2.2 k-(bl C m w).least)
 nx:∃a:Nat,(bl C m w).next=a/\a<m
end Go.Proofs.YthpkmilhiganjaaGreat
namespace Go.Proofs.YthpkmilhiganjaaGreat
open Go Go.Fi
variable[av]
end Go.Proofs.YthpkmilhiganjaaGreat
namespace Go.Proofs.YthpkmilhiganjaaGreat
open Go Go.Fi
theorem cM(x:Rd)(plan:List Int)(h:(dh x plan).2=0):cn x plan:=by
 unfold dh at h;split at h
 .exact absurd h (show (10:Int)≠0 by decide)
 .rename_i hl
  have hz:=λj hj=>cL h j hj
  refine⟨by have:=oz.1 hl;omega,λk hk=>?_⟩;have h1:=hz k hk;simp only[cY] at h1;unfold ji at h1;by_cases hn:nth plan k=-1
  .exact .inl hn
  .rw[ar hn] at h1;split at h1
   .rename_i h2;exact absurd h1 h2
   .rename_i h2;have:=bM.1 (bK (by decide) (oz.1 h2));exact .inr ⟨this.1,by omega⟩
noncomputable def cC(r:Tw.RND)(plan:List Int):Int×Int:=
 if ceR r≠0 then (0,ceR r) else if (dh (aj r) plan).2≠0 then (0,(dh (aj r) plan).2) else (b9 (aj r) plan,0)
noncomputable instance instLD23:av:=LD
theorem k7(r:Tw.RND)(plan:List Int)(hp:plan.length<100000):aC Tz.prog 23 [Tw.aM r,.sl plan.length (ints plan)] (.tup [.int .i64 (cC r plan).1,.int .i64 (cC r plan).2]) false:=by
 unfold cC;by_cases h:ceR r=0
 .rw[ar (by simpa using h)];have c1:=cH r plan hp h;have ok:=dS r h;by_cases h2:(dh (aj r) plan).2=0
  .rw[ar (by simpa using h2)];rw[h2] at c1;have c2:=kV (aj r) ok plan (cM _ _ h2);generalize b9 (aj r) plan=C at *;unfold Rd.pv at *;generalize aj r=x at *;unfold Tw.aM at *;generalize r.cz=p1 at *;generalize r.osP=p2 at *;generalize r.cT=p3 at *;generalize r.zsP=p4 at *;clear ok h h2;refine rcK Tz.func23 ?_;simp only[Tryz.results23,Tryz.ntmps23]
   repeat' first|(with_reducible first|apply ai|apply au|apply az|apply af|apply al|refine And.intro ?_ ?_|refine cw (c1) ?_|refine cw (c2) ?_|intro _)|(simp[*])|(refine ae (c1) ?_ ?_;(· (simp[*];done)))|(refine ae (c2) ?_ ?_;(· (simp[*];done)))
  .rw[aB h2];generalize (dh (aj r) plan).2=e at *;unfold Rd.pv at *;generalize aj r=x at *;unfold Tw.aM at *;generalize r.cz=p1 at *;generalize r.osP=p2 at *;generalize r.cT=p3 at *;generalize r.zsP=p4 at *;clear ok h;refine rcK Tz.func23 ?_;simp only[Tryz.results23,Tryz.ntmps23]
   repeat' first|(with_reducible first|apply ai|apply az|apply af|apply al|refine And.intro ?_ ?_|refine cw (c1) ?_|intro _)|(simp[*])|(refine ae (c1) ?_ ?_;(· (simp[*];done)))
 .rw[aB h];have c1:=fh r plan h;generalize ceR r=e at *;unfold Tw.aM at *;generalize r.cz=p1 at *;generalize r.osP=p2 at *;generalize r.cT=p3 at *;generalize r.zsP=p4 at *;refine rcK Tz.func23 ?_;simp only[Tryz.results23,Tryz.ntmps23]
  repeat' first|(with_reducible first|apply ai|apply az|apply af|apply al|refine And.intro ?_ ?_|refine cw (c1) ?_|intro _)|(simp[*])|(refine ae (c1) ?_ ?_;(· (simp[*];done)))
noncomputable instance instLD37:av:=LD
def sf(x:Rd)(i j:Nat):Int:=nth (nth (n5 x x.os.length) i) j
noncomputable def sC(x:Rd):Hs:=kH (sf x) x.os.length (x.ab.length+x.os.length) x.os.length
noncomputable def bW(x:Rd):List Int:=eM (sC x).ow x.os.length x.ab.length
structure BO(x:Rd)(plan:List Int):Prop extends cn x plan where
 fit:∀k,k<plan.length->nth plan k≠-1->nth (nth x.fit k) (nth plan k).toNat=true
 once:∀k,k<plan.length->nth plan k≠-1->∀j,j<k->nth plan j≠nth plan k
structure CN(x:Rd)(u v:List Int):Prop where
 u0:∀i,i<x.os.length->0<=nth u i/\nth u i<=1000000000000
 v0:∀k,k<x.ab.length->0<=nth v k/\nth v k<=1000000000000
 pe:∀i,i<x.os.length->nth u i<=bw (prio x i)
 wt:∀i k,i<x.os.length->k<x.ab.length->nth (nth x.fit i) k=true->nth u i<=nth (nth x.wt i) k+nth v k
 no:∀i,i<x.os.length->nth (bW x) i=-1->nth u i=bw (prio x i)
 at_:∀i,i<x.os.length->nth (bW x) i≠-1->∃k,k<x.ab.length/\nth (bW x) i=(k:Int)/\nth (nth x.fit i) k=true/\nth u i=nth (nth x.wt i) k+nth v k
 one:∀i j,i<x.os.length->j<x.os.length->nth (bW x) i≠-1->nth (bW x) i=nth (bW x) j->i=j
 fr:∀k,k<x.ab.length->(∀i,i<x.os.length->nth (bW x) i≠(k:Int))->nth v k=0
noncomputable instance C1:av:=LD
def sO(F:Nat->List Int):Nat->List (List Int)
 |0=>[[]]
 |i+1=>(sO F i).flatMap λp=>(p++[-1])::((F i).filter λf=>!(p.any λy=>decide (f=y))).map λf=>p++[f]
def rcQ(os:List Ord)(wt:List (List Int))(plan:List Int):Nat->Int
 |0=>0
 |k+1=>rcQ os wt plan k+if nth plan k=-1 then bw (nth os k).2.2.2.toNat else nth (nth wt k) (nth plan k).toNat
def rcS(os:List Ord)(wt:List (List Int))(plan:List Int):Int:=rcQ os wt plan plan.length
theorem kg(x:Rd)(plan:List Int):∀k,bo x plan k=bF x x.os.length-bF x k+rcQ x.os x.wt plan k
 |0=>by unfold bo rcQ;simp
 |k+1=>by
  have ih:=kg x plan k
  rw[show bo x plan (k+1)=if nth plan k=-1 then bo x plan k else bo x plan k+(bZ x k (nth plan k)-bw (prio x k)) from rfl,
   show rcQ x.os x.wt plan (k+1)=rcQ x.os x.wt plan k+if nth plan k=-1 then bw (nth x.os k).2.2.2.toNat else nth (nth x.wt k) (nth plan k).toNat from rfl,
   show bF x (k+1)=bF x k+bw (prio x k) from rfl,ih]
  unfold bZ prio
  split<;>omega
theorem lp(x:Rd)(plan:List Int)(hl:plan.length=x.os.length):b9 x plan=rcS x.os x.wt plan:=by
 unfold b9 rcS;rw[kg,hl];omega
end Go.Proofs.YthpkmilhiganjaaGreat
