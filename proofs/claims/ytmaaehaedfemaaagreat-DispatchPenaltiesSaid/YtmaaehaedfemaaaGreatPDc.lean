/- Lemmas. -/
import Derived.Test.YtmaaehaedfemaaaGreatPDb
import Derived.Test.YtmaaehaedfemaaaGreatPLg
set_option linter.unusedSimpArgs false
set_option linter.unusedVariables false
set_option linter.unusedSectionVars false
set_option maxHeartbeats 32000000
set_option maxRecDepth 100000
namespace Go.Proofs.YtmaaehaedfemaaaGreat
open Go Go.Fi
variable[ak]
def prio(x:Rd)(i:Nat):Nat:=(nth x.os i).2.2.2.toNat
def jC(x:Rd):Nat→Int
 |0=>0
 |k+1=>jC x k+bE (prio x k)
@[simp] theorem VS(x:Rd):jC x 0=0:=rfl
def uu(x:Rd)(i:Nat)(k:Int):Int:=nth (nth x.wt i) k.toNat
def gA(x:Rd)(plan:List Int):Nat→Int
 |0=>jC x x.os.length
 |k+1=>if nth plan k=-1 then gA x plan k else gA x plan k+(uu x k (nth plan k)-bE (prio x k))
def nH(x:Rd)(plan:List Int):Int:=gA x plan plan.length
structure o7(x:Rd)(plan:List Int):Prop where
 len:plan.length=x.os.length
 at_:∀k,k<plan.length→nth plan k=-1∨(0≤nth plan k∧nth plan k<(x.ae.length:Int))
theorem qd(x:Rd)(ok:eJ x)(i:Nat)(h:i<x.os.length):prio x i≤6∧((prio x i:Nat):Int)=(nth x.os i).2.2.2:=by
 have:=ok.pr i h;unfold prio;omega
theorem xQ(x:Rd)(ok:eJ x):∀k,k≤x.os.length→0≤jC x k∧jC x k≤1000000000000*(k:Int)
 |0,_=>⟨Int.le_refl _,by simp⟩
 |k+1,h=>by
  have:=xQ x ok k (by omega);have:=lD (prio x k) (qd x ok k (by omega)).1;unfold jC;omega
theorem Dt(x:Rd)(ok:eJ x)(plan:List Int)(hp:o7 x plan):∀k,k≤plan.length→-(1000000000000*(k:Int))≤gA x plan k∧gA x plan k≤8000000000000+100000*(k:Int)
 |0,_=>by
  have:=xQ x ok x.os.length (Nat.le_refl _);have:=ok.lo;unfold gA;omega
 |k+1,h=>by
  have hk:k<x.os.length:=by have:=hp.len;omega
  have h1:=Dt x ok plan hp k (by omega);have h2:=lD (prio x k) (qd x ok k hk).1;unfold gA;split
  ·omega
  ·rename_i hne;have h3:=(hp.at_ k (by omega)).resolve_left hne;have h4:=ok.wn k hk (nth plan k).toNat (by omega);unfold uu;omega
theorem Du(x:Rd)(ok:eJ x)(plan:List Int)(hp:o7 x plan):aF Tz.prog 19 [x.pv,.sl plan.length (ints plan)] (.int .i64 (nH x plan)) true:=by
 have b1:=xQ x ok;have b2:=Dt x ok plan hp
 have b3:=fun i hi=>qd x ok i hi
 have b4:=ok.wn;have b5:=ok.wr;have lo:=ok.lo;have lw:=ok.lw;have hl:=hp.len;have ha:=hp.at_;have eC:nH x plan=gA x plan plan.length:=rfl;have e0:gA x plan 0=jC x x.os.length:=rfl
 have eS:∀k,gA x plan (k+1)=if nth plan k=-1 then gA x plan k else gA x plan k+(uu x k (nth plan k)-bE (prio x k)):=fun _=>rfl
 have eP:∀k,jC x (k+1)=jC x k+bE (prio x k):=fun _=>rfl
 unfold uu at eS;rw[eC];generalize hCK:gA x plan=CK at *;generalize hPK:jC x=PK at *;generalize hpr:prio x=pr at *
 have hp0:PK 0=0:=by rw[←hPK];rfl
 clear hCK hPK eC hp
 have hpr':∀i,pr i=(nth x.os i).2.2.2.toNat:=fun i=>by rw[←hpr];rfl
 clear hpr ok;obtain⟨ae,os,wt,zs,fit⟩:=x;unfold Rd.pv;simp only[] at b1 b2 b3 b4 b5 lo lw hl ha e0 eS eP hpr' ⊢;have kk:=keep (And.intro b1 (And.intro b2 (And.intro b3 (And.intro b4 (And.intro b5 (And.intro lo (And.intro lw (And.intro hl (And.intro ha (And.intro e0 (And.intro eS (And.intro eP hpr'))))))))))));clear b1 b2 b3 b4 b5 lo lw hl ha e0 eS eP hpr';refine xK Tz.func19 (by kernel_rfl) rfl (Nat.le_of_ble_eq_true (by kernel_rfl)) ?_;simp only[Tryz.results19,Tryz.ntmps19];refine bB (bw ?_)
 repeat' (first|(with_reducible first|refine af ?_|intro _)|(simp[*]))
 refine bB (bw ?_)
 repeat' (first|(with_reducible first|refine af ?_|intro _)|(simp[*]))
 refine bB (bw ?_)
 repeat' (first|(with_reducible first|refine aj ?_|refine af ?_|intro _)|(simp[*]))
 refine cM 2 (fun(k:Nat)=>k≤os.length) [1,2,5,14,15] (fun(k:Nat)=>[(16,.w false false (.int .i64 k))]) [0] (fun(k:Nat)=>[(1,[.w false false (.int .i64 (PK k))])]) (fun(k:Nat)=>os.length-k) (fun(_u:Unit)=>True) [1,2,5] (fun(_u:Unit)=>[]) [0] (fun(_u:Unit)=>[(1,[.w false false (.int .i64 (PK os.length))])]) (0) (Nat.zero_le _) (aN [] (by simp[hp0]) (by simp[hp0])) (fun k hk=>?_) (fun _u hf=>?_)
 ·by_cases hlt:k<os.length
  ·obtain⟨b1,b2,b3,b4,b5,lo,lw,hl,ha,e0,eS,eP,hpr'⟩:=kk;have h1:=b3 k hlt;have h2:=b1 k hk;have h3:=lD (pr k) h1.1;have c1:=qJ (pr k) h1.1;have h4:=eP k;have h6:(nth os k).2.2.2=((pr k:Nat):Int):=h1.2.symm;have hi1:inI .i64 (PK k+bE (pr k)):=aH (by omega) (by omega);have hi2:inI .i64 ((k:Int)+1):=aH (by omega) (by omega)
   have hz:k+1≤os.length:=by omega
   generalize bE (pr k)=pp at *;clear b1 b2 b3 b4 b5 lo lw hl ha e0 eS eP hpr' h2 h3 h1
   repeat' (first|(with_reducible first|refine aj ?_|refine aL ?_|refine aB ?_|refine af ?_|refine bF (id:=5) 5 mixed (by decide +kernel) ?_|refine al ?_|refine And.intro ?_ ?_|refine cw (c1) ?_|intro _)|(simp[*,hlt,hi1,hi2,h6,Tw.bS])|(refine az (c1) ?_ ?_;(· (simp[*];done))))
   all_goals first
    |omega
    |assumption
    |(refine nx (k+1) ?_ ?_;(· exact hz);(refine aN [] ?_ ?_<;>first|trivial|(simp[*,h4];done)))
  ·have hke:k=os.length:=by omega
   subst hke
   repeat' (first|(with_reducible first|refine aj ?_|refine aY ?_|refine af ?_|refine al ?_|intro _)|(simp[*,hlt]))
   all_goals first
    |omega
    |(refine bl () ?_ ?_;(· trivial);(refine aG ?_ ?_<;>first|trivial|(simp[*];done)))
 ·refine bB (bB (bw ?_));have cs:=Dn ⟨ae,os,wt,zs,fit⟩ plan;unfold Rd.pv at cs;simp only[] at cs
  repeat' (first|(with_reducible first|refine af ?_|refine And.intro ?_ ?_|refine cw (cs) ?_|intro _)|(simp[*])|(refine az (cs) ?_ ?_;(· (simp[*];done))))
  clear cs;refine mT (Dc (gf:=48) (ar:=[.w false false (.ip [.sl plan.length (ints plan)] 0),.w false false (.ip [.ip [.sl ae.length (bN ae),.sl os.length (bL os),.sl wt.length (ig wt),.sl zs.length (bQ zs),.sl fit.length (jA fit)] 0] 0)]) ?_ Tz.func48 (by kernel_rfl) rfl (Nat.le_of_ble_eq_true (by kernel_rfl)) (fun l=>?_))
  ·rfl
  simp only[Tryz.results48,Tryz.ntmps48];simp
  repeat' (first|(with_reducible first|refine aj ?_|refine af ?_|intro _)|(simp[*]))
  all_goals try first|exact aH (by omega) (by omega)|omega
  have e0:CK 0=PK os.length:=kk.2.2.2.2.2.2.2.2.2.1;refine cM 2 (fun(k:Nat)=>k≤plan.length) [0,2,6,7] (fun(k:Nat)=>[(8,.w false false (.int .i64 k))]) [0] (fun(k:Nat)=>[(1,[.w false false (.int .i64 (CK k))])]) (fun(k:Nat)=>plan.length-k) (fun(_u:Unit)=>True) [] (fun(_u:Unit)=>[]) [0] (fun(_u:Unit)=>[(1,[.w false false (.int .i64 (CK plan.length))])]) (0) (Nat.zero_le _) (aN [] (by simp[e0]) (by simp[e0])) (fun k hk=>?_) (fun _u hf=>?_)
  ·clear e0;by_cases hlt:k<plan.length
   ·obtain⟨b1,b2,b3,b4,b5,lo,lw,hl,ha,e0,eS,eP,hpr'⟩:=kk
    have hlo:k<os.length:=by omega
    have hlw:k<wt.length:=by omega
    have hla:(k:Int)<8:=by omega
    have h1:=b3 k hlo;have h2:=b2 k hk;have h2':=b2 (k+1) (by omega);have h3:=lD (pr k) h1.1;have c1:=qJ (pr k) h1.1;have h4:=eS k;have h6:(nth os k).2.2.2=((pr k:Nat):Int):=h1.2.symm;have hn:=ha k hlt;have hr:=b5 k hlo;have hw:=b4 k hlo;have hi2:inI .i64 ((k:Int)+1):=aH (by omega) (by omega)
    have hz:k+1≤plan.length:=by omega
    clear b1 b2 b3 b4 b5 lo lw hl ha e0 eS eP hpr';generalize hq:nth plan k=q at *
    rcases hn with hn|hn
    ·rw[if_pos hn] at h4;subst hn;clear h1 h2 h2' h3 c1 hr hw h6 hla
     repeat' (first|(with_reducible first|refine tw (id:=3) 16 ?_ ?_|refine aj ?_|refine aL ?_|refine aB ?_|refine af ?_|refine al ?_|intro _)|(simp[*,hlt,hq,hi2]))
     all_goals first
      |omega
      |assumption
      |(refine nx (k+1) ?_ ?_;(· exact hz);(refine aN [] ?_ ?_<;>first|trivial|(simp[*,h4];done)))
    ·have hne:¬q=-1:=by omega
     obtain⟨m,rfl⟩:∃m:Nat,q=m:=⟨q.toNat,by omega⟩;rw[if_neg hne] at h4
     have hm:m<(nth wt k).length:=by omega
     have hwm:=hw m (by omega);simp only[Int.toNat_natCast] at h4;generalize bE (pr k)=pp at *;generalize hww:nth (nth wt k) m=W at *
     have hi1:inI .i64 (CK k+(W-pp)):=by rw[←h4];exact aH (by omega) (by omega)
     have hi3:inI .i64 (W-pp):=aH (by omega) (by omega);clear h1 h2 h2' h3 hr hw hn hwm hla
     repeat' (first|(with_reducible first|refine tw (id:=3) 16 ?_ ?_|refine aj ?_|refine aL ?_|refine aB ?_|refine af ?_|refine al ?_|intro _)|(simp[*,hlt,hlw,hq,hi2,hne,hm]))
     all_goals try first|omega|assumption
     refine Dr rfl (by simp) ?_
     repeat' (first|(with_reducible first|refine aj ?_|refine nY ?_|refine af ?_|refine bF (id:=10) 14 mixed (by decide +kernel) ?_|refine And.intro ?_ ?_|refine cw (c1) ?_|intro _)|(simp[*,hlo,h6,hi1,hi3,hww])|(refine az (c1) ?_ ?_;(· (simp[*];done))))
     all_goals try first|omega|assumption
     refine Ds [(1,[.w false false (.int .i64 (CK (k+1)))]),(0,[.w false false (.ip [.sl ae.length (bN ae),.sl os.length (bL os),.sl wt.length (ig wt),.sl zs.length (bQ zs),.sl fit.length (jA fit)] 0)])] 2 46 ?_ ?_
     ·refine aN [] ?_ ?_<;>first|trivial|(simp[h4];done)
     repeat' (first|(with_reducible first|refine aB ?_|refine af ?_|refine al ?_|intro _)|(simp[*,hlt,hlw,hq,hi2,hne,hm]))
     all_goals first
      |omega
      |assumption
      |(refine nx (k+1) ?_ ?_;(· exact hz);(refine aN [] ?_ ?_<;>first|trivial|(simp[*];done)))
   ·have hke:k=plan.length:=by omega
    subst hke
    repeat' (first|(with_reducible first|refine aj ?_|refine aY ?_|refine af ?_|refine al ?_|intro _)|(simp[*,hlt]))
    all_goals first
     |omega
     |(refine bl () ?_ ?_;(· trivial);(refine aG ?_ ?_<;>first|trivial|(simp[*];done)))
  ·repeat' (first|(with_reducible first|intro _)|(simp[*]))
   simp[cj];refine bB (bw ?_)
   repeat' (first|(with_reducible first|refine af ?_|intro _)|(simp[*]))
   refine bw ?_
   repeat' (first|(with_reducible first|refine aD ?_|intro _)|(simp[*]))
end Go.Proofs.YtmaaehaedfemaaaGreat
namespace Go.Proofs.YtmaaehaedfemaaaGreat
open Go Go.Fi
theorem LI(x:Rd)(plan:List Int)(h:(ik x plan).2=0):o7 x plan:=by
 unfold ik at h;split at h
 ·exact absurd h (show (10:Int)≠0 by decide)
 ·rename_i hl
  have hz:=fun j hj=>tn h j hj
  refine⟨by have:=Classical.not_not.1 hl;omega,fun k hk=>?_⟩;have h1:=hz k hk;simp only[Nat.zero_add] at h1;unfold jB at h1;by_cases hn:nth plan k=-1
  ·exact .inl hn
  ·rw[if_neg hn] at h1;split at h1
   ·rename_i h2;exact absurd h1 h2
   ·rename_i h2;have:=jV.1 (iD (by decide) (Classical.not_not.1 h2));exact .inr ⟨this.1,by omega⟩
noncomputable def uy(r:Tw.RND)(plan:List Int):Int×Int:=
 if ceR r≠0 then (0,ceR r) else if (ik (aA r) plan).2≠0 then (0,(ik (aA r) plan).2) else (nH (aA r) plan,0)
noncomputable instance instLD23:ak:=LD
theorem LJ(r:Tw.RND)(plan:List Int)(hp:plan.length<100000):aF Tz.prog 8 [Tw.bM r,.sl plan.length (ints plan)] (.tup [.int .i64 (uy r plan).1,.int .i64 (uy r plan).2]) false:=by
 unfold uy;by_cases h:ceR r=0
 ·rw[if_neg (by simpa using h)];have c1:=KS r plan hp h;have ok:=nE r h;by_cases h2:(ik (aA r) plan).2=0
  ·rw[if_neg (by simpa using h2)];rw[h2] at c1;have c2:=Du (aA r) ok plan (LI _ _ h2);generalize nH (aA r) plan=C at *;unfold Rd.pv at *;generalize aA r=x at *;unfold Tw.bM at *;generalize r.dK=p1 at *;generalize r.osP=p2 at *;generalize r.eF=p3 at *;generalize r.zsP=p4 at *;clear ok h h2;refine rcK Tz.func8 ?_;simp only[Tryz.results8,Tryz.ntmps8]
   repeat' (first|(with_reducible first|refine aj ?_|refine aB ?_|refine aD ?_|refine af ?_|refine al ?_|refine And.intro ?_ ?_|refine cw (c1) ?_|refine cw (c2) ?_|intro _)|(simp[*])|(refine az (c1) ?_ ?_;(· (simp[*];done)))|(refine az (c2) ?_ ?_;(· (simp[*];done))))
  ·rw[if_pos h2];generalize (ik (aA r) plan).2=e at *;unfold Rd.pv at *;generalize aA r=x at *;unfold Tw.bM at *;generalize r.dK=p1 at *;generalize r.osP=p2 at *;generalize r.eF=p3 at *;generalize r.zsP=p4 at *;clear ok h;refine rcK Tz.func8 ?_;simp only[Tryz.results8,Tryz.ntmps8]
   repeat' (first|(with_reducible first|refine aj ?_|refine aD ?_|refine af ?_|refine al ?_|refine And.intro ?_ ?_|refine cw (c1) ?_|intro _)|(simp[*])|(refine az (c1) ?_ ?_;(· (simp[*];done))))
 ·rw[if_pos h];have c1:=KT r plan h;generalize ceR r=e at *;unfold Tw.bM at *;generalize r.dK=p1 at *;generalize r.osP=p2 at *;generalize r.eF=p3 at *;generalize r.zsP=p4 at *;refine rcK Tz.func8 ?_;simp only[Tryz.results8,Tryz.ntmps8]
  repeat' (first|(with_reducible first|refine aj ?_|refine aD ?_|refine af ?_|refine al ?_|refine And.intro ?_ ?_|refine cw (c1) ?_|intro _)|(simp[*])|(refine az (c1) ?_ ?_;(· (simp[*];done))))
end Go.Proofs.YtmaaehaedfemaaaGreat
namespace Go.Proofs.YtmaaehaedfemaaaGreat
open Go Go.Fi
variable[ak]
def iA(l:List Int):List AV:=(ints l).map (AV.w false false)
@[simp] theorem KZ(l:List Int):(iA l).length=l.length:=by simp[iA]
@[simp] theorem V0(l:List Int)(i:Nat)(h:i<l.length):iH (iA l) i=.w false false (.int .i64 (nth l i)):=by
 unfold iA;rw[CJ _ _ _ (by simpa using h),Kj l i h]
@[simp] theorem K0(l:List Int)(i:Nat)(v:Int):(iA l).set i (.w false false (.int .i64 v))=iA (l.set i v):=by
 simp[iA,ints,List.map_set]
@[simp] theorem X8(l:List Int)(n:Nat):AV.lt.ltL n (iA l)=true:=qb n false false (ints l)
@[simp] theorem V1{D:List Nat}{h:ab}{n n':Nat}(l:List Int):fp D h n n' (iA l) (iA l)=True:=eq_true (mR false false _)
@[simp high] theorem V2(h:ab)(d:Nat)(l:List Int):(iA l).mapM (frz h d)=some (ints l):=te h d false false (ints l)
@[simp] theorem Dy:∀l:List Int,de (ints l)=true
 |[]=>rfl
 |x::r=>by have:=Dy r;simpa[ints,de,flat] using this
@[simp high] theorem V3(h:ab)(d:Nat)(l:List Int):(iA l).all (cp h d)=true:=p9 h d false false (ints l) (Dy l)
theorem K1(k:Nat)(o f:Bool)(p:PV):List.replicate k (AV.w o f p)=(List.replicate k p).map (AV.w o f):=by simp
@[simp] theorem V4{D:List Nat}{h:ab}{n n':Nat}(k:Nat)(o f:Bool)(p:PV):fp D h n n' (List.replicate k (.w o f p)) (List.replicate k (.w o f p))=True:=by rw[K1];exact eq_true (mR o f _)
@[simp] theorem qe(a b:List Int):iA a++iA b=iA (a++b):=by simp[iA,ints]
def cJ(f:Nat→Int)(d:Int)(n j:Nat):List Int:=(List.range j).map f++List.replicate (n-j) d
@[simp] theorem xR(f:Nat→Int)(d:Int)(n j:Nat)(h:j≤n):(cJ f d n j).length=n:=by simp[cJ];omega
theorem Dz(f:Nat→Int)(d:Int)(n j:Nat)(h:j<n):(cJ f d n j).set j (f j)=cJ f d n (j+1):=by
 unfold cJ;rw[List.set_append,if_neg (by simp),List.length_map,List.length_range,Nat.sub_self,show n-j=(n-(j+1))+1 by omega,List.replicate_succ,List.set_cons_zero,List.range_succ,List.map_append,List.append_assoc];rfl
theorem DC(f:Nat→Int)(d:Int)(n:Nat):iA (cJ f d n 0)=List.replicate n (.w false false (.int .i64 d)):=by simp[iA,ints,cJ]
theorem DD(f:Nat→Int)(d:Int)(n:Nat):cJ f d n n=(List.range n).map f:=by simp[cJ]
def cK(l:List (List Int)):List AV:=l.map fun x=>AV.w true false (.sl x.length (ints x))
@[simp] theorem V5(l:List (List Int)):(cK l).length=l.length:=by simp[cK]
theorem xS(l:List (List Int)):cK l=(l.map fun x=>PV.sl x.length (ints x)).map (AV.w true false):=by simp[cK,Function.comp_def]
@[simp] theorem V6(l:List (List Int))(n:Nat):AV.lt.ltL n (cK l)=true:=by rw[xS];exact qb n true false _
@[simp] theorem V7{D:List Nat}{h:ab}{n n':Nat}(l:List (List Int)):fp D h n n' (cK l) (cK l)=True:=by rw[xS];exact eq_true (mR true false _)
def gB(l:List (List Int)):List PV:=l.map fun x=>PV.sl x.length (ints x)
@[simp high] theorem V8(h:ab)(d:Nat)(l:List (List Int)):(cK l).mapM (frz h d)=some (gB l):=by rw[xS];exact te h d true false _
@[simp high] theorem V9(h:ab)(d:Nat)(l:List (List Int)):(cK l).all (cp h d)=true:=by
 unfold cK;rw[List.all_map,List.all_eq_true];intro x _
 cases d<;>rfl
@[simp] theorem Wa(l:List (List Int)):(gB l).length=l.length:=by simp[gB]
@[simp] theorem Wb(l:List (List Int))(i:Nat)(h:i<l.length):bU (gB l) i=.sl (nth l i).length (ints (nth l i)):=pW (fun x:List Int=>PV.sl x.length (ints x)) l i h
def mf(x:Rd)(i j:Nat):Int:=
 if j<x.ae.length∧nth (nth x.fit i) j=true then nth (nth x.wt i) j else if j=x.ae.length+i then bE (prio x i) else 1000000000000000
def iU(x:Rd)(i:Nat):List Int:=(List.range (x.ae.length+x.os.length)).map (mf x i)
def dL(x:Rd)(n:Nat):List (List Int):=(List.range n).map (iU x)
theorem K3(x:Rd)(n:Nat):dL x (n+1)=dL x n++[iU x n]:=by simp[dL,List.range_succ]
@[simp] theorem DF(x:Rd)(n:Nat):(dL x n).length=n:=by simp[dL]
@[simp] theorem K4(x:Rd)(i:Nat):(iU x i).length=x.ae.length+x.os.length:=by simp[iU]
theorem K5(x:Rd)(n:Nat):cK (dL x (n+1))=cK (dL x n)++[.w true false (.sl (x.ae.length+x.os.length) (ints (iU x n)))]:=by
 rw[K3];simp[cK]
theorem Me(x:Rd)(ok:eJ x):aF Tz.prog 22 [x.pv] (.sl x.os.length (gB (dL x x.os.length))) true:=by
 have b3:=fun i hi=>qd x ok i hi
 have lo:=ok.lo;have lc:=ok.lc;have lw:=ok.lw;have lf:=ok.lf;have fr:=ok.fr;have wr:=ok.wr
 have eE:∀i j,mf x i j=if j<x.ae.length∧nth (nth x.fit i) j=true then nth (nth x.wt i) j else if j=x.ae.length+i then bE (prio x i) else 1000000000000000:=fun _ _=>rfl
 have eR:∀i,iU x i=(List.range (x.ae.length+x.os.length)).map (mf x i):=fun _=>rfl
 have eS:∀k,cK (dL x (k+1))=cK (dL x k)++[.w true false (.sl (x.ae.length+x.os.length) (ints (iU x k)))]:=fun k=>K5 x k
 have eL:∀k,(cK (dL x k)).length=k:=fun k=>by simp
 have eSl:=DF x x.os.length
 have eRl:∀i,(iU x i).length=x.ae.length+x.os.length:=fun i=>by simp
 have e0:cK (dL x 0)=[]:=rfl;generalize dL x=S at *;generalize iU x=R at *;generalize mf x=E at *;generalize prio x=pr at *;clear ok;obtain⟨ae,os,wt,zs,fit⟩:=x;unfold Rd.pv;simp only[] at *;have kk:=keep (And.intro b3 (And.intro lo (And.intro lc (And.intro lw (And.intro lf (And.intro fr (And.intro wr (And.intro eE (And.intro eR (And.intro eS eRl))))))))));clear b3 lo lc lw lf fr wr eE eR eS eRl;refine rcK Tz.func22 ?_;simp only[Tryz.results22,Tryz.ntmps22]
 repeat' (first|(with_reducible first|refine aj ?_|refine af ?_|intro _)|(simp[*]))
 refine cM 1 (fun(k:Nat)=>k≤os.length) [0,3,19,20] (fun(k:Nat)=>[(4,.msl 0 k 1 0 k),(21,.w false false (.int .i64 k))]) [] (fun(k:Nat)=>[(0,cK (S k))]) (fun(k:Nat)=>os.length-k) (fun(_u:Unit)=>True) [] (fun(_u:Unit)=>[(4,.msl 0 os.length 1 0 os.length)]) [] (fun(_u:Unit)=>[(0,cK (S os.length))]) (0) (Nat.zero_le _) (aN [] (by simp[e0]) (by simp[e0])) (fun k hk=>?_) (fun _u hf=>?_)
 ·by_cases hlt:k<os.length
  ·obtain⟨b3,lo,lc,lw,lf,fr,wr,eE,eR,eS,eRl⟩:=kk;have h1:=b3 k hlt
   have hlf:k<fit.length:=by omega
   have hlw:k<wt.length:=by omega
   have hfr:=fr k hlt;have hwr:=wr k hlt;have h6:(nth os k).2.2.2=((pr k:Nat):Int):=h1.2.symm;have eE2:=eE k;have eR2:=eR k;have eS2:=eS k;have eRl2:=eRl k;have c1:=qJ (pr k) h1.1;generalize bE (pr k)=pp at *;have hi2:inI .i64 ((k:Int)+1):=aH (by omega) (by omega)
   have hz:k+1≤os.length:=by omega
   obtain⟨nn,hnn⟩:∃nn,nn=ae.length+os.length:=⟨_,rfl⟩
   have hcast:(ae.length:Int)+(os.length:Int)=(nn:Int):=by omega
   have hin:inI .i64 (nn:Int):=aH (by omega) (by omega)
   have hn9:(nn:Int)≤1000000000:=by omega
   rw[←hnn] at eR2 eS2 eRl2
   have eA:cJ (E k) 0 nn nn=R k:=by rw[DD,eR2]
   have k1:=keep (And.intro lo (And.intro lc (And.intro hfr (And.intro hwr (And.intro eE2 (And.intro hnn hi2))))));clear b3 lo lc lw lf fr wr h1 eE eE2 eR eR2 eRl eS hfr hwr hnn hi2;have e00:=DC (E k) 0 nn
   repeat' (first|(with_reducible first|refine aj ?_|refine aL ?_|refine aB ?_|refine af ?_|refine al ?_|refine And.intro ?_ ?_|intro _)|(simp[*,hlt,hcast,hin,Tw.bS]))
   all_goals try first
    |omega
    |assumption
   refine cM 3 (fun(j:Nat)=>j≤nn) [0,3,4,5,6,7,19,20,21,36] (fun(j:Nat)=>[(37,.w false false (.int .i64 j))]) [0,1] (fun(j:Nat)=>[(2,iA (cJ (E k) 0 nn j))]) (fun(j:Nat)=>nn-j) (fun(_u:Unit)=>True) [0,3,4,7,19,20,21] (fun(_u:Unit)=>[]) [0,1] (fun(_u:Unit)=>[(2,iA (R k))]) (0) (Nat.zero_le _) (aN [] (by simp[e00]) (by simp[e00])) (fun j hk=>?_) (fun _u hf=>?_)
   ·clear e00;by_cases hjt:j<nn
    ·obtain⟨lo,lc,hfr,hwr,eE2,hnn,hi2⟩:=k1;have es:=Dz (E k) 0 nn j hjt;have el:=xR (E k) 0 nn j hk;have hi3:inI .i64 ((j:Int)+1):=aH (by omega) (by omega);have hi4:inI .i64 ((ae.length:Int)+k):=aH (by omega) (by omega)
     have hzj:j+1≤nn:=by omega
     have eEj:=eE2 j;rw[eEj] at es;generalize cJ (E k) 0 nn j=Lj at *;by_cases hjc:j<ae.length
     ·have hjf:j<(nth fit k).length:=by omega
      have hjw:j<(nth wt k).length:=by omega
      have hjn:¬(j:Int)=(ae.length:Int)+k:=by omega
      have hjn2:¬j=ae.length+k:=by omega
      cases hb:nth (nth fit k) j with
      |true=>
       rw[if_pos ⟨hjc,hb⟩] at es;clear lo lc hfr hwr eE2 hnn hi2 eEj eA eS2 c1
       repeat' (first|(with_reducible first|refine aj ?_|refine aL ?_|refine aB ?_|refine af ?_|refine al ?_|intro _)|(simp[*,hjt,hjc,hlf,hlw,hjf,hjw,hb,hlt,el,hi3]))
       all_goals first
        |omega
        |assumption
        |(refine nx (j+1) ?_ ?_;(· exact hzj);(refine aG ?_ ?_<;>first|trivial|(simp[*,es];done)))
      |false=>
       rw[if_neg (by rw[hb];simp),if_neg hjn2] at es;clear lo lc hfr hwr eE2 hnn hi2 eEj eA eS2 c1
       repeat' (first|(with_reducible first|refine aj ?_|refine aL ?_|refine aB ?_|refine af ?_|refine al ?_|intro _)|(simp[*,hjt,hjc,hlf,hlw,hjf,hjw,hb,hlt,el,hi3,hi4,hjn]))
       all_goals first
        |omega
        |assumption
        |(refine nx (j+1) ?_ ?_;(· exact hzj);(refine aG ?_ ?_<;>first|trivial|(simp[*,es];done)))
     ·by_cases hjn2:j=ae.length+k
      ·have hjs:(ae.length:Int)+k=(j:Int):=by omega
       have hij:inI .i64 (j:Int):=aH (by omega) (by omega);rw[if_neg (by intro h;exact hjc h.1),if_pos hjn2] at es;clear lo lc hfr hwr eE2 hnn hi2 eEj eA eS2 hi4 hjn2
       repeat' (first|(with_reducible first|refine aj ?_|refine aL ?_|refine aB ?_|refine af ?_|refine al ?_|refine And.intro ?_ ?_|refine cw (c1) ?_|intro _)|(simp[*,hjt,hjc,hlt,el,hi3,hjs,Tw.bS,h6])|(refine az (c1) ?_ ?_;(· (simp[*];done))))
       all_goals first
        |omega
        |assumption
        |(refine nx (j+1) ?_ ?_;(· exact hzj);(refine aG ?_ ?_<;>first|trivial|(simp[*,es];done)))
      ·have hjn:¬(j:Int)=(ae.length:Int)+k:=by omega
       rw[if_neg (by intro h;exact hjc h.1),if_neg hjn2] at es;clear lo lc hfr hwr eE2 hnn hi2 eEj eA eS2 c1
       repeat' (first|(with_reducible first|refine aj ?_|refine aL ?_|refine aB ?_|refine af ?_|refine al ?_|intro _)|(simp[*,hjt,hjc,hlt,el,hi3,hi4,hjn]))
       all_goals first
        |omega
        |assumption
        |(refine nx (j+1) ?_ ?_;(· exact hzj);(refine aG ?_ ?_<;>first|trivial|(simp[*,es];done)))
    ·have hke:j=nn:=by omega
     subst hke;clear k1
     repeat' (first|(with_reducible first|refine aj ?_|refine aY ?_|refine af ?_|refine al ?_|intro _)|(simp[*,hjt]))
     all_goals first
      |omega
      |(refine bl () ?_ ?_;(· trivial);(refine aG ?_ ?_<;>first|trivial|(simp[*,eA];done)))
   ·clear e00 eA;have hi2:inI .i64 ((k:Int)+1):=k1.2.2.2.2.2.2;clear k1
    repeat' (first|(with_reducible first|refine af ?_|refine And.intro ?_ ?_|intro _)|(simp[*,hlt,hi2,eRl2]))
    all_goals first
     |omega
     |assumption
     |(refine nx (k+1) ?_ ?_;(· exact hz);(refine aN [2] ?_ ?_<;>first|trivial|(simp[*,eS2,eRl2];done)))
  ·have hke:k=os.length:=by omega
   subst hke
   repeat' (first|(with_reducible first|refine aj ?_|refine aY ?_|refine af ?_|refine al ?_|intro _)|(simp[*,hlt]))
   all_goals first
    |omega
    |(refine bl () ?_ ?_;(· trivial);(refine aG ?_ ?_<;>first|trivial|(simp[*];done)))
 ·clear e0 eL
  repeat' (first|(with_reducible first|refine aj ?_|refine aD ?_|refine af ?_|intro _)|(simp[*,eSl]))
theorem K6(n:Nat)(h:n<4294967296):aF Tz.prog 82 [.int .u64 1,.int .u64 n] (.tup [.int .u64 0,.int .u64 n]) true:=by
 have h1:(n:Int) / 4294967296=0:=by omega
 have h2:(n:Int)<4294967296:=by omega
 have h3:inI .u64 (n:Int):=by constructor<;>simp[IntKind.min,IntKind.max,IntKind.bits,IntKind.signed]<;>omega
 have h0:inI .u64 0:=by constructor<;>simp[IntKind.min,IntKind.max,IntKind.bits,IntKind.signed]
 refine rcK Tz.func82 ?_;simp only[Tryz.results82,Tryz.ntmps82]
 repeat' (first|(with_reducible first|refine aj ?_|refine aD ?_|refine af ?_|intro _)|(simp[*,h1,h2,h3,h0]))
 all_goals exact h0
theorem Pe(n:Nat)(h:n<4294967296):aF Tz.prog 44 [.int .u64 1,.int .u64 n] (.tup [.int .u64 0,.int .u64 n]) true:=by
 have c:=K6 n h;refine rcK Tz.func44 ?_;simp only[Tryz.results44,Tryz.ntmps44]
 repeat' (first|(with_reducible first|refine aj ?_|refine aB ?_|refine aD ?_|refine af ?_|refine al ?_|refine And.intro ?_ ?_|refine cw (c) ?_|intro _)|(simp[*])|(refine az (c) ?_ ?_;(· (simp[*];done))))
theorem DK:∀(r c:List AV)(o:Nat),o+r.length≤c.length→∀j,(dc c o r)[j]?=if o≤j∧j<o+r.length then r[j-o]? else c[j]?
 |[],c,o,_,j=>by
  unfold dc;rw[if_neg (by simp)]
 |a::r,c,o,h,j=>by
  unfold dc;rw[DK r (c.set o a) (o+1) (by simp at h ⊢;omega) j];simp only[List.length_cons] at h ⊢;by_cases h1:o=j
  ·subst h1;rw[if_neg (by omega),if_pos (by omega),Nat.sub_self];simp only[List.getElem?_cons_zero];rw[List.getElem?_set_self (by omega)]
  ·by_cases h2:o+1≤j∧j<o+1+r.length
   ·rw[if_pos h2,if_pos (by omega),show j-o=(j-(o+1))+1 by omega,List.getElem?_cons_succ]
   ·rw[if_neg h2,if_neg (by omega),List.getElem?_set_ne h1]
theorem xX(v:Int)(n m j:Nat)(h:m≤n):(iA (cJ (fun _=>v) 0 n m))[j]?=if j<m then some (AV.w false false (.int .i64 v)) else if j<n then some (AV.w false false (.int .i64 0)) else none:=by
 unfold iA ints cJ;simp only[List.map_append,List.map_map,List.map_replicate,List.getElem?_append,List.length_map,List.length_range,List.getElem?_map,List.getElem?_replicate];split
 ·rename_i hj;rw[List.getElem?_range hj];rfl
 ·split
  ·rw[if_pos (by omega)]
  ·rw[if_neg (by omega)]
theorem K8(v:Int)(n m k:Nat)(h1:m+k≤n)(h2:k≤m):dc (iA (cJ (fun _=>v) 0 n m)) m ((iA (cJ (fun _=>v) 0 n m)).take k)=iA (cJ (fun _=>v) 0 n (m+k)):=by
 have hl:((iA (cJ (fun _=>v) 0 n m)).take k).length=k:=by simp[cJ];omega
 refine List.ext_getElem? fun j=>?_
 have hl2:(iA (cJ (fun _=>v) 0 n m)).length=n:=by rw[KZ,xR _ _ _ _ (by omega)]
 rw[DK _ _ _ (by rw[hl,hl2];omega),hl,xX _ _ _ _ (by omega),xX _ _ _ _ h1,List.getElem?_take,xX _ _ _ _ (by omega)];by_cases ha:m≤j∧j<m+k
 ·rw[if_pos ha,if_pos (by omega),if_pos (by omega),if_pos (by omega)]
 ·rw[if_neg ha];by_cases hb:j<m
  ·rw[if_pos hb,if_pos (by omega)]
  ·rw[if_neg hb,if_neg (show ¬j<m+k by omega)]
@[simp] theorem Yb(c:Nat)(l:List Int):AV.sh.shL c (iA l)=iA l:=by
 unfold iA
 induction ints l with
 |nil=>rfl
 |cons x l ih=>simp only[List.map_cons,AV.sh.shL,AV.sh,ih]
theorem K9(l:List Int):AV.frs.gT (iA l)=true:=by
 unfold iA ints
 induction l with
 |nil=>rfl
 |cons x l ih=>simpa[AV.frs.gT,AV.frs,flat] using ih
theorem mU(v:Int)(n:Nat)(h:n<100000):oo Tz.prog 23 [.sl 1 [.int .i64 v],.int .i64 n] [iA (List.replicate n v)] (.msl 0 n 1 0 n):=by
 have c:=Pe n (by omega)
 have h3:inI .u64 (n:Int):=by constructor<;>simp[IntKind.min,IntKind.max,IntKind.bits,IntKind.signed]<;>omega
 have h31:inI .u64 1:=by constructor<;>simp[IntKind.min,IntKind.max,IntKind.bits,IntKind.signed]
 have h4:¬(n:Int)<0:=by omega
 have h5:¬(9223372036854775807:Int)<(n:Int):=by omega
 have h6:inI .i64 (n:Int):=aH (by omega) (by omega)
 have h7:(n:Int)≤1000000000:=by omega
 have hE:=K9 (List.replicate n v);refine KX 0 [] Tz.func23 (by kernel_rfl) rfl (Nat.le_of_ble_eq_true (by kernel_rfl)) (by simp) (by simpa using hE) ?_;simp only[Tryz.results23,Tryz.ntmps23];clear hE
 rcases Nat.eq_zero_or_pos n with h0|h0
 ·subst h0;have h30:inI .u64 0:=h3;have h60:inI .i64 0:=h6;clear h3 h4 h5 h6 h7
  repeat' (first|(with_reducible first|refine aj ?_|refine aB ?_|refine af ?_|refine al ?_|refine And.intro ?_ ?_|refine cw (c) ?_|intro _)|(simp[*,h30,h31,h60])|(refine az (c) ?_ ?_;(· (simp[*];done))))
  all_goals try first|exact h30|exact h60|exact h31
  clear c;refine cM 1 (fun(m:Nat)=>m=0) [7] (fun(m:Nat)=>[(8,.w false false (.int .i64 0))]) [] (fun(m:Nat)=>[(0,[])]) (fun(m:Nat)=>0) (fun(_u:Unit)=>True) [7] (fun(_u:Unit)=>[]) [] (fun(_u:Unit)=>[(0,[])]) (0) rfl (aN [] (by simp) (by simp)) (fun m hk=>?_) (fun _u hf=>?_)
  ·subst hk
   repeat' (first|(with_reducible first|refine aj ?_|refine aY ?_|refine af ?_|refine al ?_|intro _)|(simp[*]))
   all_goals (refine bl () ?_ ?_;(· trivial);(refine aG ?_ ?_<;>first|trivial|(simp[*];done)))
  ·repeat' (first|(with_reducible first|refine aj ?_|refine aD ?_|refine af ?_|intro _)|(simp[*]))
   exact mR false false []
 ·have hmin:min 1 n=1:=by omega
  have e1:(List.replicate n (AV.w false false (.int .i64 0))).set 0 (.w false false (.int .i64 v))=iA (cJ (fun _=>v) 0 n 1):=by
   have:=Dz (fun _=>v) 0 n 0 h0;rw[←this,←K0,DC]
  repeat' (first|(with_reducible first|refine aj ?_|refine aB ?_|refine af ?_|refine al ?_|refine And.intro ?_ ?_|refine cw (c) ?_|intro _)|(simp[*,h3,h31,h4,h5,h6,h7,hmin])|(refine az (c) ?_ ?_;(· (simp[*];done))))
  all_goals try omega
  clear c hmin h4 h5;refine cM 1 (fun(m:Nat)=>m≤n∧1≤m) [7] (fun(m:Nat)=>[(8,.w false false (.int .i64 m))]) [] (fun(m:Nat)=>[(0,iA (cJ (fun _=>v) 0 n m))]) (fun(m:Nat)=>n-m) (fun(_u:Unit)=>True) [7] (fun(_u:Unit)=>[]) [] (fun(_u:Unit)=>[(0,iA (List.replicate n v))]) (1) ⟨h0,Nat.le_refl _⟩ (aN [] (by simp[e1]) (by simp[e1])) (fun m hk=>?_) (fun _u hf=>?_)
  ·clear e1;obtain⟨hk,hk1⟩:=hk;by_cases hlt:m<n
   ·have hl:(cJ (fun _=>v) 0 n m).length=n:=xR _ _ _ _ hk;obtain⟨kk,hkk⟩:∃kk,min m (n-m)=kk:=⟨_,rfl⟩
    have hkm:kk≤m:=by omega
    have hmk:m+kk≤n:=by omega
    have hkn:¬kk=n:=by omega
    have hkn2:kk≤n:=by omega
    have hk1':1≤kk:=by omega
    have hon:bJ ((iA (cJ (fun _=>v) 0 n m)).take kk)=true:=by
     unfold iA;rw[←List.map_take];refine C6 false false _ (List.all_eq_true.2 fun y hy=>?_);obtain⟨z,_,rfl⟩:=List.mem_map.1 (List.mem_of_mem_take hy);rfl
    have hst:=K8 v n m kk hmk hkm;have hi1:inI .i64 ((m:Int)+(kk:Int)):=aH (by omega) (by omega);have hzz:m+kk≤n∧1≤m+kk:=⟨hmk,by omega⟩;clear h3 h31 h6 h7 h0
    repeat' (first|(with_reducible first|refine aj ?_|refine nY ?_|refine aB ?_|refine af ?_|refine CX (id:=9) [0,1,2,3,4,5,6] [7,8,9] [[.slot 7],[],[],[],[],[],[]] [[.slot 7],[],[]] mixed (by decide +kernel) ?_|refine al ?_|refine And.intro ?_ ?_|intro _)|(simp[*,hlt,hl,hkk,hkn,hon,hi1,hst,hkn2]))
    all_goals first
     |omega
     |assumption
     |exact List.mem_singleton.2 rfl
     |(refine nx (m+kk) ?_ ?_;(· exact hzz);(refine aG ?_ ?_<;>first|trivial|(simp[*];done)))
   ·have hke:m=n:=by omega
    subst hke
    have e2:cJ (fun _=>v) 0 m m=List.replicate m v:=by
     rw[DD]
     refine List.ext_getElem? fun j=>?_
     simp only[List.getElem?_map,List.getElem?_replicate];split
     ·rename_i hj;rw[List.getElem?_range hj];rfl
     ·rename_i hj;rw[List.getElem?_eq_none (by simp;omega)];rfl
    repeat' (first|(with_reducible first|refine aj ?_|refine aY ?_|refine af ?_|refine al ?_|intro _)|(simp[*,hlt]))
    all_goals first
     |omega
     |(refine bl () ?_ ?_;(· trivial);(refine aG ?_ ?_<;>first|trivial|(simp[*,e2];done)))
  ·clear e1
   repeat' (first|(with_reducible first|refine aj ?_|refine aD ?_|refine af ?_|intro _)|(simp[*]))
end Go.Proofs.YtmaaehaedfemaaaGreat
namespace Go.Proofs.YtmaaehaedfemaaaGreat
open Go Go.Fi
abbrev FS:=List Int×List Bool
def o8(x:Rd)(most:Int)(i k:Nat)(sn:List Bool):Bool:=!nth (nth x.fit i) k || nth sn k || decide (most<nth (nth x.wt i) k)
def il(rc:Nat→FS→Bool×FS)(x:Rd)(most:Int)(i:Nat):Nat→FS→Bool×FS
 |0,s=>(false,s)
 |m+1,s=>
  let k:=x.ae.length-(m+1)
  if o8 x most i k s.2 then il rc x most i m s
  else if nth s.1 k<0 then (true,s.1.set k i,s.2.set k true)
  else if (rc (nth s.1 k).toNat (s.1,s.2.set k true)).1 then (true,(rc (nth s.1 k).toNat (s.1,s.2.set k true)).2.1.set k i,(rc (nth s.1 k).toNat (s.1,s.2.set k true)).2.2)
  else il rc x most i m (rc (nth s.1 k).toNat (s.1,s.2.set k true)).2
def dt(x:Rd)(most:Int):Nat→Nat→FS→Bool×FS
 |0,_,s=>(false,s)
 |f+1,i,s=>il (dt x most f) x most i x.ae.length s
def bo(sn:List Bool):Nat:=sn.countP fun b=>!b
structure gC(x:Rd)(s:FS):Prop where
 l1:s.1.length=x.ae.length
 l2:s.2.length=x.ae.length
 rg:∀k,k<x.ae.length→nth s.1 k=-1∨(0≤nth s.1 k∧nth s.1 k<(x.os.length:Int))
theorem dH{α:Type}[Inhabited α](l:List α)(i j:Nat)(v:α)(h:i<l.length):nth (l.set i v) j=if i=j then v else nth l j:=by
 unfold nth;simp only[List.getD_eq_getElem?_getD,List.getElem?_set];split
 ·rename_i e;subst e;simp[h]
 ·rfl
theorem qg:∀(l:List Bool)(k:Nat),k<l.length→nth l k=false→bo (l.set k true)+1=bo l
 |[],k,h,_=>absurd h (by simp)
 |b::r,0,_,h=>by
  have:b=false:=h;subst this;simp[bo,List.countP_cons]
 |b::r,k+1,h,hb=>by
  have:=qg r k (by simpa using h) hb;simp only[bo,List.set_cons_succ,List.countP_cons] at this ⊢;omega
theorem DG{x:Rd}{most:Int}{i k:Nat}{sn:List Bool}(h:¬o8 x most i k sn=true):nth (nth x.fit i) k=true∧nth sn k=false∧nth (nth x.wt i) k≤most:=by
 simp only[o8,Bool.or_eq_true,Bool.not_eq_true',decide_eq_true_eq,not_or] at h;obtain⟨⟨h1,h2⟩,h3⟩:=h;exact⟨by simpa using h1,by simpa using h2,by omega⟩
structure zy(x:Rd)(s t:FS):Prop where
 ok:gC x t
 un:bo t.2≤bo s.2
theorem gC.seen{x:Rd}{s:FS}(h:gC x s)(k:Nat):gC x (s.1,s.2.set k true):=⟨h.l1,by simpa using h.l2,h.rg⟩
theorem gC.own{x:Rd}{s:FS}(h:gC x s){i k:Nat}(hi:i<x.os.length)(hk:k<x.ae.length):gC x (s.1.set k i,s.2):=
 ⟨by simpa using h.l1,h.l2,fun j hj=>by
   show nth (s.1.set k i) j=-1∨_;rw[show nth (s.1.set k (i:Int)) j=if k=j then (i:Int) else nth s.1 j from dH _ _ _ _ (by rw[h.l1];exact hk)];split
   ·exact .inr ⟨by omega,by omega⟩
   ·exact h.rg j hj⟩
theorem xT{x:Rd}{most:Int}{i:Nat}(hi:i<x.os.length)(rc:Nat→FS→Bool×FS)(B:Nat)(hrc:∀j s,j<x.os.length→gC x s→bo s.2<B→zy x s (rc j s).2):∀(m:Nat)(s:FS),m≤x.ae.length→gC x s→bo s.2≤B→zy x s (il rc x most i m s).2
 |0,s,_,h,_=>⟨h,Nat.le_refl _⟩
 |m+1,s,hm,h,hu=>by
  unfold il;simp only[]
  have hk:x.ae.length-(m+1)<x.ae.length:=by omega
  generalize x.ae.length-(m+1)=k at hk;split
  ·exact xT hi rc B hrc m s (by omega) h hu
  ·rename_i hs;obtain⟨_,h2,_⟩:=DG hs;have hun:=qg s.2 k (by rw[h.l2];exact hk) h2;split
   ·exact⟨⟨by simpa using h.l1,by simpa using h.l2,(h.own (i:=i) hi hk).rg⟩,by show bo (s.2.set k true)≤_;omega⟩
   ·rename_i hn;have hr:=(h.rg k hk).resolve_left (by omega);have hg:=hrc (nth s.1 k).toNat (s.1,s.2.set k true) (by omega) (h.seen k) (by show bo (s.2.set k true)<_;omega);have hgu:bo (rc (nth s.1 k).toNat (s.1,s.2.set k true)).2.2≤bo (s.2.set k true):=hg.un;split
    ·exact⟨hg.ok.own hi hk,by show bo (rc (nth s.1 k).toNat (s.1,s.2.set k true)).2.2≤_;omega⟩
    ·have:=xT (most:=most) hi rc B hrc m (rc (nth s.1 k).toNat (s.1,s.2.set k true)).2 (by omega) hg.ok (by omega);exact⟨this.ok,by have:=this.un;omega⟩
theorem xU{x:Rd}{most:Int}:∀(f:Nat)(i:Nat)(s:FS),i<x.os.length→gC x s→bo s.2<f→zy x s (dt x most f i s).2
 |0,_,_,_,_,h=>absurd h (by omega)
 |f+1,i,s,hi,h,hu=>xT hi _ f (fun j s hj hs hu=>xU f j s hj hs hu) _ s (Nat.le_refl _) h (by omega)
def cD(x:Rd)(most:Int):Nat→List Int×Int
 |0=>(List.replicate x.ae.length (-1),0)
 |i+1=>
  ((dt x most (x.ae.length+1) i ((cD x most i).1,List.replicate x.ae.length false)).2.1,
    if (dt x most (x.ae.length+1) i ((cD x most i).1,List.replicate x.ae.length false)).1 then (cD x most i).2+1 else (cD x most i).2)
def cL(tk:List Int)(n:Nat):Nat→List Int
 |0=>List.replicate n (-1)
 |k+1=>if 0≤nth tk k then (cL tk n k).set (nth tk k).toNat k else cL tk n k
def dM(x:Rd)(most:Int):List Int×Int:=(cL (cD x most x.os.length).1 x.os.length x.ae.length,(cD x most x.os.length).2)
theorem tB(n:Nat):bo (List.replicate n false)=n:=by simp[bo,List.countP_replicate]
theorem xV(x:Rd)(most:Int):∀i,i≤x.os.length→gC x ((cD x most i).1,List.replicate x.ae.length false)∧0≤(cD x most i).2∧(cD x most i).2≤i
 |0,_=>⟨⟨by simp[cD],by simp,fun k hk=>.inl (by simp[cD,nth,List.getD_eq_getElem?_getD,hk])⟩,by simp[cD],by simp[cD]⟩
 |i+1,h=>by
  obtain⟨h1,h2,h3⟩:=xV x most i (by omega);have hg:=xU (x:=x) (most:=most) (x.ae.length+1) i _ (by omega) h1 (by show bo (List.replicate x.ae.length false)<_;rw[tB];omega);refine⟨⟨hg.ok.l1,by simp,hg.ok.rg⟩,?_,?_⟩
  ·simp only[cD];split<;>omega
  ·simp only[cD];split<;>omega
theorem iE(tk:List Int)(n:Nat):∀k,(cL tk n k).length=n
 |0=>by simp[cL]
 |k+1=>by
  unfold cL;split
  ·rw[List.length_set];exact iE tk n k
  ·exact iE tk n k
end Go.Proofs.YtmaaehaedfemaaaGreat
namespace Go.Proofs.YtmaaehaedfemaaaGreat
open Go Go.Fi
variable[ak]
def bA(l:List Bool):List AV:=(kI l).map (AV.w false false)
@[simp] theorem Wf(l:List Bool):(bA l).length=l.length:=by simp[bA]
@[simp] theorem Wh(l:List Bool)(i:Nat)(h:i<l.length):iH (bA l) i=.w false false (.bool (nth l i)):=by
 unfold bA;rw[CJ _ _ _ (by simpa using h),KL l i h]
@[simp] theorem Wi(l:List Bool)(i:Nat)(v:Bool):(bA l).set i (.w false false (.bool v))=bA (l.set i v):=by
 simp[bA,kI,List.map_set]
@[simp] theorem Ya(l:List Bool)(n:Nat):AV.lt.ltL n (bA l)=true:=qb n false false (kI l)
@[simp] theorem Wj{D:List Nat}{h:ab}{n n':Nat}(l:List Bool):fp D h n n' (bA l) (bA l)=True:=eq_true (mR false false _)
theorem xW(n:Nat)(b:Bool):bA (List.replicate n b)=List.replicate n (.w false false (.bool b)):=by simp[bA,kI]
def iV:List AV:=[.ptr 0 1 0,.ptr 1 1 0,.ptr 4 1 0,.ptr 5 1 0]
def mH(x:Rd)(most:Int)(s:FS):ab:=
 [(6,bA s.2),(3,iA s.1),(0,[.w false false x.pv]),(1,[.w false false (.int .i64 most)]),(4,[.msl 3 x.ae.length 1 0 x.ae.length]),(5,[.fn 47 iV])]
theorem DJ(x:Rd)(ok:eJ x)(most:Int):∀(f i:Nat)(s:FS)(K:AV→ab→Nat→Prop),i<x.os.length→gC x s→bo s.2<f→K (.w false false (.bool (dt x most f i s).1)) (mH x most (dt x most f i s).2) 7→aM ⟨7,none⟩ Tz.prog (Tryz.f47.body.getD .skip) ⟨bP 0 ([.w false false (.int .i64 i),.msl 6 x.ae.length 1 0 x.ae.length]++iV),mH x most s,7,Tryz.f47.ntmps⟩ (cH Tz.prog Tryz.f47.results.toList K)
 |0,_,_,_,_,_,h,_=>absurd h (by omega)
 |f+1,i,s,K,hi,hs,hu,hK=>by
  have ih:=DJ x ok most f
  have hgo:=fun j s hj hs hu=>xU (x:=x) (most:=most) f j s hj hs hu
  have eR:dt x most (f+1) i s=il (dt x most f) x most i (x.ae.length-0) s:=rfl;rw[eR] at hK
  have eL:∀(k:Nat)(s:FS),k<x.ae.length→il (dt x most f) x most i (x.ae.length-k) s =
   if o8 x most i k s.2 then il (dt x most f) x most i (x.ae.length-(k+1)) s
   else if nth s.1 k<0 then (true,s.1.set k i,s.2.set k true)
   else if (dt x most f (nth s.1 k).toNat (s.1,s.2.set k true)).1 then (true,(dt x most f (nth s.1 k).toNat (s.1,s.2.set k true)).2.1.set k i,(dt x most f (nth s.1 k).toNat (s.1,s.2.set k true)).2.2)
   else il (dt x most f) x most i (x.ae.length-(k+1)) (dt x most f (nth s.1 k).toNat (s.1,s.2.set k true)).2:=fun k s hk=>by
   rw[show x.ae.length-k=(x.ae.length-(k+1))+1 by omega]
   conv=>lhs;unfold il
   simp only[];rw[show x.ae.length-(x.ae.length-(k+1)+1)=k by omega]
  have eN:∀s:FS,il (dt x most f) x most i (x.ae.length-x.ae.length) s=(false,s):=fun s=>by rw[Nat.sub_self];rfl
  generalize hFL:il (dt x most f) x most i=FL at hK eL eN;generalize hR:FL (x.ae.length-0) s=R at hK;clear eR hFL;have hlf:=ok.lf;have hlw:=ok.lw;have hfr:=ok.fr i hi;have hwr:=ok.wr i hi
  have hif:i<x.fit.length:=by omega
  have hiw:i<x.wt.length:=by omega
  have hlc:=ok.lc;have kk:=keep (And.intro ih (And.intro hgo (And.intro eL (And.intro eN (And.intro hK (And.intro hfr (And.intro hwr (And.intro hlc ok))))))));have kR:=keep hR;have ks:=keep hs;have ku:=keep hu;clear ih hgo eL eN hK hR hs hu hlf hlw hfr hwr ok hlc;have hb:Tryz.f47.body=some _:=rfl;rw[hb];clear hb;simp only[Option.getD_some,Tryz.ntmps47,Tryz.results47];unfold mH iV Rd.pv
  repeat' (first|(with_reducible first|refine aj ?_|refine af ?_|intro _)|(simp[*,hi,hif]))
  refine du (fun(y:Nat×FS)=>y.1≤x.ae.length∧gC x y.2∧bo y.2.2<f+1∧FL (x.ae.length-y.1) y.2=R) [0,1,2,3,4,5,17,18] (fun(y:Nat×FS)=>[(19,.w false false (.int .i64 y.1))]) [0,1,4,5] (fun(y:Nat×FS)=>[(6,bA y.2.2),(3,iA y.2.1)]) (fun(y:Nat×FS)=>x.ae.length-y.1) (fun(t:FS)=>R=(false,t)) [] (fun(t:FS)=>[]) [0,1,4,5] (fun(t:FS)=>[(6,bA t.2),(3,iA t.1)]) ((0,s)) ⟨Nat.zero_le _,ks,ku,kR⟩ (by simp) (by simp) (fun y hk=>?_) (fun t hf=>?_)
  ·obtain⟨k,s'⟩:=y;obtain⟨hk,hs,hu,hj⟩:=hk;dsimp only at hk hs hu hj ⊢;obtain⟨tk,sn⟩:=s';dsimp only at hk hs hu hj ⊢;clear kR ks ku;obtain⟨ih,hgo,eL,eN,hK,hfr,hwr,hlc,ok⟩:=kk;by_cases hlt:k<x.ae.length
   ·have hkf:k<(nth x.fit i).length:=by omega
    have hkw:k<(nth x.wt i).length:=by omega
    have hks:k<sn.length:=by have:=hs.l2;dsimp only at this;omega
    have hkt:k<tk.length:=by have:=hs.l1;dsimp only at this;omega
    have hl1:tk.length=x.ae.length:=hs.l1;have hl2:sn.length=x.ae.length:=hs.l2;have hi1:inI .i64 ((k:Int)+1):=aH (by omega) (by omega)
    have hz:k+1≤x.ae.length:=by omega
    have hz2:x.ae.length-(k+1)<x.ae.length-k:=by omega
    rw[eL k _ hlt] at hj;dsimp only at hj;by_cases hsk:o8 x most i k sn=true
    ·rw[if_pos hsk] at hj;have kj:=keep hj;have ks:=keep hs;have ku:=keep hu;clear hj hs hu ih hgo eL eN hK hfr hwr hlc ok
     cases hb:nth (nth x.fit i) k with
     |false=>
      clear hsk
      repeat' (first|(with_reducible first|refine aj ?_|refine aL ?_|refine aB ?_|refine aY ?_|refine af ?_|refine bF (id:=4) 23 mixed (by decide +kernel) ?_|refine al ?_|intro _)|(simp[*,hlt,hkf,hb,hif,hi,hi1]))
      all_goals first
       |omega
       |assumption
       |(refine nx (k+1,(tk,sn)) ?_ ?_;(· exact⟨hz,ks,ku,kj⟩);(refine aG ?_ ?_<;>first|trivial|(simp[*];done)))
     |true=>
      cases hsb:nth sn k with
      |true=>
       clear hsk
       repeat' (first|(with_reducible first|refine aj ?_|refine aL ?_|refine aB ?_|refine aY ?_|refine af ?_|refine bF (id:=4) 23 mixed (by decide +kernel) ?_|refine al ?_|intro _)|(simp[*,hlt,hkf,hb,hif,hi,hi1,hsb,hks,hl2]))
       all_goals first
        |omega
        |assumption
        |(refine nx (k+1,(tk,sn)) ?_ ?_;(· exact⟨hz,ks,ku,kj⟩);(refine aG ?_ ?_<;>first|trivial|(simp[*];done)))
      |false=>
       have hw:most<nth (nth x.wt i) k:=by simpa[o8,hb,hsb] using hsk
       clear hsk
       repeat' (first|(with_reducible first|refine aj ?_|refine aL ?_|refine aB ?_|refine aY ?_|refine af ?_|refine bF (id:=4) 23 mixed (by decide +kernel) ?_|refine al ?_|intro _)|(simp[*,hlt,hkf,hkw,hb,hif,hiw,hi,hi1,hsb,hks,hl2,hw]))
       all_goals first
        |omega
        |assumption
        |(refine nx (k+1,(tk,sn)) ?_ ?_;(· exact⟨hz,ks,ku,kj⟩);(refine aG ?_ ?_<;>first|trivial|(simp[*];done)))
    ·rw[if_neg hsk] at hj;obtain⟨hb,hsb,hw⟩:=DG hsk
     have hw':¬most<nth (nth x.wt i) k:=by omega
     clear hsk hw;by_cases ht:nth tk k<0
     ·rw[if_pos ht] at hj;subst hj;have kK:=keep hK;unfold mH iV Rd.pv at kK;dsimp only at kK;clear hs hu ih hgo eL eN hK hfr hwr hlc ok
      repeat' (first|(with_reducible first|refine aj ?_|refine aL ?_|refine aB ?_|refine aD ?_|refine af ?_|refine bF (id:=4) 23 mixed (by decide +kernel) ?_|refine bF (id:=6) 14 mixed (by decide +kernel) ?_|refine al ?_|intro _)|(simp[*,hlt,hkf,hkw,hb,hif,hiw,hi,hi1,hsb,hks,hl1,hl2,hw',ht,hkt]))
      all_goals first
       |omega
       |assumption
       |(simp[cj,dB,fj,oneOf];exact kK)
     ·rw[if_neg ht] at hj;have hr:0≤nth tk k∧nth tk k<(x.os.length:Int):=(hs.rg k hlt).resolve_left (by dsimp only;omega);obtain⟨j,hjn⟩:∃j:Nat,nth tk k=j:=⟨(nth tk k).toNat,by omega⟩
      have hjo:j<x.os.length:=by omega
      rw[hjn] at hj;simp only[Int.toNat_natCast] at hj;have hun:=qg sn k hks hsb;have hs1:=hs.seen k;have hg:=hgo j (tk,sn.set k true) hjo hs1 (by dsimp only;omega)
      have ihj:=fun K=>ih j (tk,sn.set k true) K hjo hs1 (by dsimp only;omega)
      generalize dt x most f j (tk,sn.set k true)=RR at hj hg ihj;obtain⟨b,tk2,sn2⟩:=RR;have hok2:=hg.ok;have hun2:=hg.un;dsimp only at hj hok2 hun2 ihj;have hl12:tk2.length=x.ae.length:=hok2.l1;have hl22:sn2.length=x.ae.length:=hok2.l2
      have hkt2:k<tk2.length:=by omega
      have ht':¬((j:Nat):Int)<0:=by omega
      have hu3:bo sn2<f+1:=by omega
      unfold mH at ihj;dsimp only at ihj;unfold Rd.pv at ihj;have kih:=keep ihj;have kj:=keep hj;have kg:=keep (And.intro hok2 hu3);have kK:=keep hK;clear hs hu ih hgo eL eN hK hfr hwr hlc ok hj hr hun hs1 hg ihj hok2 hun2 ht hu3
      repeat' (first|(with_reducible first|refine DI (id:=6) 12 47 mixed (by decide +kernel) (by decide +kernel) Tz.func47 (by kernel_rfl) (show Tryz.f47.body=some (Tryz.f47.body.getD .skip) from rfl) rfl ?_|refine aj ?_|refine aL ?_|refine aB ?_|refine af ?_|refine bF (id:=4) 23 mixed (by decide +kernel) ?_|refine al ?_|intro _)|(simp[*,hlt,hkf,hkw,hb,hif,hiw,hi,hi1,hsb,hks,hl1,hl2,hw',ht',hjn,hkt]))
      all_goals try first|omega|assumption
      refine DH iV rfl (Nat.le_of_ble_eq_true (by kernel_rfl)) (by simp) rfl ?_;refine kih _ ?_
      cases b with
      |true=>
       have hj:(true,tk2.set k (i:Int),sn2)=R:=kj;subst hj;unfold mH iV Rd.pv at kK;dsimp only at kK
       repeat' (first|(with_reducible first|refine aj ?_|refine aD ?_|refine af ?_|refine al ?_|intro _)|(simp[*,hlt,hkf,hif,hi,hl12,hl22,hkt2,hi1]))
       all_goals first
        |omega
        |assumption
        |(simp[cj,dB,fj,oneOf];exact kK)
      |false=>
       have hj:aR (FL (x.ae.length-(k+1)) (tk2,sn2)=R):=kj;clear kj kK
       repeat' (first|(with_reducible first|refine aB ?_|refine af ?_|refine al ?_|intro _)|(simp[*,hlt,hkf,hif,hi,hl12,hl22,hkt2,hi1]))
       all_goals first
        |omega
        |assumption
        |(refine nx (k+1,(tk2,sn2)) ?_ ?_;(· exact⟨hz,kg.1,kg.2,hj⟩);(refine aG ?_ ?_<;>first|trivial|(simp[*,iV];done)))
   ·have hke:k=x.ae.length:=by omega
    subst hke;rw[eN] at hj
    have hkf:¬x.ae.length<(nth x.fit i).length:=by omega
    have kj:=keep hj;clear hs hu ih hgo eL eN hK hfr hwr hlc ok hj
    repeat' (first|(with_reducible first|refine aj ?_|refine aY ?_|refine af ?_|refine al ?_|intro _)|(simp[*,hlt,hkf]))
    all_goals first
     |omega
     |(refine bl (tk,sn) ?_ ?_;(· exact kj.symm);(refine aG ?_ ?_<;>first|trivial|(simp[*];done)))
  ·subst hf;obtain⟨ih,hgo,eL,eN,hK,hfr,hwr,hlc,ok⟩:=kk;have kK:=keep hK;unfold mH iV Rd.pv at kK;dsimp only at kK;clear kR ih hgo eL eN hK hfr hwr hlc ok
   repeat' (first|(with_reducible first|refine aj ?_|refine aD ?_|refine af ?_|intro _)|(simp[*]))
   all_goals first
    |(simp[cj,dB,fj,oneOf];exact kK)
end Go.Proofs.YtmaaehaedfemaaaGreat
