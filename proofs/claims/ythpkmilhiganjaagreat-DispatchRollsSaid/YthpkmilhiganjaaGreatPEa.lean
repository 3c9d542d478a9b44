/- Lemmas. -/
import Derived.Test.YthpkmilhiganjaaGreatPDb
import Derived.Test.YthpkmilhiganjaaGreatPLg
set_option linter.all false
set_option maxHeartbeats 32000000
set_option maxRecDepth 100000
namespace Go.Proofs.YthpkmilhiganjaaGreat
open Go Go.Fi
noncomputable instance instLD14:bJ:=LD
theorem zd5(r:Tw.RND):(bQ r).fit.length=(bQ r).os.length:=by simp[bQ]
theorem zge(r:Tw.RND)(i:Nat):(Tw.mM r i).length=r.bz.length:=by
 simp[Tw.mM,Tw.CC,Tw.kD,Tw.odR]
theorem zd6(r:Tw.RND)(i:Nat)(h:i<(bQ r).os.length):(nth (bQ r).fit i).length=(bQ r).bz.length:=by
 have hi:i<r.os.length:=h;simp only[bQ,nth,eu,jk,yb hi,eI,oL];exact zge r i
theorem zgf(r:Tw.RND):(bQ r).bz.length<100000:=r.eU.2.2.2.1
theorem zd7(r:Tw.RND)(plan:List Int)(hp:plan.length<100000)(h:ceR r=0):bT Tz.prog 77 [Tw.dB r,.sl plan.length (ints plan)] (.tup [(bQ r).pv,.int .i64 (gv (bQ r) plan).2]) false:=by
 have c1:=qI r;rw[xi r h] at c1;have c2:=OL (bQ r) plan hp (zgf r) (zd5 r) (zd6 r);generalize gv (bQ r) plan=R at *;obtain⟨R1,R2⟩:=R;generalize bQ r=x at *;unfold Tw.dB Rd.pv at *;simp only[] at *;generalize r.jh=p1 at *;generalize r.osP=p2 at *;generalize r.jV=p3 at *;generalize r.zsP=p4 at *;clear h;refine rcK Tz.func77 ?_;simp only[Tryz.results77,Tryz.ntmps77]
 repeat' first|(with_reducible first|apply bG|apply bU|apply bE|apply bP|refine And.intro ?_ ?_|intro _)|simp[*]|(refine bN (c1) ?_ ?_;· simp[*];done)|(refine bN (c2) ?_ ?_;· simp[*];done)
theorem zgg(r:Tw.RND)(plan:List Int)(h:ceR r≠0):bT Tz.prog 77 [Tw.dB r,.sl plan.length (ints plan)] (.tup [.gJ,.int .i64 (ceR r)]) false:=by
 have c1:=qI r;rw[OH r h] at c1;generalize ceR r=e at *;unfold Tw.dB at *;generalize r.jh=p1 at *;generalize r.osP=p2 at *;generalize r.jV=p3 at *;generalize r.zsP=p4 at *;refine rcK Tz.func77 ?_;simp only[Tryz.results77,Tryz.ntmps77]
 repeat' first|(with_reducible first|apply bG|apply bS|apply bU|apply bE|apply bP|refine And.intro ?_ ?_|intro _)|simp[*]|(refine bN (c1) ?_ ?_;· simp[*];done)
theorem P2{α:Type}[Inhabited α]{E:Nat->α->Int}:∀{l:List α}{k:Nat},(fB E l k).2=0->∀j,j<l.length->E (k+j) (nth l j)=0
 |[],k,_,j,hj=>absurd hj ae
 |x::r,k,h,j,hj=>by
  unfold fB at h;by_cases he:E k x=0
  .rw[bX he] at h
   cases j with
   |zero=>exact he
   |succ j=>
    have:=P2 h j (by simpa using hj);rw[show k+(j+1)=k+1+j by omega];exact this
  simp_all
theorem zch{α:Type}[Inhabited α]{nm:α->ByteArray}{mr:α->Int}{l:List α}:∀{r:List α}{k:Nat},(gi nm mr l r k).2=0->∀j,j<r.length->iP nm mr l (k+j) (nth r j)=0
 |[],k,_,j,hj=>absurd hj ae
 |x::r,k,h,j,hj=>by
  unfold gi at h;by_cases he:iP nm mr l k x=0
  .rw[bX he] at h
   cases j with
   |zero=>exact he
   |succ j=>
    have:=zch h j (by simpa using hj);rw[show k+(j+1)=k+1+j by omega];exact this
  simp_all
theorem fh{e:Int}{r:List Int}(h:fg (e::r)=0):e=0/\fg r=0:=by
 unfold fg at h;omega
theorem qc{b:Bool}{e:Int}(he:e≠0)(h:dt b e=0):b=true:=by
 unfold dt at h;simp_all
theorem kQ{n lo hi:Int}:da n lo hi=true↔lo<=n/\n<=hi:=by simp[da]
theorem not_true{b:Bool}(h:(!b)=true):b=false:=by cases b<;>simp_all
structure ft(x:Rd):Prop where
 lc:x.bz.length<=8
 lo:x.os.length<=8
 lw:x.wt.length=x.os.length
 lz:x.zs.length<=64
 lf:x.fit.length=x.os.length
 fr:∀i,i<x.os.length->(nth x.fit i).length=x.bz.length
 wr:∀i,i<x.os.length->(nth x.wt i).length=x.bz.length
 wn:∀i,i<x.os.length->∀k,k<x.bz.length->0<=nth (nth x.wt i) k/\nth (nth x.wt i) k<=100000
 sc:∀k,k<x.bz.length->1<=(nth x.bz k).2.1/\(nth x.bz k).2.1<=8
 so:∀i,i<x.os.length->1<=(nth x.os i).2.1/\(nth x.os i).2.1<=8
 pr:∀i,i<x.os.length->0<=(nth x.os i).2.2.2/\(nth x.os i).2.2.2<=6
 nc:∀k,k<x.bz.length->gr (nth x.bz k).1=true/\((x.bz.take k).any λy=>decide (y.1=(nth x.bz k).1))=false
 no:∀k,k<x.os.length->gr (nth x.os k).1=true/\((x.os.take k).any λy=>decide (y.1=(nth x.os k).1))=false
 zr:∀j,j<x.zs.length->(0<=(nth x.zs j).1/\(nth x.zs j).1<=(x.os.length:Int)-1)/\(0<=(nth x.zs j).2/\(nth x.zs j).2<=(x.bz.length:Int)-1)
theorem C7(r:Tw.RND)(h:ceR r=0):ft (bQ r):=by
 unfold ceR iR at h;split at h
 .simp at h
 rename_i g1;split at h
 .trivial
 rename_i g2;split at h
 .simp at h
 rename_i g3;split at h
 .trivial
 rename_i g4;split at h
 .simp at h
 rename_i g5;have a4:=Bu h
 have hw:(fB (λ_=>hY r.bz.length) r.wt 0).2=0:=by
  unfold gO at h
  grind
 rw[a4] at h;unfold iQ at h;split at h
 .simp at h
 rename_i g6;have bk:(gi Prod.fst gu r.bz r.bz 0).2=0:=pT.1 g2;have bl:(gi Prod.fst fU r.os r.os 0).2=0:=pT.1 g4
 have C:=λj hj=>zch bk j hj
 have O:=λj hj=>zch bl j hj
 have W:=λj hj=>P2 hw j hj
 have Z:=λj hj=>P2 h j hj
 simp only[eo] at C O W Z
 have hh:r.wt.length=r.os.length:=ab
 have wait:∀i,i<r.os.length->(nth r.wt i).length=r.bz.length/\((nth r.wt i).any λx=>!da x 0 100000)=false:=λi hi=>by
  have:=W i ab;unfold hY at this;obtain⟨w1,w2⟩:=fh this;obtain⟨w2,_⟩:=fh w2;refine⟨?_,?_⟩
  .have:=qc af w1;have:=of_decide_eq_true this;omega
  .simpa using qc af w2
 refine⟨by show r.bz.length<=8;omega,by show r.os.length<=8;omega,hh,by show r.zs.length<=64;omega,zd5 r,zd6 r,λi hi=>(wait i hi).1,λi hi k hk=>?_,λk hk=>?_,λi hi=>?_,λi hi=>?_,λk hk=>?_,λk hk=>?_,λj hj=>?_⟩
 .obtain⟨w1,w2⟩:=wait i hi
  have br:k<(nth r.wt i).length:=by rw[w1];exact hk
  have hm:=lB br;have:=u6.1 w2 _ hm;have:=kQ.1 (by simpa using this);exact this
 .have:=C k hk;obtain⟨_,n2⟩:=fh this;obtain⟨_,n3⟩:=fh n2;obtain⟨n4,_⟩:=fh n3;exact kQ.1 (qc af n4)
 .have:=O i hi;obtain⟨_,n2⟩:=fh this;obtain⟨_,n3⟩:=fh n2;obtain⟨n4,_⟩:=fh n3;have:=qc af n4;rw[eT] at this;exact kQ.1 this.1
 .have:=O i hi;obtain⟨_,n2⟩:=fh this;obtain⟨_,n3⟩:=fh n2;obtain⟨n4,_⟩:=fh n3;have:=qc af n4;rw[eT] at this;exact kQ.1 this.2
 .have:=C k hk;obtain⟨n1,n2⟩:=fh this;obtain⟨n2,_⟩:=fh n2;exact⟨qc af n1,not_true (qc af n2)⟩
 .have:=O k hk;obtain⟨n1,n2⟩:=fh this;obtain⟨n2,_⟩:=fh n2;exact⟨qc af n1,not_true (qc af n2)⟩
 .have:=Z j hj;unfold kY at this;obtain⟨n1,_⟩:=fh this;have:=qc af n1;rw[eT] at this;exact⟨kQ.1 this.1,kQ.1 this.2⟩
end Go.Proofs.YthpkmilhiganjaaGreat
namespace Go.Proofs.YthpkmilhiganjaaGreat
open Go Go.Fi
variable[bJ]
def mK(row:List Bool)(w p:List Int)(m0:Int):Nat->Int
 |0=>m0
 |k+1=>if nth row k then (if nth w k+nth p k<mK row w p m0 k then nth w k+nth p k else mK row w p m0 k) else mK row w p m0 k
@[simp]theorem zjr(row:List Bool)(w p:List Int)(m0:Int):mK row w p m0 0=m0:=rfl
def kH(x:Rd)(i:Nat)(p:List Int):Int:=mK (nth x.fit i) (nth x.wt i) p (dR (nth x.os i).2.2.2.toNat) (nth x.fit i).length
theorem zgh(x:Rd)(i:Nat)(p:List Int)(hi:i<x.os.length)(hc:x.bz.length<100000)(a9:i<x.fit.length)(b6:i<x.wt.length)(hr:(nth x.fit i).length=x.bz.length)(b7:(nth x.wt i).length=x.bz.length)(ay:p.length=x.bz.length)(hy:0<=(nth x.os i).2.2.2/\(nth x.os i).2.2.2<=6)(hw:∀k,k<x.bz.length->0<=nth (nth x.wt i) k/\nth (nth x.wt i) k<=100000)(hp:∀k,k<x.bz.length->-100000000000000<=nth p k/\nth p k<=100000000000000):bT Tz.prog 73 [x.pv,.int .i64 i,.sl p.length (ints p)] (.int .i64 (kH x i p)) true:=by
 obtain⟨bz,os,wt,zs,fit⟩:=x;unfold Rd.pv kH;simp only[] at hi hc a9 b6 hr b7 ay hy hw hp ⊢;generalize hq:(nth os i).2.2.2=q at hy ⊢;obtain⟨u,rfl⟩:∃u:Nat,q=u:=⟨q.toNat,ab⟩;have c1:=sD u ab;simp only[fH];generalize dR u=m0 at c1 ⊢;have kw:=keep hw;have kp:=keep hp;have kr:=keep hr;have kwr:=keep b7;have kpl:=keep ay;have kc:=keep hc;clear hw hp hr b7 ay hy hc;refine rcK Tz.func73 ?_;simp only[Tryz.results73,Tryz.ntmps73]
 repeat' first|(with_reducible first|apply bG|apply bE|refine And.intro ?_ ?_|intro _)|simp[*,hi,a9,hq]|(refine bN (c1) ?_ ?_;· simp[*];done)
 all_goals first
  |omega
  |skip
 refine fj (λ(k:Nat)=>k<=(nth fit i).length) [0,1,2,26,27] (λ(k:Nat)=>[(28,.w false false (.int .i64 k)),(7,.w false false (.int .i64 (mK (nth fit i) (nth wt i) p m0 k)))]) [] (λ(k:Nat)=>[]) (λ(k:Nat)=>(nth fit i).length-k) (λ(_u:Unit)=>True) [] (λ(_u:Unit)=>[(7,.w false false (.int .i64 (mK (nth fit i) (nth wt i) p m0 (nth fit i).length)))]) [] (λ(_u:Unit)=>[]) (0) (cG _) ae ae (λk hk=>?_) (λ_u hf=>?_)
 .have bt:=hk;by_cases h8:k<(nth fit i).length
  .have ao:k<bz.length:=by have:=kr;unfold dh at this;omega
   have hh:k<(nth wt i).length:=by have:=kwr;unfold dh at this;omega
   have bg:k<p.length:=by have:=kpl;unfold dh at this;omega
   have bn:bz.length<100000:=kc;obtain⟨w1,w2⟩:=kw k ao;obtain⟨p1,p2⟩:=kp k ao;have bw:(nth fit i).length=bz.length:=kr
   have hz:k+1<=(nth fit i).length:=ab
   have cl:(nth fit i).length-(k+1)<(nth fit i).length-k:=ab
   have hg:inI .i64 ((k:Int)+1):=cu ab ab;have h':inI .i64 (nth (nth wt i) k+nth p k):=cu ab ab
   have em:mK (nth fit i) (nth wt i) p m0 (k+1)=if nth (nth fit i) k then (if nth (nth wt i) k+nth p k<mK (nth fit i) (nth wt i) p m0 k then nth (nth wt i) k+nth p k else mK (nth fit i) (nth wt i) p m0 k) else mK (nth fit i) (nth wt i) p m0 k:=rfl
   clear w1 w2 p1 p2 bw bn bt ao
   cases hb:nth (nth fit i) k with
   |true=>
    rw[hb] at em;simp only[cD] at em
    repeat' first|(with_reducible first|apply bG|apply cj|apply bS|apply bE|refine cT (id:=6) 18 mixed ai ?_|apply bP|intro _)|simp[*,h8,hi,a9,b6,hh,bg,hb,hg,h']
    all_goals first
     |omega
     |assumption
     |(refine dJ _ _ _ _ _ (k+1) _ ?_ aE ?_;(· exact hz);(refine cg ?_ ?_<;>first|trivial|simp_all))
   |false=>
    rw[hb] at em;simp only[dC,cP] at em
    repeat' first|(with_reducible first|apply bG|apply cj|apply bS|apply bE|apply bP|intro _)|simp[*,h8,hi,a9,b6,hh,bg,hb,hg,h']
    all_goals first
     |omega
     |assumption
     |(refine dJ _ _ _ _ _ (k+1) _ ?_ aE ?_;(· exact hz);(refine cg ?_ ?_<;>first|trivial|simp_all))
  .have a5:k=(nth fit i).length:=ab
   subst a5
   repeat' first|(with_reducible first|apply bG|apply cK|apply bE|apply bP|intro _)|simp[*]
   all_goals first
    |omega
    |(refine dp () ?_ ?_;(· trivial);(refine cg ?_ ?_<;>first|trivial|simp))
 .repeat' first|(with_reducible first|apply bG|apply bU|apply bE|intro _)|simp[*]
end Go.Proofs.YthpkmilhiganjaaGreat
namespace Go.Proofs.YthpkmilhiganjaaGreat
open Go Go.Fi
noncomputable instance instLD19:bJ:=LD
def mE(l:List Int):Nat->Int
 |0=>0
 |k+1=>mE l k+nth l k
@[simp]theorem zi1(l:List Int):mE l 0=0:=rfl
end Go.Proofs.YthpkmilhiganjaaGreat
namespace Go.Proofs.YthpkmilhiganjaaGreat
open Go Go.Fi
variable[bJ]
def prio(x:Rd)(i:Nat):Nat:=(nth x.os i).2.2.2.toNat
def eB(x:Rd):Nat->Int
 |0=>0
 |k+1=>eB x k+dR (prio x k)
@[simp]theorem zi2(x:Rd):eB x 0=0:=rfl
def CN(x:Rd)(i:Nat)(k:Int):Int:=nth (nth x.wt i) k.toNat
def cE(x:Rd)(plan:List Int):Nat->Int
 |0=>eB x x.os.length
 |k+1=>if nth plan k=-1 then cE x plan k else cE x plan k+(CN x k (nth plan k)-dR (prio x k))
def eF(x:Rd)(plan:List Int):Int:=cE x plan plan.length
structure PlanIn(x:Rd)(plan:List Int):Prop where
 len:plan.length=x.os.length
 at_:∀k,k<plan.length->nth plan k=-1\/(0<=nth plan k/\nth plan k<(x.bz.length:Int))
theorem P3(x:Rd)(ok:ft x)(i:Nat)(h:i<x.os.length):prio x i<=6/\((prio x i:Nat):Int)=(nth x.os i).2.2.2:=by
 have:=ok.pr i h;unfold prio;omega
theorem zcw(x:Rd)(ok:ft x):∀k,k<=x.os.length->0<=eB x k/\eB x k<=1000000000000*(k:Int)
 |0,_=>⟨Int.le_refl _,ae⟩
 |k+1,h=>by
  have:=zcw x ok k ab;have:=rC (prio x k) (P3 x ok k ab).1;unfold eB;omega
theorem zcx(x:Rd)(ok:ft x)(plan:List Int)(hp:PlanIn x plan):∀k,k<=plan.length->-(1000000000000*(k:Int))<=cE x plan k/\cE x plan k<=8000000000000+100000*(k:Int)
 |0,_=>by
  have:=zcw x ok x.os.length (bV _);have:=ok.lo;unfold cE;omega
 |k+1,h=>by
  have hk:k<x.os.length:=by have:=hp.len;omega
  have h1:=zcx x ok plan hp k ab;have h2:=rC (prio x k) (P3 x ok k hk).1;unfold cE;split
  .omega
  .rename_i hx;have h3:=(hp.at_ k ab).resolve_left hx;have h4:=ok.wn k hk (nth plan k).toNat ab;unfold CN;omega
theorem zgi(x:Rd)(ok:ft x)(plan:List Int)(hp:PlanIn x plan):bT Tz.prog 78 [x.pv,.sl plan.length (ints plan)] (.int .i64 (eF x plan)) true:=by
 have b1:=zcw x ok;have b2:=zcx x ok plan hp
 have b3:=λi hi=>P3 x ok i hi
 have b4:=ok.wn;have b5:=ok.wr;have lo:=ok.lo;have lw:=ok.lw;have hl:=hp.len;have ha:=hp.at_;have eC:eF x plan=cE x plan plan.length:=rfl;have e0:cE x plan 0=eB x x.os.length:=rfl
 have eS:∀k,cE x plan (k+1)=if nth plan k=-1 then cE x plan k else cE x plan k+(CN x k (nth plan k)-dR (prio x k)):=λ_=>rfl
 have eP:∀k,eB x (k+1)=eB x k+dR (prio x k):=λ_=>rfl
 unfold CN at eS;rw[eC];generalize hCK:cE x plan=CK at *;generalize hPK:eB x=PK at *;generalize hy:prio x=pr at *
 have bi:PK 0=0:=by rw[<-hPK];rfl
 clear hCK hPK eC hp
 have h9:∀i,pr i=(nth x.os i).2.2.2.toNat:=λi=>by rw[<-hy];rfl
 clear hy ok;obtain⟨bz,os,wt,zs,fit⟩:=x;unfold Rd.pv;simp only[] at b1 b2 b3 b4 b5 lo lw hl ha e0 eS eP h9 ⊢;have kk:=keep (And.intro b1 (And.intro b2 (And.intro b3 (And.intro b4 (And.intro b5 (And.intro lo (And.intro lw (And.intro hl (And.intro ha (And.intro e0 (And.intro eS (And.intro eP h9))))))))))));clear b1 b2 b3 b4 b5 lo lw hl ha e0 eS eP h9;refine ug Tz.func78 aj rfl (gH aj) ?_;simp only[Tryz.results78,Tryz.ntmps78];refine iF (iE ?_)
 repeat' first|(with_reducible first|apply bE|intro _)|simp[*]
 refine iF (iE ?_)
 repeat' first|(with_reducible first|apply bE|intro _)|simp[*]
 refine iF (iE ?_)
 repeat' first|(with_reducible first|apply bG|apply bE|intro _)|simp[*]
 refine fI 2 (λ(k:Nat)=>k<=os.length) [1,2,5,14,15] (λ(k:Nat)=>[(16,.w false false (.int .i64 k))]) [0] (λ(k:Nat)=>[(1,[.w false false (.int .i64 (PK k))])]) (λ(k:Nat)=>os.length-k) (λ(_u:Unit)=>True) [1,2,5] (λ(_u:Unit)=>[]) [0] (λ(_u:Unit)=>[(1,[.w false false (.int .i64 (PK os.length))])]) (0) (cG _) (de [] (by simp[bi]) (by simp[bi])) (λk hk=>?_) (λ_u hf=>?_)
 .by_cases h8:k<os.length
  .obtain⟨b1,b2,b3,b4,b5,lo,lw,hl,ha,e0,eS,eP,h9⟩:=kk;have h1:=b3 k h8;have h2:=b1 k hk;have h3:=rC (pr k) h1.1;have c1:=sD (pr k) h1.1;have h4:=eP k;have h6:(nth os k).2.2.2=((pr k:Nat):Int):=h1.2.symm;have hg:inI .i64 (PK k+dR (pr k)):=cu ab ab;have h':inI .i64 ((k:Int)+1):=cu ab ab
   have hz:k+1<=os.length:=ab
   generalize dR (pr k)=pp at *;clear b1 b2 b3 b4 b5 lo lw hl ha e0 eS eP h9 h2 h3 h1
   repeat' first|(with_reducible first|apply bG|apply cj|apply bS|apply bE|refine cT (id:=5) 5 mixed ai ?_|apply bP|refine And.intro ?_ ?_|intro _)|simp[*,h8,hg,h',h6,Tw.dW]|(refine bN (c1) ?_ ?_;· simp[*];done)
   all_goals first
    |omega
    |assumption
    |(refine dJ _ _ _ _ _ (k+1) _ ?_ ab ?_;(· exact hz);(refine de [] ?_ ?_<;>first|trivial|(simp[*,h4];done)))
  .have a5:k=os.length:=ab
   subst a5
   repeat' first|(with_reducible first|apply bG|apply cK|apply bE|apply bP|intro _)|simp[*,h8]
   all_goals first
    |omega
    |(refine dp () ?_ ?_;(· trivial);(refine cg ?_ ?_<;>first|trivial|simp))
 .refine iF (iF (iE ?_));have cs:=GQ ⟨bz,os,wt,zs,fit⟩ plan;unfold Rd.pv at cs;simp only[] at cs
  repeat' first|(with_reducible first|apply bE|refine And.intro ?_ ?_|intro _)|simp[*]|(refine bN (cs) ?_ ?_;· simp[*];done)
  clear cs;refine ua (xh (gf:=122) (b8:=[.w false false (.ip [.sl plan.length (ints plan)] 0),.w false false (.ip [.ip [.sl bz.length (dk bz),.sl os.length (dj os),.sl wt.length (dQ wt),.sl zs.length (dm zs),.sl fit.length (oH fit)] 0] 0)]) ?_ Tz.func122 aj rfl (gH aj) (λl=>?_))
  .rfl
  simp only[Tryz.results122,Tryz.ntmps122];simp
  repeat' first|(with_reducible first|apply bG|apply bE|intro _)|simp[*]
  all_goals try first|exact cu ab ab|omega
  have e0:CK 0=PK os.length:=kk.2.2.2.2.2.2.2.2.2.1;refine fI 2 (λ(k:Nat)=>k<=plan.length) [0,2,6,7] (λ(k:Nat)=>[(8,.w false false (.int .i64 k))]) [0] (λ(k:Nat)=>[(1,[.w false false (.int .i64 (CK k))])]) (λ(k:Nat)=>plan.length-k) (λ(_u:Unit)=>True) [] (λ(_u:Unit)=>[]) [0] (λ(_u:Unit)=>[(1,[.w false false (.int .i64 (CK plan.length))])]) (0) (cG _) (de [] (by simp[e0]) (by simp[e0])) (λk hk=>?_) (λ_u hf=>?_)
  .clear e0;by_cases h8:k<plan.length
   .obtain⟨b1,b2,b3,b4,b5,lo,lw,hl,ha,e0,eS,eP,h9⟩:=kk
    have aa:k<os.length:=ab
    have hh:k<wt.length:=ab
    have bc:(k:Int)<8:=ab
    have h1:=b3 k aa;have h2:=b2 k hk;have b9:=b2 (k+1) ab;have h3:=rC (pr k) h1.1;have c1:=sD (pr k) h1.1;have h4:=eS k;have h6:(nth os k).2.2.2=((pr k:Nat):Int):=h1.2.symm;have hn:=ha k h8;have hr:=b5 k aa;have hw:=b4 k aa;have h':inI .i64 ((k:Int)+1):=cu ab ab
    have hz:k+1<=plan.length:=ab
    clear b1 b2 b3 b4 b5 lo lw hl ha e0 eS eP h9;generalize hq:nth plan k=q at *
    rcases hn with hn|hn
    .rw[bX hn] at h4;subst hn;clear h1 h2 b9 h3 c1 hr hw h6 bc
     repeat' first|(with_reducible first|refine rD (id:=3) 16 ?_ ?_|apply bG|apply cj|apply bS|apply bE|apply bP|intro _)|simp[*,h8,hq,h']
     all_goals first
      |omega
      |assumption
      |(refine dJ _ _ _ _ _ (k+1) _ ?_ ab ?_;(· exact hz);(refine de [] ?_ ?_<;>first|trivial|(simp[*,h4];done)))
    .have hx:¬q=-1:=ab
     obtain⟨m,rfl⟩:∃m:Nat,q=m:=⟨q.toNat,ab⟩;rw[bH hx] at h4
     have hm:m<(nth wt k).length:=ab
     have c5:=hw m ab;simp only[fH] at h4;generalize dR (pr k)=pp at *;generalize c6:nth (nth wt k) m=W at *
     have hg:inI .i64 (CK k+(W-pp)):=by rw[<-h4];exact cu ab ab
     have bp:inI .i64 (W-pp):=cu ab ab;clear h1 h2 b9 h3 hr hw hn c5 bc
     repeat' first|(with_reducible first|refine rD (id:=3) 16 ?_ ?_|apply bG|apply cj|apply bS|apply bE|apply bP|intro _)|simp[*,h8,hh,hq,h',hx,hm]
     all_goals try first|omega|assumption
     refine xj rfl ae ?_
     repeat' first|(with_reducible first|apply bG|apply ry|apply bE|refine cT (id:=10) 14 mixed ai ?_|refine And.intro ?_ ?_|intro _)|simp[*,aa,h6,hg,bp,c6]|(refine bN (c1) ?_ ?_;· simp[*];done)
     all_goals try first|omega|assumption
     refine Bw [(1,[.w false false (.int .i64 (CK (k+1)))]),(0,[.w false false (.ip [.sl bz.length (dk bz),.sl os.length (dj os),.sl wt.length (dQ wt),.sl zs.length (dm zs),.sl fit.length (oH fit)] 0)])] 2 46 ?_ ?_
     .refine de [] ?_ ?_<;>first|trivial|simp_all
     repeat' first|(with_reducible first|apply bS|apply bE|apply bP|intro _)|simp[*,h8,hh,hq,h',hx,hm]
     all_goals first
      |omega
      |assumption
      |(refine dJ _ _ _ _ _ (k+1) _ ?_ ab ?_;(· exact hz);(refine de [] ?_ ?_<;>first|trivial|(simp[*];done)))
   .have a5:k=plan.length:=ab
    subst a5
    repeat' first|(with_reducible first|apply bG|apply cK|apply bE|apply bP|intro _)|simp[*,h8]
    all_goals first
     |omega
     |(refine dp () ?_ ?_;(· trivial);(refine cg ?_ ?_<;>first|trivial|(simp[*];done)))
  .repeat' first|(with_reducible first|intro _)|simp[*]
   simp[gq];refine iF (iE ?_)
   repeat' first|(with_reducible first|apply bE|intro _)|simp[*]
   refine iE ?_
   repeat' first|(with_reducible first|apply bU|intro _)|simp[*]
def iA(l:List Int):List AV:=(ints l).map (AV.w false false)
@[simp]theorem zgj(l:List Int):(iA l).length=l.length:=by simp[iA]
@[simp]theorem zi3(l:List Int)(i:Nat)(h:i<l.length):mj (iA l) i=.w false false (.int .i64 (nth l i)):=by
 unfold iA;rw[Gi _ _ _ av,Oj l i h]
@[simp]theorem zgk(l:List Int)(i:Nat)(v:Int):(iA l).set i (.w false false (.int .i64 v))=iA (l.set i v):=by
 simp[iA,ints,List.map_set]
@[simp]theorem zju(l:List Int)(n:Nat):AV.lt.ltL n (iA l)=true:=tY n false false (ints l)
@[simp]theorem zi4{D:List Nat}{h:bD}{n n':Nat}(l:List Int):iq D h n n' (iA l) (iA l)=True:=eq_true (qu false false _)
@[simp high] theorem zi5(h:bD)(d:Nat)(l:List Int):(iA l).mapM (frz h d)=some (ints l):=xd h d false false (ints l)
@[simp]theorem zd8:∀l:List Int,ij (ints l)=true
 |[]=>rfl
 |x::r=>by have:=zd8 r;trivial
@[simp high] theorem zi6(h:bD)(d:Nat)(l:List Int):(iA l).all (fF h d)=true:=tW h d false false (ints l) (zd8 l)
theorem zgl(k:Nat)(o f:Bool)(p:PV):List.replicate k (AV.w o f p)=(List.replicate k p).map (AV.w o f):=ae
@[simp]theorem zi7{D:List Nat}{h:bD}{n n':Nat}(k:Nat)(o f:Bool)(p:PV):iq D h n n' (List.replicate k (.w o f p)) (List.replicate k (.w o f p))=True:=by rw[zgl];exact eq_true (qu o f _)
@[simp]theorem HR(a b:List Int):iA a++iA b=iA (a++b):=by simp[iA,ints]
def cN(f:Nat->Int)(d:Int)(n j:Nat):List Int:=(List.range j).map f++List.replicate (n-j) d
@[simp]theorem zcy(f:Nat->Int)(d:Int)(n j:Nat)(h:j<=n):(cN f d n j).length=n:=by simp[cN];omega
theorem zd9(f:Nat->Int)(d:Int)(n j:Nat)(h:j<n):(cN f d n j).set j (f j)=cN f d n (j+1):=by
 unfold cN;rw[List.set_append,bH ae,iV,qT,Nat.sub_self,show n-j=(n-(j+1))+1 by omega,Dd,List.set_cons_zero,uV,yk,List.append_assoc];rfl
theorem zea(f:Nat->Int)(d:Int)(n:Nat):iA (cN f d n 0)=List.replicate n (.w false false (.int .i64 d)):=by simp[iA,ints,cN]
theorem zeb(f:Nat->Int)(d:Int)(n:Nat):cN f d n n=(List.range n).map f:=by simp[cN]
def cm(l:List (List Int)):List AV:=l.map λx=>AV.w true false (.sl x.length (ints x))
@[simp]theorem zi8(l:List (List Int)):(cm l).length=l.length:=by simp[cm]
theorem zcz(l:List (List Int)):cm l=(l.map λx=>PV.sl x.length (ints x)).map (AV.w true false):=by simp[cm,Function.comp_def]
@[simp]theorem zi9(l:List (List Int))(n:Nat):AV.lt.ltL n (cm l)=true:=by rw[zcz];exact tY n true false _
@[simp]theorem zja{D:List Nat}{h:bD}{n n':Nat}(l:List (List Int)):iq D h n n' (cm l) (cm l)=True:=by rw[zcz];exact eq_true (qu true false _)
def n5(l:List (List Int)):List PV:=l.map λx=>PV.sl x.length (ints x)
@[simp high] theorem zjb(h:bD)(d:Nat)(l:List (List Int)):(cm l).mapM (frz h d)=some (n5 l):=by rw[zcz];exact xd h d true false _
@[simp high] theorem zjc(h:bD)(d:Nat)(l:List (List Int)):(cm l).all (fF h d)=true:=by
 unfold cm;rw[List.all_map,gz];intro x _
 cases d<;>rfl
@[simp]theorem zjd(l:List (List Int)):(n5 l).length=l.length:=by simp[n5]
@[simp]theorem zje(l:List (List Int))(i:Nat)(h:i<l.length):fp (n5 l) i=.sl (nth l i).length (ints (nth l i)):=tQ (λx:List Int=>PV.sl x.length (ints x)) l i h
def C1(x:Rd)(i j:Nat):Int:=
 if j<x.bz.length/\nth (nth x.fit i) j=true then nth (nth x.wt i) j else if j=x.bz.length+i then dR (prio x i) else 1000000000000000
def tS(x:Rd)(i:Nat):List Int:=(List.range (x.bz.length+x.os.length)).map (C1 x i)
def kz(x:Rd)(n:Nat):List (List Int):=(List.range n).map (tS x)
theorem zgm(x:Rd)(n:Nat):kz x (n+1)=kz x n++[tS x n]:=by simp[kz,uV]
@[simp]theorem zec(x:Rd)(n:Nat):(kz x n).length=n:=by simp[kz]
@[simp]theorem zgn(x:Rd)(i:Nat):(tS x i).length=x.bz.length+x.os.length:=by simp[tS]
theorem zgo(x:Rd)(n:Nat):cm (kz x (n+1))=cm (kz x n)++[.w true false (.sl (x.bz.length+x.os.length) (ints (tS x n)))]:=by
 rw[zgm];simp[cm]
end Go.Proofs.YthpkmilhiganjaaGreat
namespace Go.Proofs.YthpkmilhiganjaaGreat
open Go Go.Fi
abbrev FS:=List Int×List Bool
def zih(x:Rd)(most:Int)(i k:Nat)(sn:List Bool):Bool:=!nth (nth x.fit i) k || nth sn k || decide (most<nth (nth x.wt i) k)
def zdv(rc:Nat->FS->Bool×FS)(x:Rd)(most:Int)(i:Nat):Nat->FS->Bool×FS
 |0,s=>(false,s)
 |m+1,s=>
  let k:=x.bz.length-(m+1)
  if zih x most i k s.2 then zdv rc x most i m s
  else if nth s.1 k<0 then (true,s.1.set k i,s.2.set k true)
  else if (rc (nth s.1 k).toNat (s.1,s.2.set k true)).1 then (true,(rc (nth s.1 k).toNat (s.1,s.2.set k true)).2.1.set k i,(rc (nth s.1 k).toNat (s.1,s.2.set k true)).2.2)
  else zdv rc x most i m (rc (nth s.1 k).toNat (s.1,s.2.set k true)).2
def zdw(x:Rd)(most:Int):Nat->Nat->FS->Bool×FS
 |0,_,s=>(false,s)
 |f+1,i,s=>zdv (zdw x most f) x most i x.bz.length s
def bL(sn:List Bool):Nat:=sn.countP λb=>!b
structure zcs(x:Rd)(s:FS):Prop where
 l1:s.1.length=x.bz.length
 l2:s.2.length=x.bz.length
 rg:∀k,k<x.bz.length->nth s.1 k=-1\/(0<=nth s.1 k/\nth s.1 k<(x.os.length:Int))
theorem ku{α:Type}[Inhabited α](l:List α)(i j:Nat)(v:α)(h:i<l.length):nth (l.set i v) j=if i=j then v else nth l j:=by
 unfold nth
 grind
theorem zc0:∀(l:List Bool)(k:Nat),k<l.length->nth l k=false->bL (l.set k true)+1=bL l
 |[],k,h,_=>absurd h ae
 |b::r,0,_,h=>by
  have:b=false:=h;subst this;simp[bL,List.countP_cons]
 |b::r,k+1,h,hb=>by
  have:=zc0 r k av hb;simp only[bL,List.set_cons_succ,List.countP_cons] at this ⊢;omega
structure zjv(x:Rd)(s t:FS):Prop where
 ok:zcs x t
 un:bL t.2<=bL s.2
theorem zcs.own{x:Rd}{s:FS}(h:zcs x s){i k:Nat}(hi:i<x.os.length)(hk:k<x.bz.length):zcs x (s.1.set k i,s.2):=
 ⟨by simpa using h.l1,h.l2,λj hj=>by
   show nth (s.1.set k i) j=-1\/_;rw[show nth (s.1.set k (i:Int)) j=if k=j then (i:Int) else nth s.1 j from ku _ _ _ _ (by rw[h.l1];exact hk)];split
   .omega
   .exact h.rg j hj⟩
def zct(x:Rd)(most:Int):Nat->List Int×Int
 |0=>(List.replicate x.bz.length (-1),0)
 |i+1=>
  ((zdw x most (x.bz.length+1) i ((zct x most i).1,List.replicate x.bz.length false)).2.1,
    if (zdw x most (x.bz.length+1) i ((zct x most i).1,List.replicate x.bz.length false)).1 then (zct x most i).2+1 else (zct x most i).2)
def kx(tk:List Int)(n:Nat):Nat->List Int
 |0=>List.replicate n (-1)
 |k+1=>if 0<=nth tk k then (kx tk n k).set (nth tk k).toNat k else kx tk n k
theorem zed(n:Nat):bL (List.replicate n false)=n:=by simp[bL,List.countP_replicate]
theorem C5(tk:List Int)(n:Nat):∀k,(kx tk n k).length=n
 |0=>by simp[kx]
 |k+1=>by
  unfold kx;split
  .rw[oM];exact C5 tk n k
  .exact C5 tk n k
structure ScS where
 sl:List Int
 ah:List Int
 least:Int
 next:Int
def nvS(C:Nat->Nat->Int)(u v:List Int)(i j:Nat):Int:=C i j-nth u i-nth v j
def bm(C:Nat->Nat->Int)(u v:List Int)(sn:List Bool)(i:Nat)(at_:Int)(sl ah:List Int):Nat->ScS
 |0=>⟨sl,ah,10000000000000000,-1⟩
 |k+1=>
  let s:=bm C u v sn i at_ sl ah k
  if nth sn k then s
  else
   let s1:ScS:=if nvS C u v i k<nth s.sl k then ⟨s.sl.set k (nvS C u v i k),s.ah.set k at_,s.least,s.next⟩ else s
   if nth s1.sl k<s1.least then ⟨s1.sl,s1.ah,nth s1.sl k,k⟩ else s1
def cC(sn:List Bool)(ow:List Int)(d:Int)(u v sl:List Int):Nat->List Int×List Int×List Int
 |0=>(u,v,sl)
 |k+1=>
  let s:=cC sn ow d u v sl k
  if nth sn k then (s.1.set (nth ow k).toNat (nth s.1 (nth ow k).toNat+d),s.2.1.set k (nth s.2.1 k-d),s.2.2)
  else (s.1,s.2.1,s.2.2.set k (nth s.2.2 k-d))
structure Ws where
 u:List Int
 v:List Int
 sl:List Int
 ah:List Int
 sn:List Bool
 at_:Int
 i:Nat
def bj(C:Nat->Nat->Int)(m:Nat)(w:Ws):ScS:=bm C w.u w.v w.sn w.i w.at_ w.sl w.ah m
def oc(C:Nat->Nat->Int)(m:Nat)(ow:List Int)(row:Nat)(w:Ws):List Int×List Int×List Int:=
 cC w.sn ow (bj C m w).least (w.u.set row (nth w.u row+(bj C m w).least)) w.v (bj C m w).sl m
def cH(C:Nat->Nat->Int)(m:Nat)(ow:List Int)(row:Nat)(w:Ws):Ws:=
 ⟨(oc C m ow row w).1,(oc C m ow row w).2.1,(oc C m ow row w).2.2,(bj C m w).ah,w.sn.set (bj C m w).next.toNat true,(bj C m w).next,(nth ow (bj C m w).next.toNat).toNat⟩
def Ak(C:Nat->Nat->Int)(m:Nat)(ow:List Int)(row:Nat):Nat->Ws->Ws
 |0,w=>w
 |f+1,w=>if nth ow (bj C m w).next.toNat<0 then cH C m ow row w else Ak C m ow row f (cH C m ow row w)
def kB(ah:List Int)(row:Nat):Nat->Int->List Int->List Int
 |0,_,ow=>ow
 |f+1,at_,ow=>if at_<0 then ow else kB ah row f (nth ah at_.toNat) (ow.set at_.toNat (if nth ah at_.toNat<0 then (row:Int) else nth ow (nth ah at_.toNat).toNat))
structure Hs where
 u:List Int
 v:List Int
 ow:List Int
def ws0(m:Nat)(s:Hs)(row:Nat):Ws:=⟨s.u,s.v,List.replicate m 10000000000000000,List.replicate m (-1),List.replicate m false,-1,row⟩
def qi(C:Nat->Nat->Int)(m:Nat)(s:Hs)(row:Nat):Ws:=Ak C m s.ow row (m+1) (ws0 m s row)
def C3(C:Nat->Nat->Int)(m:Nat)(s:Hs)(row:Nat):Hs:=
 ⟨(qi C m s row).u,(qi C m s row).v,kB (qi C m s row).ah row (m+1) (qi C m s row).at_ s.ow⟩
def qk(C:Nat->Nat->Int)(n m:Nat):Nat->Hs
 |0=>⟨List.replicate n 0,List.replicate m 0,List.replicate m (-1)⟩
 |r+1=>C3 C m (qk C n m r) r
structure fY(C:Nat->Nat->Int)(u v:List Int)(sn:List Bool)(i:Nat)(at_:Int)(sl ah:List Int)(k:Nat)(s:ScS):Prop where
 l1:s.sl.length=sl.length
 l2:s.ah.length=ah.length
 esl:∀j,nth s.sl j=if j<k/\nth sn j=false/\nvS C u v i j<nth sl j then nvS C u v i j else nth sl j
 eah:∀j,nth s.ah j=if j<k/\nth sn j=false/\nvS C u v i j<nth sl j then at_ else nth ah j
 lo:∀j,j<k->nth sn j=false->s.least<=nth s.sl j
 nx:(s.next=-1/\s.least=10000000000000000)\/(0<=s.next/\s.next<(k:Int)/\nth sn s.next.toNat=false/\s.least=nth s.sl s.next.toNat)
theorem zc1(C:Nat->Nat->Int)(u v:List Int)(sn:List Bool)(i:Nat)(at_:Int)(sl ah:List Int)(hl:ah.length=sl.length):∀k,k<=sl.length->fY C u v sn i at_ sl ah k (bm C u v sn i at_ sl ah k)
 |0,_=>⟨rfl,rfl,λj=>by rw[bH ab];rfl,λj=>by rw[bH ab];rfl,λj h=>absurd h ab,.inl ⟨rfl,rfl⟩⟩
 |k+1,hk=>by
  have ih:=zc1 C u v sn i at_ sl ah hl k ab;unfold bm;generalize bm C u v sn i at_ sl ah k=s at ih ⊢;dsimp only
  have c9:nth s.sl k=nth sl k:=by rw[ih.esl,bH ab]
  cases a6:nth sn k with
  |true=>
   simp only[cD]
   have e:∀(j:Nat)(p:Prop),(j<k+1/\nth sn j=false/\p)↔(j<k/\nth sn j=false/\p):=λj p=>by
    grind
   refine⟨ih.l1,ih.l2,λj=>?_,λj=>?_,λj hj hn=>?_,?_⟩
   .rw[ih.esl];simp only[e]
   .rw[ih.eah];simp only[e]
   .refine ih.lo j ?_ hn
    grind
   .rcases ih.nx with h|⟨h1,h2,h3⟩
    .exact .inl h
    grind
  |false=>
   simp only[dC,cP]
   have bh:k<s.sl.length:=by rw[ih.l1];omega
   have bu:k<s.ah.length:=by rw[ih.l2];omega
   have key:∀s1:ScS,s1=(if nvS C u v i k<nth s.sl k then (⟨s.sl.set k (nvS C u v i k),s.ah.set k at_,s.least,s.next⟩:ScS) else s) ->
    (s1.sl.length=sl.length/\s1.ah.length=ah.length/\(∀j,nth s1.sl j=if j<k+1/\nth sn j=false/\nvS C u v i j<nth sl j then nvS C u v i j else nth sl j) /\
      (∀j,nth s1.ah j=if j<k+1/\nth sn j=false/\nvS C u v i j<nth sl j then at_ else nth ah j)/\s1.least=s.least/\s1.next=s.next/\(∀j,j≠k->nth s1.sl j=nth s.sl j)):=by
    intro s1 ag
    have e:∀(j:Nat)(p:Prop),j≠k->((j<k+1/\nth sn j=false/\p)↔(j<k/\nth sn j=false/\p)):=λj p hx=>by
     grind
    by_cases h8:nvS C u v i k<nth s.sl k
    .rw[bX h8] at ag;subst ag;refine⟨by simpa using ih.l1,by simpa using ih.l2,λj=>?_,λj=>?_,rfl,rfl,λj hj=>?_⟩
     .dsimp only;rw[ku _ _ _ _ bh];split
      .simp_all
      .rename_i a';rw[ih.esl];grind
     .dsimp only;rw[ku _ _ _ _ bu];split
      .simp_all
      .rename_i a';rw[ih.eah];grind
     .dsimp only;rw[ku _ _ _ _ bh,bH (dZ hj)]
    .rw[bH h8] at ag;subst ag;refine⟨ih.l1,ih.l2,λj=>?_,λj=>?_,rfl,rfl,λj _=>rfl⟩
     .by_cases a':j=k
      .grind
      .rw[ih.esl];grind
     .by_cases a':j=k
      .subst a';rw[ih.eah,bH ab,bH];omega
      .rw[ih.eah];grind
   obtain⟨k1,k2,k3,k4,k5,k6,k7⟩:=key _ rfl;generalize (if nvS C u v i k<nth s.sl k then (⟨s.sl.set k (nvS C u v i k),s.ah.set k at_,s.least,s.next⟩:ScS) else s)=s1 at *;by_cases bb:nth s1.sl k<s1.least
   .rw[bX bb];refine⟨k1,k2,k3,k4,λj hj hn=>?_,.inr ⟨by dsimp only;omega,by dsimp only;omega,by simpa using a6,ae⟩⟩;dsimp only
    rcases SX.1 hj with h|rfl
    .have:=ih.lo j h hn;rw[k7 j ab];omega
    simp
   .rw[bH bb];refine⟨k1,k2,k3,k4,λj hj hn=>?_,?_⟩
    .rcases SX.1 hj with h|rfl
     .rw[k7 j ab,k5];exact ih.lo j h hn
     .omega
    .rw[k5,k6]
     rcases ih.nx with h|⟨h1,h2,h3,h4⟩
     .exact .inl h
     grind
structure zf7(sn:List Bool)(ow:List Int)(d:Int)(u v sl:List Int)(k:Nat)(t:List Int×List Int×List Int):Prop where
 l1:t.1.length=u.length
 l2:t.2.1.length=v.length
 l3:t.2.2.length=sl.length
 ut:∀l:Nat,(∃j,j<k/\nth sn j=true/\nth ow j=(l:Int))->nth t.1 l=nth u l+d
 uf:∀l:Nat,(¬∃j,j<k/\nth sn j=true/\nth ow j=(l:Int))->nth t.1 l=nth u l
 ev:∀j,nth t.2.1 j=if j<k/\nth sn j=true then nth v j-d else nth v j
 esl:∀j,nth t.2.2 j=if j<k/\nth sn j=false then nth sl j-d else nth sl j
theorem zc2(sn:List Bool)(ow:List Int)(d:Int)(u v sl:List Int)(bv:sl.length=v.length)(how:∀j,j<v.length->nth sn j=true->0<=nth ow j/\nth ow j<(u.length:Int))(fA:∀j k,j<v.length->k<v.length->0<=nth ow j->nth ow j=nth ow k->j=k):∀k,k<=v.length->zf7 sn ow d u v sl k (cC sn ow d u v sl k)
 |0,_=>⟨rfl,rfl,rfl,λl ⟨j,h,_⟩=>absurd h ab,λl _=>rfl,λj=>by rw[bH ab];rfl,λj=>by rw[bH ab];rfl⟩
 |k+1,hk=>by
  have ih:=zc2 sn ow d u v sl bv how fA k ab;unfold cC;generalize cC sn ow d u v sl k=s at ih ⊢;dsimp only
  cases a6:nth sn k with
  |true=>
   simp only[cD];obtain⟨h1,h2⟩:=how k ab a6
   have hu:(nth ow k).toNat<s.1.length:=by rw[ih.l1];omega
   have aw:¬∃j,j<k/\nth sn j=true/\nth ow j=((nth ow k).toNat:Int):=by
    grind
   refine⟨by simpa using ih.l1,by simpa using ih.l2,ih.l3,λl hl=>?_,λl hl=>?_,λj=>?_,λj=>?_⟩
   .dsimp only;rw[ku _ _ _ _ hu];split
    .rename_i e;subst e;rw[ih.uf _ aw]
    .rename_i e;refine ih.ut l ?_
     grind
   .dsimp only;rw[ku _ _ _ _ hu,bH]
    .exact ih.uf l λ⟨j,hj,hs,he⟩=>hl ⟨j,ab,hs,he⟩
    grind
   .dsimp only;rw[ku _ _ _ _ (by rw[ih.l2];omega)];by_cases e:k=j
    .subst e;rw[bX rfl,ih.ev,bH ab,bX ⟨ab,a6⟩]
    .rw[bH e,ih.ev j]
     grind
   .dsimp only;rw[ih.esl j]
    grind
  |false=>
   simp only[dC,cP];refine⟨ih.l1,ih.l2,by simpa using ih.l3,λl hl=>?_,λl hl=>?_,λj=>?_,λj=>?_⟩
   .refine ih.ut l ?_
    grind
   .exact ih.uf l λ⟨j,hj,hs,he⟩=>hl ⟨j,ab,hs,he⟩
   .dsimp only;rw[ih.ev j]
    grind
   .dsimp only;rw[ku _ _ _ _ (by rw[ih.l3];omega)];by_cases e:k=j
    .subst e;rw[bX rfl,ih.esl,bH ab,bX ⟨ab,a6⟩]
    .rw[bH e,ih.esl j]
     grind
structure Hp(C:Nat->Nat->Int)(n c:Nat):Prop where
 nn:n<=8
 cc:c<=8
 pr:∀i,i<n->0<=C i (c+i)/\C i (c+i)<=1000000000000
 ot:∀i l,i<n->l<n->l≠i->C i (c+l)=1000000000000000
 cr:∀i j,i<n->j<c->C i j=1000000000000000\/(0<=C i j/\C i j<=1000000000000)
theorem Hp.bd{C:Nat->Nat->Int}{n c:Nat}(h:Hp C n c){i j:Nat}(hi:i<n)(hj:j<c+n):0<=C i j/\C i j<=1000000000000000:=by
 by_cases hc:j<c
 .rcases h.cr i j hi hc with h|h<;>omega
 .obtain⟨l,rfl⟩:∃l,j=c+l:=⟨j-c,ab⟩;by_cases hl:l=i
  .subst hl;have:=h.pr l hi;omega
  .rw[h.ot i l hi ab hl];omega
theorem Hp.real{C:Nat->Nat->Int}{n c:Nat}(h:Hp C n c){i j:Nat}(hi:i<n)(hj:j<c+n)(hb:C i j<1000000000000000):j<c\/j=c+i:=by
 by_cases hc:j<c
 .exact .inl hc
 .obtain⟨l,rfl⟩:∃l,j=c+l:=⟨j-c,ab⟩;by_cases hl:l=i
  .omega
  .rw[h.ot i l hi ab hl] at hb;omega
structure MI(C:Nat->Nat->Int)(n c r:Nat)(u v ow:List Int):Prop where
 lu:u.length=n
 lv:v.length=c+n
 lo:ow.length=c+n
 hu:∀l,l<n->0<=nth u l
 hv:∀j,j<c+n->nth v j<=0
 hvz:∀j,j<c+n->nth ow j=-1->nth v j=0
 hvp:∀l,l<n->nth v (c+l)=0
 hf:∀l j,l<n->j<c+n->nth u l+nth v j<=C l j
 how:∀j,j<c+n->nth ow j=-1\/(0<=nth ow j/\nth ow j<(r:Int))
 fA:∀j k,j<c+n->k<c+n->0<=nth ow j->nth ow j=nth ow k->j=k
 ht:∀j,j<c+n->0<=nth ow j->nth u (nth ow j).toNat+nth v j=C (nth ow j).toNat j
 MS:∀l,l<r->∃j,j<c+n/\nth ow j=(l:Int)
section
variable{C:Nat->Nat->Int}{n c row:Nat}{u v ow:List Int}
theorem MI.ub(m:MI C n c row u v ow)(h:Hp C n c){l:Nat}(hl:l<n):nth u l<=1000000000000:=by
 have h1:=m.hf l (c+l) hl ab;have h2:=m.hvp l hl;have h3:=h.pr l hl;omega
theorem MI.vb(m:MI C n c row u v ow)(h:Hp C n c)(hr:row<=n){j:Nat}(hj:j<c+n):-1000000000000<=nth v j:=by
 rcases m.how j hj with h1|⟨h1,h2⟩
 .rw[m.hvz j hj h1];omega
 .have h3:=m.ht j hj h1;have h4:=m.ub h (l:=(nth ow j).toNat) ab;have h5:=(h.bd (i:=(nth ow j).toNat) (j:=j) ab hj).1;omega
theorem MI.own(m:MI C n c row u v ow)(h:Hp C n c)(hr:row<=n){j:Nat}(hj:j<c+n)(ho:0<=nth ow j):j<c\/j=c+(nth ow j).toNat:=by
 rcases m.how j hj with h1|⟨_,h2⟩
 .omega
 .refine h.real ab hj ?_;have h3:=m.ht j hj ho;have h4:=m.ub h (l:=(nth ow j).toNat) ab;have h5:=m.hv j hj;omega
end
def Tv(m row:Nat)(ow:List Int)(w:Ws)(l:Nat):Prop:=l=row\/∃j,j<m/\nth w.sn j=true/\nth ow j=(l:Int)
def Via(m row:Nat)(ow:List Int)(w:Ws)(j:Nat)(p:Nat->Prop):Prop:=
 (nth w.ah j=-1/\p row)\/(0<=nth w.ah j/\nth w.ah j<(m:Int)/\nth w.sn (nth w.ah j).toNat=true/\p (nth ow (nth w.ah j).toNat).toNat)
structure GI(C:Nat->Nat->Int)(n c row:Nat)(ow:List Int)(w:Ws):Prop where
 mi:MI C n c row w.u w.v ow
 ls:w.sl.length=c+n
 la:w.ah.length=c+n
 ln:w.sn.length=c+n
 hs:∀j,j<c+n->nth w.sn j=true->0<=nth ow j/\j<c
 hat:(w.at_=-1/\w.i=row/\∀j,j<c+n->nth w.sn j=false)\/(0<=w.at_/\w.at_<((c+n:Nat):Int)/\nth w.sn w.at_.toNat=true/\nth ow w.at_.toNat=(w.i:Int))
 h1:∀j,j<c+n->nth w.sn j=false->∀l,Tv (c+n) row ow w l->l≠w.i->nth w.sl j<=C l j-nth w.u l-nth w.v j
 h2:∀j,j<c+n->nth w.sn j=false->(nth w.sl j=10000000000000000/\w.at_=-1)\/Via (c+n) row ow w j λl=>nth w.sl j=C l j-nth w.u l-nth w.v j
 pth:∀j,j<c+n->nth w.sn j=true->Via (c+n) row ow w j λl=>nth w.u l+nth w.v j=C l j
 rk:∃rk:Nat->Nat,(∀j,j<c+n->nth w.sn j=true->rk j+bL w.sn<c+n)/\∀j,j<c+n->nth w.sn j=true->0<=nth w.ah j->rk (nth w.ah j).toNat<rk j
theorem GI.ib{C:Nat->Nat->Int}{n c row:Nat}{ow:List Int}{w:Ws}(g:GI C n c row ow w)(hr:row<n):w.i<n:=by
 rcases g.hat with ⟨_,h,_⟩|⟨h1,h2,h3,h4⟩
 .omega
 .rcases g.mi.how w.at_.toNat ab with h|h<;>omega
theorem GI.tvi{C:Nat->Nat->Int}{n c row:Nat}{ow:List Int}{w:Ws}(g:GI C n c row ow w):Tv (c+n) row ow w w.i:=by
 rcases g.hat with ⟨_,h,_⟩|⟨h1,h2,h3,h4⟩
 .exact .inl h
 .exact .inr ⟨_,ab,h3,h4⟩
theorem GI.tvn{C:Nat->Nat->Int}{n c row:Nat}{ow:List Int}{w:Ws}(g:GI C n c row ow w)(hr:row<n){l:Nat}(h:Tv (c+n) row ow w l):l<n:=by
 rcases h with rfl|⟨j,h1,h2,h3⟩
 .exact hr
 .rcases g.mi.how j h1 with h|h<;>omega
structure zdx(C:Nat->Nat->Int)(n c row:Nat)(ow:List Int)(w:Ws)(s:ScS):Prop where
 ok:fY C w.u w.v w.sn w.i w.at_ w.sl w.ah (c+n) s
 nx0:0<=s.next
 nx1:s.next<((c+n:Nat):Int)
 nx2:nth w.sn s.next.toNat=false
 d0:0<=s.least
 d1:s.least<=1000000000000
 dn:s.least=nth s.sl s.next.toNat
 lo:∀j,j<c+n->nth w.sn j=false->∀l,Tv (c+n) row ow w l->nth s.sl j<=C l j-nth w.u l-nth w.v j
 via:∀j,j<c+n->nth w.sn j=false->(nth s.ah j=-1/\nth s.sl j=C row j-nth w.u row-nth w.v j)\/(0<=nth s.ah j/\nth s.ah j<((c+n:Nat):Int)/\nth w.sn (nth s.ah j).toNat=true/\nth s.sl j=C (nth ow (nth s.ah j).toNat).toNat j-nth w.u (nth ow (nth s.ah j).toNat).toNat-nth w.v j)
 old:∀j,nth w.sn j=true->nth s.ah j=nth w.ah j
 car:s.next.toNat<c\/nth ow s.next.toNat=-1
theorem RR{C:Nat->Nat->Int}{n c row:Nat}{ow:List Int}{w:Ws}(hp:Hp C n c)(hr:row<n)(g:GI C n c row ow w):zdx C n c row ow w (bj C (c+n) w):=by
 have ok:=zc1 C w.u w.v w.sn w.i w.at_ w.sl w.ah (by rw[g.la,g.ls]) (c+n) (by rw[g.ls];omega);have hi:=g.ib hr;show zdx C n c row ow w (bm C w.u w.v w.sn w.i w.at_ w.sl w.ah (c+n));generalize bm C w.u w.v w.sn w.i w.at_ w.sl w.ah (c+n)=s at ok ⊢
 have lo:∀j,j<c+n->nth w.sn j=false->∀l,Tv (c+n) row ow w l->nth s.sl j<=C l j-nth w.u l-nth w.v j:=λj hj hn l hl=>by
  have e:=ok.esl j;by_cases bf:l=w.i
  .subst bf;by_cases h8:nvS C w.u w.v w.i j<nth w.sl j
   .rw[bX ⟨hj,hn,h8⟩] at e;unfold nvS at e;omega
   .rw[bH (λh=>h8 h.2.2)] at e;unfold nvS at h8;omega
  .have:=g.h1 j hj hn l hl bf;omega
 have nvb:∀j,j<c+n->nvS C w.u w.v w.i j<10000000000000000:=λj hj=>by
  have h1:=(hp.bd hi hj).2;have h2:=g.mi.hu w.i hi;have h3:=g.mi.vb hp ab hj;unfold nvS;omega
 have via:∀j,j<c+n->nth w.sn j=false->(nth s.ah j=-1/\nth s.sl j=C row j-nth w.u row-nth w.v j)\/(0<=nth s.ah j/\nth s.ah j<((c+n:Nat):Int)/\nth w.sn (nth s.ah j).toNat=true/\nth s.sl j=C (nth ow (nth s.ah j).toNat).toNat j-nth w.u (nth ow (nth s.ah j).toNat).toNat-nth w.v j):=λj hj hn=>by
  have e1:=ok.esl j;have e2:=ok.eah j;by_cases h8:nvS C w.u w.v w.i j<nth w.sl j
  .rw[bX ⟨hj,hn,h8⟩] at e1 e2;unfold nvS at e1;rw[e1,e2]
   rcases g.hat with ⟨h1,h2,_⟩|⟨h1,h2,h3,h4⟩
   .left;rw[h1,h2];exact⟨rfl,rfl⟩
   simp_all
  .rw[bH (λh=>h8 h.2.2)] at e1 e2;rw[e1,e2]
   rcases g.h2 j hj hn with ⟨h1,_⟩|h
   .simp_all
   .exact h
 have own:nth w.sn (c+w.i)=false:=by
  cases h:nth w.sn (c+w.i) with
  |false=>rfl
  |true=>have:=(g.hs _ ab h).2;omega
 have ax:nth s.sl (c+w.i)<=1000000000000:=by
  have h1:=lo (c+w.i) ab own w.i g.tvi;have h2:=hp.pr w.i hi;have h3:=g.mi.hu w.i hi;have h4:=g.mi.hvp w.i hi;omega
 have bo:s.least<=1000000000000:=Int.le_trans (ok.lo (c+w.i) ab own) ax;obtain⟨n0,n1,n2,n3⟩:=ok.nx.resolve_left (λh=>by have:=h.2;omega)
 have h8:s.next.toNat<c+n:=ab
 have c3:=via _ h8 n2
 have c4:∃l,Tv (c+n) row ow w l/\nth s.sl s.next.toNat=C l s.next.toNat-nth w.u l-nth w.v s.next.toNat:=by
  rcases c3 with ⟨_,h⟩|⟨h1,h2,h3,h4⟩
  .exact⟨row,.inl rfl,h⟩
  .have:=(g.hs _ ab h3).1;exact⟨_,.inr ⟨(nth s.ah s.next.toNat).toNat,ab,h3,ab⟩,h4⟩
 obtain⟨l,hl,he⟩:=c4;have aq:=g.tvn hr hl;have c7:=g.mi.hf l _ aq h8;have cf:=g.mi.ub hp aq;have ck:=g.mi.hv _ h8;refine⟨ok,n0,n1,n2,ab,bo,n3,lo,via,λj hj=>?_,?_⟩
 .rw[ok.eah,bH];simp_all
 .rcases hp.real aq h8 ab with h|h
  .exact .inl h
  .right
   rcases g.mi.how _ h8 with h1|⟨h1,h2⟩
   .exact h1
   .exfalso
    rcases g.mi.own hp ab h8 h1 with h3|h3
    .omega
    .have h4:(nth ow s.next.toNat).toNat=l:=ab
     rcases hl with rfl|⟨j,bq,b',c8⟩
     .omega
     .have:=g.mi.fA _ _ h8 bq h1 ab;rw[this] at n2;rw[n2] at b';cases b'
end Go.Proofs.YthpkmilhiganjaaGreat
