/- Lemmas. -/
import Derived.Test.YthpkmilhiganjaaGreatPDb
import Derived.Test.YthpkmilhiganjaaGreatPLg
set_option linter.all false
set_option maxHeartbeats 32000000
set_option maxRecDepth 100000
namespace Go.Proofs.YthpkmilhiganjaaGreat
open Go Go.Fi
noncomputable instance instLD14:av:=LD
theorem zfg(r:Tw.RND):(aj r).fit.length=(aj r).os.length:=by simp[aj]
theorem zfh(r:Tw.RND)(i:Nat):(Tw.lE r i).length=r.ab.length:=by
 simp[Tw.lE,Tw.Cv,Tw.jE,Tw.odR]
theorem zfi(r:Tw.RND)(i:Nat)(h:i<(aj r).os.length):(nth (aj r).fit i).length=(aj r).ab.length:=by
 have hi:i<r.os.length:=h;simp only[aj,nth,bS,gD,sI hi,du,gk];exact zfh r i
theorem P2{α:Type}[Inhabited α]{E:Nat->α->Int}:∀{l:List α}{k:Nat},(dk E l k).2=0->∀j,j<l.length->E (k+j) (nth l j)=0
 |[],k,_,j,hj=>absurd hj (by simp)
 |x::r,k,h,j,hj=>by
  unfold dk at h;by_cases he:E k x=0
  .rw[aB he] at h
   cases j with
   |zero=>exact he
   |succ j=>
    have:=P2 h j (by simpa using hj);rw[show k+(j+1)=k+1+j by omega];exact this
  .rw[ar he] at h;exact absurd h he
theorem P3{α:Type}[Inhabited α]{nm:α->ByteArray}{mr:α->Int}{l:List α}:∀{r:List α}{k:Nat},(fq nm mr l r k).2=0->∀j,j<r.length->g7 nm mr l (k+j) (nth r j)=0
 |[],k,_,j,hj=>absurd hj (by simp)
 |x::r,k,h,j,hj=>by
  unfold fq at h;by_cases he:g7 nm mr l k x=0
  .rw[aB he] at h
   cases j with
   |zero=>exact he
   |succ j=>
    have:=P3 h j (by simpa using hj);rw[show k+(j+1)=k+1+j by omega];exact this
  .rw[ar he] at h;exact absurd h he
theorem eZ{e:Int}{r:List Int}(h:cX (e::r)=0):e=0/\cX r=0:=by
 unfold cX at h;split at h
 .rename_i he;exact⟨he,h⟩
 .rename_i he;exact absurd h he
theorem qi{b:Bool}{e:Int}(he:e≠0)(h:ba b e=0):b=true:=by
 unfold ba at h
 cases b with
 |true=>rfl
 |false=>exact absurd h he
theorem kQ{n lo hi:Int}:aU n lo hi=true↔lo<=n/\n<=hi:=by simp[aU]
theorem not_true{b:Bool}(h:(!b)=true):b=false:=by cases b<;>simp_all
structure ku(x:Rd):Prop where
 lc:x.ab.length<=8
 lo:x.os.length<=8
 lw:x.wt.length=x.os.length
 lz:x.zs.length<=64
 lf:x.fit.length=x.os.length
 fr:∀i,i<x.os.length->(nth x.fit i).length=x.ab.length
 wr:∀i,i<x.os.length->(nth x.wt i).length=x.ab.length
 wn:∀i,i<x.os.length->∀k,k<x.ab.length->0<=nth (nth x.wt i) k/\nth (nth x.wt i) k<=100000
 sc:∀k,k<x.ab.length->1<=(nth x.ab k).2.1/\(nth x.ab k).2.1<=8
 so:∀i,i<x.os.length->1<=(nth x.os i).2.1/\(nth x.os i).2.1<=8
 pr:∀i,i<x.os.length->0<=(nth x.os i).2.2.2/\(nth x.os i).2.2.2<=6
 nc:∀k,k<x.ab.length->fF (nth x.ab k).1=true/\((x.ab.take k).any λy=>decide (y.1=(nth x.ab k).1))=false
 no:∀k,k<x.os.length->fF (nth x.os k).1=true/\((x.os.take k).any λy=>decide (y.1=(nth x.os k).1))=false
 zr:∀j,j<x.zs.length->(0<=(nth x.zs j).1/\(nth x.zs j).1<=(x.os.length:Int)-1)/\(0<=(nth x.zs j).2/\(nth x.zs j).2<=(x.ab.length:Int)-1)
theorem oc(r:Tw.RND)(h:ceR r=0):ku (aj r):=by
 unfold ceR g9 at h;split at h
 .simp at h
 rename_i g1;split at h
 .rename_i h2;exact absurd h h2
 rename_i g2;split at h
 .simp at h
 rename_i g3;split at h
 .rename_i h2;exact absurd h h2
 rename_i g4;split at h
 .simp at h
 rename_i g5;have a6:=Br h
 have hw:(dk (λ_=>gj r.ab.length) r.wt 0).2=0:=by
  unfold fU at h;split at h
  .rename_i h1;exact absurd h h1
  .rename_i h1;simpa using h1
 rw[a6] at h;unfold g8 at h;split at h
 .simp at h
 rename_i g6;have bk:(fq Prod.fst fG r.ab r.ab 0).2=0:=oz.1 g2;have bl:(fq Prod.fst eH r.os r.os 0).2=0:=oz.1 g4
 have C:=λj hj=>P3 bk j hj
 have O:=λj hj=>P3 bl j hj
 have W:=λj hj=>P2 hw j hj
 have Z:=λj hj=>P2 h j hj
 simp only[cY] at C O W Z
 have hx:r.wt.length=r.os.length:=by omega
 have wait:∀i,i<r.os.length->(nth r.wt i).length=r.ab.length/\((nth r.wt i).any λx=>!aU x 0 100000)=false:=λi hi=>by
  have:=W i (by omega);unfold gj at this;obtain⟨w1,w2⟩:=eZ this;obtain⟨w2,_⟩:=eZ w2;refine⟨?_,?_⟩
  .have:=qi (by decide) w1;have:=of_decide_eq_true this;omega
  .simpa using qi (by decide) w2
 refine⟨by show r.ab.length<=8;omega,by show r.os.length<=8;omega,hx,by show r.zs.length<=64;omega,zfg r,zfi r,λi hi=>(wait i hi).1,λi hi k hk=>?_,λk hk=>?_,λi hi=>?_,λi hi=>?_,λk hk=>?_,λk hk=>?_,λj hj=>?_⟩
 .obtain⟨w1,w2⟩:=wait i hi
  have c2:k<(nth r.wt i).length:=by rw[w1];exact hk
  have hm:=eJ c2;have:=mY.1 w2 _ hm;have:=kQ.1 (by simpa using this);exact this
 .have:=C k hk;obtain⟨_,n2⟩:=eZ this;obtain⟨_,n3⟩:=eZ n2;obtain⟨n4,_⟩:=eZ n3;exact kQ.1 (qi (by decide) n4)
 .have:=O i hi;obtain⟨_,n2⟩:=eZ this;obtain⟨_,n3⟩:=eZ n2;obtain⟨n4,_⟩:=eZ n3;have:=qi (by decide) n4;rw[bU] at this;exact kQ.1 this.1
 .have:=O i hi;obtain⟨_,n2⟩:=eZ this;obtain⟨_,n3⟩:=eZ n2;obtain⟨n4,_⟩:=eZ n3;have:=qi (by decide) n4;rw[bU] at this;exact kQ.1 this.2
 .have:=C k hk;obtain⟨n1,n2⟩:=eZ this;obtain⟨n2,_⟩:=eZ n2;exact⟨qi (by decide) n1,not_true (qi (by decide) n2)⟩
 .have:=O k hk;obtain⟨n1,n2⟩:=eZ this;obtain⟨n2,_⟩:=eZ n2;exact⟨qi (by decide) n1,not_true (qi (by decide) n2)⟩
 .have:=Z j hj;unfold jJ at this;obtain⟨n1,_⟩:=eZ this;have:=qi (by decide) n1;rw[bU] at this;exact⟨kQ.1 this.1,kQ.1 this.2⟩
end Go.Proofs.YthpkmilhiganjaaGreat
namespace Go.Proofs.YthpkmilhiganjaaGreat
open Go Go.Fi
variable[av]
def mK(row:List Bool)(w p:List Int)(m0:Int):Nat->Int
 |0=>m0
 |k+1=>if nth row k then (if nth w k+nth p k<mK row w p m0 k then nth w k+nth p k else mK row w p m0 k) else mK row w p m0 k
@[simp]theorem zh2(row:List Bool)(w p:List Int)(m0:Int):mK row w p m0 0=m0:=rfl
def kH(x:Rd)(i:Nat)(p:List Int):Int:=mK (nth x.fit i) (nth x.wt i) p (bw (nth x.os i).2.2.2.toNat) (nth x.fit i).length
theorem zfj(x:Rd)(i:Nat)(p:List Int)(hi:i<x.os.length)(hc:x.ab.length<100000)(a':i<x.fit.length)(b7:i<x.wt.length)(hr:(nth x.fit i).length=x.ab.length)(b9:(nth x.wt i).length=x.ab.length)(b6:p.length=x.ab.length)(a5:0<=(nth x.os i).2.2.2/\(nth x.os i).2.2.2<=6)(hw:∀k,k<x.ab.length->0<=nth (nth x.wt i) k/\nth (nth x.wt i) k<=100000)(hp:∀k,k<x.ab.length->-100000000000000<=nth p k/\nth p k<=100000000000000):aC Tz.prog 73 [x.pv,.int .i64 i,.sl p.length (ints p)] (.int .i64 (kH x i p)) true:=by
 obtain⟨ab,os,wt,zs,fit⟩:=x;unfold Rd.pv kH;simp only[] at hi hc a' b7 hr b9 b6 a5 hw hp ⊢;generalize hq:(nth os i).2.2.2=q at a5 ⊢;obtain⟨u,rfl⟩:∃u:Nat,q=u:=⟨q.toNat,by omega⟩;have c1:=sw u (by omega);simp only[bT];generalize bw u=m0 at c1 ⊢;have kw:=keep hw;have kp:=keep hp;have kr:=keep hr;have kwr:=keep b9;have kpl:=keep b6;have kc:=keep hc;clear hw hp hr b9 b6 a5 hc;refine rcK Tz.func73 ?_;simp only[Tryz.results73,Tryz.ntmps73]
 repeat' first|(with_reducible first|apply ai|apply af|refine And.intro ?_ ?_|refine cw (c1) ?_|intro _)|(simp[*,hi,a',hq])|(refine ae (c1) ?_ ?_;(· (simp[*];done)))
 all_goals first
  |omega
  |skip
 refine bQ (λ(k:Nat)=>k<=(nth fit i).length) [0,1,2,26,27] (λ(k:Nat)=>[(28,.w false false (.int .i64 k)),(7,.w false false (.int .i64 (mK (nth fit i) (nth wt i) p m0 k)))]) [] (λ(k:Nat)=>[]) (λ(k:Nat)=>(nth fit i).length-k) (λ(_u:Unit)=>True) [] (λ(_u:Unit)=>[(7,.w false false (.int .i64 (mK (nth fit i) (nth wt i) p m0 (nth fit i).length)))]) [] (λ(_u:Unit)=>[]) (0) (aK _) (by simp) (by simp) (λk hk=>?_) (λ_u hf=>?_)
 .have c3:=hk;by_cases h8:k<(nth fit i).length
  .have aq:k<ab.length:=by have:=kr;unfold aN at this;omega
   have hx:k<(nth wt i).length:=by have:=kwr;unfold aN at this;omega
   have bi:k<p.length:=by have:=kpl;unfold aN at this;omega
   have bm:ab.length<100000:=kc;obtain⟨w1,w2⟩:=kw k aq;obtain⟨p1,p2⟩:=kp k aq;have c6:(nth fit i).length=ab.length:=kr
   have hz:k+1<=(nth fit i).length:=by omega
   have cp:(nth fit i).length-(k+1)<(nth fit i).length-k:=by omega
   have hy:inI .i64 ((k:Int)+1):=aG (by omega) (by omega);have hg:inI .i64 (nth (nth wt i) k+nth p k):=aG (by omega) (by omega)
   have em:mK (nth fit i) (nth wt i) p m0 (k+1)=if nth (nth fit i) k then (if nth (nth wt i) k+nth p k<mK (nth fit i) (nth wt i) p m0 k then nth (nth wt i) k+nth p k else mK (nth fit i) (nth wt i) p m0 k) else mK (nth fit i) (nth wt i) p m0 k:=rfl
   clear w1 w2 p1 p2 c6 bm c3 aq
   cases hb:nth (nth fit i) k with
   |true=>
    rw[hb] at em;simp only[aX] at em
    repeat' first|(with_reducible first|apply ai|apply aF|apply au|apply af|refine aQ (id:=6) 18 mixed (by decide +kernel) ?_|apply al|intro _)|(simp[*,h8,hi,a',b7,hx,bi,hb,hy,hg])
    all_goals first
     |omega
     |assumption
     |(refine nx (k+1) ?_ ?_;(· exact hz);(refine aD ?_ ?_<;>first|trivial|(simp[*,em];done)))
   |false=>
    rw[hb] at em;simp only[bI,a9] at em
    repeat' first|(with_reducible first|apply ai|apply aF|apply au|apply af|apply al|intro _)|(simp[*,h8,hi,a',b7,hx,bi,hb,hy,hg])
    all_goals first
     |omega
     |assumption
     |(refine nx (k+1) ?_ ?_;(· exact hz);(refine aD ?_ ?_<;>first|trivial|(simp[*,em];done)))
  .have a7:k=(nth fit i).length:=by omega
   subst a7
   repeat' first|(with_reducible first|apply ai|apply aL|apply af|apply al|intro _)|(simp[*])
   all_goals first
    |omega
    |(refine aZ () ?_ ?_;(· trivial);(refine aD ?_ ?_<;>first|trivial|(simp[*];done)))
 .repeat' first|(with_reducible first|apply ai|apply az|apply af|intro _)|(simp[*])
end Go.Proofs.YthpkmilhiganjaaGreat
namespace Go.Proofs.YthpkmilhiganjaaGreat
open Go Go.Fi
noncomputable instance instLD19:av:=LD
def lp(l:List Int):Nat->Int
 |0=>0
 |k+1=>lp l k+nth l k
@[simp]theorem zhc(l:List Int):lp l 0=0:=rfl
end Go.Proofs.YthpkmilhiganjaaGreat
namespace Go.Proofs.YthpkmilhiganjaaGreat
open Go Go.Fi
variable[av]
def prio(x:Rd)(i:Nat):Nat:=(nth x.os i).2.2.2.toNat
def kx(x:Rd):Nat->Int
 |0=>0
 |k+1=>kx x k+bw (prio x k)
@[simp]theorem zhd(x:Rd):kx x 0=0:=rfl
def C5(x:Rd)(i:Nat)(k:Int):Int:=nth (nth x.wt i) k.toNat
def eM(x:Rd)(plan:List Int):Nat->Int
 |0=>kx x x.os.length
 |k+1=>if nth plan k=-1 then eM x plan k else eM x plan k+(C5 x k (nth plan k)-bw (prio x k))
def eQ(x:Rd)(plan:List Int):Int:=eM x plan plan.length
structure zce(x:Rd)(plan:List Int):Prop where
 len:plan.length=x.os.length
 at_:∀k,k<plan.length->nth plan k=-1\/(0<=nth plan k/\nth plan k<(x.ab.length:Int))
theorem D4(x:Rd)(ok:ku x)(i:Nat)(h:i<x.os.length):prio x i<=6/\((prio x i:Nat):Int)=(nth x.os i).2.2.2:=by
 have:=ok.pr i h;unfold prio;omega
theorem zcj(x:Rd)(ok:ku x):∀k,k<=x.os.length->0<=kx x k/\kx x k<=1000000000000*(k:Int)
 |0,_=>⟨mZ _,by simp⟩
 |k+1,h=>by
  have:=zcj x ok k (by omega);have:=nz (prio x k) (D4 x ok k (by omega)).1;unfold kx;omega
theorem zdl(x:Rd)(ok:ku x)(plan:List Int)(hp:zce x plan):∀k,k<=plan.length->-(1000000000000*(k:Int))<=eM x plan k/\eM x plan k<=8000000000000+100000*(k:Int)
 |0,_=>by
  have:=zcj x ok x.os.length (aE _);have:=ok.lo;unfold eM;omega
 |k+1,h=>by
  have hk:k<x.os.length:=by have:=hp.len;omega
  have h1:=zdl x ok plan hp k (by omega);have h2:=nz (prio x k) (D4 x ok k hk).1;unfold eM;split
  .omega
  .rename_i a4;have h3:=(hp.at_ k (by omega)).resolve_left a4;have h4:=ok.wn k hk (nth plan k).toNat (by omega);unfold C5;omega
theorem zfk(x:Rd)(ok:ku x)(plan:List Int)(hp:zce x plan):aC Tz.prog 78 [x.pv,.sl plan.length (ints plan)] (.int .i64 (eQ x plan)) true:=by
 have b1:=zcj x ok;have b2:=zdl x ok plan hp
 have b3:=λi hi=>D4 x ok i hi
 have b4:=ok.wn;have b5:=ok.wr;have lo:=ok.lo;have lw:=ok.lw;have hl:=hp.len;have ha:=hp.at_;have eC:eQ x plan=eM x plan plan.length:=rfl;have e0:eM x plan 0=kx x x.os.length:=rfl
 have eS:∀k,eM x plan (k+1)=if nth plan k=-1 then eM x plan k else eM x plan k+(C5 x k (nth plan k)-bw (prio x k)):=λ_=>rfl
 have eP:∀k,kx x (k+1)=kx x k+bw (prio x k):=λ_=>rfl
 unfold C5 at eS;rw[eC];generalize hCK:eM x plan=CK at *;generalize hPK:kx x=PK at *;generalize a5:prio x=pr at *
 have bj:PK 0=0:=by rw[<-hPK];rfl
 clear hCK hPK eC hp
 have h9:∀i,pr i=(nth x.os i).2.2.2.toNat:=λi=>by rw[<-a5];rfl
 clear a5 ok;obtain⟨ab,os,wt,zs,fit⟩:=x;unfold Rd.pv;simp only[] at b1 b2 b3 b4 b5 lo lw hl ha e0 eS eP h9 ⊢;have kk:=keep (And.intro b1 (And.intro b2 (And.intro b3 (And.intro b4 (And.intro b5 (And.intro lo (And.intro lw (And.intro hl (And.intro ha (And.intro e0 (And.intro eS (And.intro eP h9))))))))))));clear b1 b2 b3 b4 b5 lo lw hl ha e0 eS eP h9;refine oO Tz.func78 (by kernel_rfl) rfl (di (by kernel_rfl)) ?_;simp only[Tryz.results78,Tryz.ntmps78];refine cP (cO ?_)
 repeat' first|(with_reducible first|apply af|intro _)|(simp[*])
 refine cP (cO ?_)
 repeat' first|(with_reducible first|apply af|intro _)|(simp[*])
 refine cP (cO ?_)
 repeat' first|(with_reducible first|apply ai|apply af|intro _)|(simp[*])
 refine df 2 (λ(k:Nat)=>k<=os.length) [1,2,5,14,15] (λ(k:Nat)=>[(16,.w false false (.int .i64 k))]) [0] (λ(k:Nat)=>[(1,[.w false false (.int .i64 (PK k))])]) (λ(k:Nat)=>os.length-k) (λ(_u:Unit)=>True) [1,2,5] (λ(_u:Unit)=>[]) [0] (λ(_u:Unit)=>[(1,[.w false false (.int .i64 (PK os.length))])]) (0) (aK _) (aO [] (by simp[bj]) (by simp[bj])) (λk hk=>?_) (λ_u hf=>?_)
 .by_cases h8:k<os.length
  .obtain⟨b1,b2,b3,b4,b5,lo,lw,hl,ha,e0,eS,eP,h9⟩:=kk;have h1:=b3 k h8;have h2:=b1 k hk;have h3:=nz (pr k) h1.1;have c1:=sw (pr k) h1.1;have h4:=eP k;have h6:(nth os k).2.2.2=((pr k:Nat):Int):=h1.2.symm;have hy:inI .i64 (PK k+bw (pr k)):=aG (by omega) (by omega);have hg:inI .i64 ((k:Int)+1):=aG (by omega) (by omega)
   have hz:k+1<=os.length:=by omega
   generalize bw (pr k)=pp at *;clear b1 b2 b3 b4 b5 lo lw hl ha e0 eS eP h9 h2 h3 h1
   repeat' first|(with_reducible first|apply ai|apply aF|apply au|apply af|refine aQ (id:=5) 5 mixed (by decide +kernel) ?_|apply al|refine And.intro ?_ ?_|refine cw (c1) ?_|intro _)|(simp[*,h8,hy,hg,h6,Tw.cg])|(refine ae (c1) ?_ ?_;(· (simp[*];done)))
   all_goals first
    |omega
    |assumption
    |(refine nx (k+1) ?_ ?_;(· exact hz);(refine aO [] ?_ ?_<;>first|trivial|(simp[*,h4];done)))
  .have a7:k=os.length:=by omega
   subst a7
   repeat' first|(with_reducible first|apply ai|apply aL|apply af|apply al|intro _)|(simp[*,h8])
   all_goals first
    |omega
    |(refine aZ () ?_ ?_;(· trivial);(refine aD ?_ ?_<;>first|trivial|(simp[*];done)))
 .refine cP (cP (cO ?_));have cs:=xd ⟨ab,os,wt,zs,fit⟩ plan;unfold Rd.pv at cs;simp only[] at cs
  repeat' first|(with_reducible first|apply af|refine And.intro ?_ ?_|refine cw (cs) ?_|intro _)|(simp[*])|(refine ae (cs) ?_ ?_;(· (simp[*];done)))
  clear cs;refine l8 (ry (gf:=122) (aH:=[.w false false (.ip [.sl plan.length (ints plan)] 0),.w false false (.ip [.ip [.sl ab.length (aS ab),.sl os.length (aR os),.sl wt.length (a8 wt),.sl zs.length (aT zs),.sl fit.length (lJ fit)] 0] 0)]) ?_ Tz.func122 (by kernel_rfl) rfl (di (by kernel_rfl)) (λl=>?_))
  .rfl
  simp only[Tryz.results122,Tryz.ntmps122];simp
  repeat' first|(with_reducible first|apply ai|apply af|intro _)|(simp[*])
  all_goals try first|exact aG (by omega) (by omega)|omega
  have e0:CK 0=PK os.length:=kk.2.2.2.2.2.2.2.2.2.1;refine df 2 (λ(k:Nat)=>k<=plan.length) [0,2,6,7] (λ(k:Nat)=>[(8,.w false false (.int .i64 k))]) [0] (λ(k:Nat)=>[(1,[.w false false (.int .i64 (CK k))])]) (λ(k:Nat)=>plan.length-k) (λ(_u:Unit)=>True) [] (λ(_u:Unit)=>[]) [0] (λ(_u:Unit)=>[(1,[.w false false (.int .i64 (CK plan.length))])]) (0) (aK _) (aO [] (by simp[e0]) (by simp[e0])) (λk hk=>?_) (λ_u hf=>?_)
  .clear e0;by_cases h8:k<plan.length
   .obtain⟨b1,b2,b3,b4,b5,lo,lw,hl,ha,e0,eS,eP,h9⟩:=kk
    have aa:k<os.length:=by omega
    have hx:k<wt.length:=by omega
    have bf:(k:Int)<8:=by omega
    have h1:=b3 k aa;have h2:=b2 k hk;have b':=b2 (k+1) (by omega);have h3:=nz (pr k) h1.1;have c1:=sw (pr k) h1.1;have h4:=eS k;have h6:(nth os k).2.2.2=((pr k:Nat):Int):=h1.2.symm;have hn:=ha k h8;have hr:=b5 k aa;have hw:=b4 k aa;have hg:inI .i64 ((k:Int)+1):=aG (by omega) (by omega)
    have hz:k+1<=plan.length:=by omega
    clear b1 b2 b3 b4 b5 lo lw hl ha e0 eS eP h9;generalize hq:nth plan k=q at *
    rcases hn with hn|hn
    .rw[aB hn] at h4;subst hn;clear h1 h2 b' h3 c1 hr hw h6 bf
     repeat' first|(with_reducible first|refine mf (id:=3) 16 ?_ ?_|apply ai|apply aF|apply au|apply af|apply al|intro _)|(simp[*,h8,hq,hg])
     all_goals first
      |omega
      |assumption
      |(refine nx (k+1) ?_ ?_;(· exact hz);(refine aO [] ?_ ?_<;>first|trivial|(simp[*,h4];done)))
    .have a4:¬q=-1:=by omega
     obtain⟨m,rfl⟩:∃m:Nat,q=m:=⟨q.toNat,by omega⟩;rw[ar a4] at h4
     have hm:m<(nth wt k).length:=by omega
     have c9:=hw m (by omega);simp only[bT] at h4;generalize bw (pr k)=pp at *;generalize cf:nth (nth wt k) m=W at *
     have hy:inI .i64 (CK k+(W-pp)):=by rw[<-h4];exact aG (by omega) (by omega)
     have bq:inI .i64 (W-pp):=aG (by omega) (by omega);clear h1 h2 b' h3 hr hw hn c9 bf
     repeat' first|(with_reducible first|refine mf (id:=3) 16 ?_ ?_|apply ai|apply aF|apply au|apply af|apply al|intro _)|(simp[*,h8,hx,hq,hg,a4,hm])
     all_goals try first|omega|assumption
     refine rC rfl (by simp) ?_
     repeat' first|(with_reducible first|apply ai|apply iV|apply af|refine aQ (id:=10) 14 mixed (by decide +kernel) ?_|refine And.intro ?_ ?_|refine cw (c1) ?_|intro _)|(simp[*,aa,h6,hy,bq,cf])|(refine ae (c1) ?_ ?_;(· (simp[*];done)))
     all_goals try first|omega|assumption
     refine tY [(1,[.w false false (.int .i64 (CK (k+1)))]),(0,[.w false false (.ip [.sl ab.length (aS ab),.sl os.length (aR os),.sl wt.length (a8 wt),.sl zs.length (aT zs),.sl fit.length (lJ fit)] 0)])] 2 46 ?_ ?_
     .refine aO [] ?_ ?_<;>first|trivial|(simp[h4];done)
     repeat' first|(with_reducible first|apply au|apply af|apply al|intro _)|(simp[*,h8,hx,hq,hg,a4,hm])
     all_goals first
      |omega
      |assumption
      |(refine nx (k+1) ?_ ?_;(· exact hz);(refine aO [] ?_ ?_<;>first|trivial|(simp[*];done)))
   .have a7:k=plan.length:=by omega
    subst a7
    repeat' first|(with_reducible first|apply ai|apply aL|apply af|apply al|intro _)|(simp[*,h8])
    all_goals first
     |omega
     |(refine aZ () ?_ ?_;(· trivial);(refine aD ?_ ?_<;>first|trivial|(simp[*];done)))
  .repeat' first|(with_reducible first|intro _)|(simp[*])
   simp[dC];refine cP (cO ?_)
   repeat' first|(with_reducible first|apply af|intro _)|(simp[*])
   refine cO ?_
   repeat' first|(with_reducible first|apply az|intro _)|(simp[*])
def iA(l:List Int):List AV:=(ints l).map (AV.w false false)
@[simp]theorem zfl(l:List Int):(iA l).length=l.length:=by simp[iA]
@[simp]theorem zhe(l:List Int)(i:Nat)(h:i<l.length):lh (iA l) i=.w false false (.int .i64 (nth l i)):=by
 unfold iA;rw[Ge _ _ _ (by simpa using h),Oi l i h]
@[simp]theorem zfm(l:List Int)(i:Nat)(v:Int):(iA l).set i (.w false false (.int .i64 v))=iA (l.set i v):=by
 simp[iA,ints,List.map_set]
@[simp]theorem zh5(l:List Int)(n:Nat):AV.lt.ltL n (iA l)=true:=qv n false false (ints l)
@[simp]theorem zhf{D:List Nat}{h:ak}{n n':Nat}(l:List Int):gZ D h n n' (iA l) (iA l)=True:=eq_true (oM false false _)
@[simp high] theorem zhg(h:ak)(d:Nat)(l:List Int):(iA l).mapM (frz h d)=some (ints l):=wY h d false false (ints l)
@[simp]theorem zdm:∀l:List Int,fA (ints l)=true
 |[]=>rfl
 |x::r=>by have:=zdm r;simpa[ints,fA,flat] using this
@[simp high] theorem zhh(h:ak)(d:Nat)(l:List Int):(iA l).all (dQ h d)=true:=tU h d false false (ints l) (zdm l)
theorem zfn(k:Nat)(o f:Bool)(p:PV):List.replicate k (AV.w o f p)=(List.replicate k p).map (AV.w o f):=by simp
@[simp]theorem zhi{D:List Nat}{h:ak}{n n':Nat}(k:Nat)(o f:Bool)(p:PV):gZ D h n n' (List.replicate k (.w o f p)) (List.replicate k (.w o f p))=True:=by rw[zfn];exact eq_true (oM o f _)
@[simp]theorem RR(a b:List Int):iA a++iA b=iA (a++b):=by simp[iA,ints]
def eB(f:Nat->Int)(d:Int)(n j:Nat):List Int:=(List.range j).map f++List.replicate (n-j) d
@[simp]theorem zck(f:Nat->Int)(d:Int)(n j:Nat)(h:j<=n):(eB f d n j).length=n:=by simp[eB];omega
theorem zdn(f:Nat->Int)(d:Int)(n j:Nat)(h:j<n):(eB f d n j).set j (f j)=eB f d n (j+1):=by
 unfold eB;rw[List.set_append,ar (by simp),fI,pO,uU,show n-j=(n-(j+1))+1 by omega,CY,List.set_cons_zero,jN,ou,List.append_assoc];rfl
theorem zdo(f:Nat->Int)(d:Int)(n:Nat):iA (eB f d n 0)=List.replicate n (.w false false (.int .i64 d)):=by simp[iA,ints,eB]
theorem zdp(f:Nat->Int)(d:Int)(n:Nat):eB f d n n=(List.range n).map f:=by simp[eB]
def cN(l:List (List Int)):List AV:=l.map λx=>AV.w true false (.sl x.length (ints x))
@[simp]theorem zhj(l:List (List Int)):(cN l).length=l.length:=by simp[cN]
theorem zcl(l:List (List Int)):cN l=(l.map λx=>PV.sl x.length (ints x)).map (AV.w true false):=by simp[cN,Function.comp_def]
@[simp]theorem zhk(l:List (List Int))(n:Nat):AV.lt.ltL n (cN l)=true:=by rw[zcl];exact qv n true false _
@[simp]theorem zhl{D:List Nat}{h:ak}{n n':Nat}(l:List (List Int)):gZ D h n n' (cN l) (cN l)=True:=by rw[zcl];exact eq_true (oM true false _)
def m6(l:List (List Int)):List PV:=l.map λx=>PV.sl x.length (ints x)
@[simp high] theorem zhm(h:ak)(d:Nat)(l:List (List Int)):(cN l).mapM (frz h d)=some (m6 l):=by rw[zcl];exact wY h d true false _
@[simp high] theorem zhn(h:ak)(d:Nat)(l:List (List Int)):(cN l).all (dQ h d)=true:=by
 unfold cN;rw[List.all_map,eh];intro x _
 cases d<;>rfl
@[simp]theorem zho(l:List (List Int)):(m6 l).length=l.length:=by simp[m6]
@[simp]theorem zhp(l:List (List Int))(i:Nat)(h:i<l.length):dA (m6 l) i=.sl (nth l i).length (ints (nth l i)):=tO (λx:List Int=>PV.sl x.length (ints x)) l i h
def sf(x:Rd)(i j:Nat):Int:=
 if j<x.ab.length/\nth (nth x.fit i) j=true then nth (nth x.wt i) j else if j=x.ab.length+i then bw (prio x i) else 1000000000000000
def ql(x:Rd)(i:Nat):List Int:=(List.range (x.ab.length+x.os.length)).map (sf x i)
def ft(x:Rd)(n:Nat):List (List Int):=(List.range n).map (ql x)
theorem zfo(x:Rd)(n:Nat):ft x (n+1)=ft x n++[ql x n]:=by simp[ft,jN]
@[simp]theorem zdq(x:Rd)(n:Nat):(ft x n).length=n:=by simp[ft]
@[simp]theorem zfp(x:Rd)(i:Nat):(ql x i).length=x.ab.length+x.os.length:=by simp[ql]
theorem zfq(x:Rd)(n:Nat):cN (ft x (n+1))=cN (ft x n)++[.w true false (.sl (x.ab.length+x.os.length) (ints (ql x n)))]:=by
 rw[zfo];simp[cN]
end Go.Proofs.YthpkmilhiganjaaGreat
namespace Go.Proofs.YthpkmilhiganjaaGreat
open Go Go.Fi
abbrev FS:=List Int×List Bool
def zg3(x:Rd)(most:Int)(i k:Nat)(sn:List Bool):Bool:=!nth (nth x.fit i) k || nth sn k || decide (most<nth (nth x.wt i) k)
def zdc(rc:Nat->FS->Bool×FS)(x:Rd)(most:Int)(i:Nat):Nat->FS->Bool×FS
 |0,s=>(false,s)
 |m+1,s=>
  let k:=x.ab.length-(m+1)
  if zg3 x most i k s.2 then zdc rc x most i m s
  else if nth s.1 k<0 then (true,s.1.set k i,s.2.set k true)
  else if (rc (nth s.1 k).toNat (s.1,s.2.set k true)).1 then (true,(rc (nth s.1 k).toNat (s.1,s.2.set k true)).2.1.set k i,(rc (nth s.1 k).toNat (s.1,s.2.set k true)).2.2)
  else zdc rc x most i m (rc (nth s.1 k).toNat (s.1,s.2.set k true)).2
def zdd(x:Rd)(most:Int):Nat->Nat->FS->Bool×FS
 |0,_,s=>(false,s)
 |f+1,i,s=>zdc (zdd x most f) x most i x.ab.length s
def cM(sn:List Bool):Nat:=sn.countP λb=>!b
structure zcg(x:Rd)(s:FS):Prop where
 l1:s.1.length=x.ab.length
 l2:s.2.length=x.ab.length
 rg:∀k,k<x.ab.length->nth s.1 k=-1\/(0<=nth s.1 k/\nth s.1 k<(x.os.length:Int))
theorem fb{α:Type}[Inhabited α](l:List α)(i j:Nat)(v:α)(h:i<l.length):nth (l.set i v) j=if i=j then v else nth l j:=by
 unfold nth;simp only[bS,CZ];split
 .rename_i e;subst e;simp[h]
 .rfl
theorem zcm:∀(l:List Bool)(k:Nat),k<l.length->nth l k=false->cM (l.set k true)+1=cM l
 |[],k,h,_=>absurd h (by simp)
 |b::r,0,_,h=>by
  have:b=false:=h;subst this;simp[cM,List.countP_cons]
 |b::r,k+1,h,hb=>by
  have:=zcm r k (by simpa using h) hb;simp only[cM,List.set_cons_succ,List.countP_cons] at this ⊢;omega
structure zh6(x:Rd)(s t:FS):Prop where
 ok:zcg x t
 un:cM t.2<=cM s.2
theorem zcg.own{x:Rd}{s:FS}(h:zcg x s){i k:Nat}(hi:i<x.os.length)(hk:k<x.ab.length):zcg x (s.1.set k i,s.2):=
 ⟨by simpa using h.l1,h.l2,λj hj=>by
   show nth (s.1.set k i) j=-1\/_;rw[show nth (s.1.set k (i:Int)) j=if k=j then (i:Int) else nth s.1 j from fb _ _ _ _ (by rw[h.l1];exact hk)];split
   .exact .inr ⟨by omega,by omega⟩
   .exact h.rg j hj⟩
def zch(x:Rd)(most:Int):Nat->List Int×Int
 |0=>(List.replicate x.ab.length (-1),0)
 |i+1=>
  ((zdd x most (x.ab.length+1) i ((zch x most i).1,List.replicate x.ab.length false)).2.1,
    if (zdd x most (x.ab.length+1) i ((zch x most i).1,List.replicate x.ab.length false)).1 then (zch x most i).2+1 else (zch x most i).2)
def fh(tk:List Int)(n:Nat):Nat->List Int
 |0=>List.replicate n (-1)
 |k+1=>if 0<=nth tk k then (fh tk n k).set (nth tk k).toNat k else fh tk n k
theorem zdr(n:Nat):cM (List.replicate n false)=n:=by simp[cM,List.countP_replicate]
theorem Ak(tk:List Int)(n:Nat):∀k,(fh tk n k).length=n
 |0=>by simp[fh]
 |k+1=>by
  unfold fh;split
  .rw[oB];exact Ak tk n k
  .exact Ak tk n k
structure ScS where
 sl:List Int
 ah:List Int
 least:Int
 next:Int
def nvS(C:Nat->Nat->Int)(u v:List Int)(i j:Nat):Int:=C i j-nth u i-nth v j
def bB(C:Nat->Nat->Int)(u v:List Int)(sn:List Bool)(i:Nat)(at_:Int)(sl ah:List Int):Nat->ScS
 |0=>⟨sl,ah,10000000000000000,-1⟩
 |k+1=>
  let s:=bB C u v sn i at_ sl ah k
  if nth sn k then s
  else
   let s1:ScS:=if nvS C u v i k<nth s.sl k then ⟨s.sl.set k (nvS C u v i k),s.ah.set k at_,s.least,s.next⟩ else s
   if nth s1.sl k<s1.least then ⟨s1.sl,s1.ah,nth s1.sl k,k⟩ else s1
def dS(sn:List Bool)(ow:List Int)(d:Int)(u v sl:List Int):Nat->List Int×List Int×List Int
 |0=>(u,v,sl)
 |k+1=>
  let s:=dS sn ow d u v sl k
  if nth sn k then (s.1.set (nth ow k).toNat (nth s.1 (nth ow k).toNat+d),s.2.1.set k (nth s.2.1 k-d),s.2.2)
  else (s.1,s.2.1,s.2.2.set k (nth s.2.2 k-d))
structure Ws where
 u:List Int
 v:List Int
 sl:List Int
 ah:List Int
 sn:List Bool
 at_:Int
 i:Nat
def bo(C:Nat->Nat->Int)(m:Nat)(w:Ws):ScS:=bB C w.u w.v w.sn w.i w.at_ w.sl w.ah m
def n5(C:Nat->Nat->Int)(m:Nat)(ow:List Int)(row:Nat)(w:Ws):List Int×List Int×List Int:=
 dS w.sn ow (bo C m w).least (w.u.set row (nth w.u row+(bo C m w).least)) w.v (bo C m w).sl m
def dX(C:Nat->Nat->Int)(m:Nat)(ow:List Int)(row:Nat)(w:Ws):Ws:=
 ⟨(n5 C m ow row w).1,(n5 C m ow row w).2.1,(n5 C m ow row w).2.2,(bo C m w).ah,w.sn.set (bo C m w).next.toNat true,(bo C m w).next,(nth ow (bo C m w).next.toNat).toNat⟩
def rE(C:Nat->Nat->Int)(m:Nat)(ow:List Int)(row:Nat):Nat->Ws->Ws
 |0,w=>w
 |f+1,w=>if nth ow (bo C m w).next.toNat<0 then dX C m ow row w else rE C m ow row f (dX C m ow row w)
def hH(ah:List Int)(row:Nat):Nat->Int->List Int->List Int
 |0,_,ow=>ow
 |f+1,at_,ow=>if at_<0 then ow else hH ah row f (nth ah at_.toNat) (ow.set at_.toNat (if nth ah at_.toNat<0 then (row:Int) else nth ow (nth ah at_.toNat).toNat))
structure Hs where
 u:List Int
 v:List Int
 ow:List Int
def ws0(m:Nat)(s:Hs)(row:Nat):Ws:=⟨s.u,s.v,List.replicate m 10000000000000000,List.replicate m (-1),List.replicate m false,-1,row⟩
def pw(C:Nat->Nat->Int)(m:Nat)(s:Hs)(row:Nat):Ws:=rE C m s.ow row (m+1) (ws0 m s row)
def tE(C:Nat->Nat->Int)(m:Nat)(s:Hs)(row:Nat):Hs:=
 ⟨(pw C m s row).u,(pw C m s row).v,hH (pw C m s row).ah row (m+1) (pw C m s row).at_ s.ow⟩
def qc(C:Nat->Nat->Int)(n m:Nat):Nat->Hs
 |0=>⟨List.replicate n 0,List.replicate m 0,List.replicate m (-1)⟩
 |r+1=>tE C m (qc C n m r) r
structure eU(C:Nat->Nat->Int)(u v:List Int)(sn:List Bool)(i:Nat)(at_:Int)(sl ah:List Int)(k:Nat)(s:ScS):Prop where
 l1:s.sl.length=sl.length
 l2:s.ah.length=ah.length
 esl:∀j,nth s.sl j=if j<k/\nth sn j=false/\nvS C u v i j<nth sl j then nvS C u v i j else nth sl j
 eah:∀j,nth s.ah j=if j<k/\nth sn j=false/\nvS C u v i j<nth sl j then at_ else nth ah j
 lo:∀j,j<k->nth sn j=false->s.least<=nth s.sl j
 nx:(s.next=-1/\s.least=10000000000000000)\/(0<=s.next/\s.next<(k:Int)/\nth sn s.next.toNat=false/\s.least=nth s.sl s.next.toNat)
theorem zcn(C:Nat->Nat->Int)(u v:List Int)(sn:List Bool)(i:Nat)(at_:Int)(sl ah:List Int)(hl:ah.length=sl.length):∀k,k<=sl.length->eU C u v sn i at_ sl ah k (bB C u v sn i at_ sl ah k)
 |0,_=>⟨rfl,rfl,λj=>by rw[ar (by omega)];rfl,λj=>by rw[ar (by omega)];rfl,λj h=>absurd h (by omega),.inl ⟨rfl,rfl⟩⟩
 |k+1,hk=>by
  have ih:=zcn C u v sn i at_ sl ah hl k (by omega);unfold bB;generalize bB C u v sn i at_ sl ah k=s at ih ⊢;dsimp only
  have ao:nth s.sl k=nth sl k:=by rw[ih.esl,ar (by omega)]
  cases hh:nth sn k with
  |true=>
   simp only[aX]
   have e:∀(j:Nat)(p:Prop),(j<k+1/\nth sn j=false/\p)↔(j<k/\nth sn j=false/\p):=λj p=>by
    constructor
    .rintro⟨h1,h2,h3⟩
     refine⟨?_,h2,h3⟩
     rcases oA.1 h1 with h|rfl
     .exact h
     .rw[hh] at h2;cases h2
    .rintro⟨h1,h2,h3⟩;exact⟨by omega,h2,h3⟩
   refine⟨ih.l1,ih.l2,λj=>?_,λj=>?_,λj hj hn=>?_,?_⟩
   .rw[ih.esl];simp only[e]
   .rw[ih.eah];simp only[e]
   .refine ih.lo j ?_ hn
    rcases oA.1 hj with h|rfl
    .exact h
    .rw[hh] at hn;cases hn
   .rcases ih.nx with h|⟨h1,h2,h3⟩
    .exact .inl h
    .exact .inr ⟨h1,by omega,h3⟩
  |false=>
   simp only[bI,a9]
   have bb:k<s.sl.length:=by rw[ih.l1];omega
   have c4:k<s.ah.length:=by rw[ih.l2];omega
   have key:∀s1:ScS,s1=(if nvS C u v i k<nth s.sl k then (⟨s.sl.set k (nvS C u v i k),s.ah.set k at_,s.least,s.next⟩:ScS) else s) ->
    (s1.sl.length=sl.length/\s1.ah.length=ah.length/\(∀j,nth s1.sl j=if j<k+1/\nth sn j=false/\nvS C u v i j<nth sl j then nvS C u v i j else nth sl j) /\
      (∀j,nth s1.ah j=if j<k+1/\nth sn j=false/\nvS C u v i j<nth sl j then at_ else nth ah j)/\s1.least=s.least/\s1.next=s.next/\(∀j,j≠k->nth s1.sl j=nth s.sl j)):=by
    intro s1 ag
    have e:∀(j:Nat)(p:Prop),j≠k->((j<k+1/\nth sn j=false/\p)↔(j<k/\nth sn j=false/\p)):=λj p a4=>by
     constructor
     .rintro⟨h1,h2,h3⟩;exact⟨by omega,h2,h3⟩
     .rintro⟨h1,h2,h3⟩;exact⟨by omega,h2,h3⟩
    by_cases h8:nvS C u v i k<nth s.sl k
    .rw[aB h8] at ag;subst ag;refine⟨by simpa using ih.l1,by simpa using ih.l2,λj=>?_,λj=>?_,rfl,rfl,λj hj=>?_⟩
     .dsimp only;rw[fb _ _ _ _ bb];split
      .rename_i h';subst h';rw[aB ⟨by omega,hh,by rw[<-ao];exact h8⟩]
      .rename_i h';rw[ih.esl];simp only[e j _ (cK h')]
     .dsimp only;rw[fb _ _ _ _ c4];split
      .rename_i h';subst h';rw[aB ⟨by omega,hh,by rw[<-ao];exact h8⟩]
      .rename_i h';rw[ih.eah];simp only[e j _ (cK h')]
     .dsimp only;rw[fb _ _ _ _ bb,ar (cK hj)]
    .rw[ar h8] at ag;subst ag;refine⟨ih.l1,ih.l2,λj=>?_,λj=>?_,rfl,rfl,λj _=>rfl⟩
     .by_cases h':j=k
      .subst h';rw[ih.esl,ar (by omega),ar]
       rintro⟨_,_,h3⟩;rw[ao] at h8;exact h8 h3
      .rw[ih.esl];simp only[e j _ h']
     .by_cases h':j=k
      .subst h';rw[ih.eah,ar (by omega),ar]
       rintro⟨_,_,h3⟩;rw[ao] at h8;exact h8 h3
      .rw[ih.eah];simp only[e j _ h']
   obtain⟨k1,k2,k3,k4,k5,k6,k7⟩:=key _ rfl;generalize (if nvS C u v i k<nth s.sl k then (⟨s.sl.set k (nvS C u v i k),s.ah.set k at_,s.least,s.next⟩:ScS) else s)=s1 at *;by_cases bc:nth s1.sl k<s1.least
   .rw[aB bc];refine⟨k1,k2,k3,k4,λj hj hn=>?_,.inr ⟨by dsimp only;omega,by dsimp only;omega,by simpa using hh,by simp⟩⟩;dsimp only
    rcases oA.1 hj with h|rfl
    .have:=ih.lo j h hn;rw[k7 j (by omega)];omega
    .exact mZ _
   .rw[ar bc];refine⟨k1,k2,k3,k4,λj hj hn=>?_,?_⟩
    .rcases oA.1 hj with h|rfl
     .rw[k7 j (by omega),k5];exact ih.lo j h hn
     .omega
    .rw[k5,k6]
     rcases ih.nx with h|⟨h1,h2,h3,h4⟩
     .exact .inl h
     .refine .inr ⟨h1,by omega,h3,?_⟩;rw[k7 _ (by omega)];exact h4
structure zfb(sn:List Bool)(ow:List Int)(d:Int)(u v sl:List Int)(k:Nat)(t:List Int×List Int×List Int):Prop where
 l1:t.1.length=u.length
 l2:t.2.1.length=v.length
 l3:t.2.2.length=sl.length
 ut:∀l:Nat,(∃j,j<k/\nth sn j=true/\nth ow j=(l:Int))->nth t.1 l=nth u l+d
 uf:∀l:Nat,(¬∃j,j<k/\nth sn j=true/\nth ow j=(l:Int))->nth t.1 l=nth u l
 ev:∀j,nth t.2.1 j=if j<k/\nth sn j=true then nth v j-d else nth v j
 esl:∀j,nth t.2.2 j=if j<k/\nth sn j=false then nth sl j-d else nth sl j
theorem zco(sn:List Bool)(ow:List Int)(d:Int)(u v sl:List Int)(c5:sl.length=v.length)(how:∀j,j<v.length->nth sn j=true->0<=nth ow j/\nth ow j<(u.length:Int))(dL:∀j k,j<v.length->k<v.length->0<=nth ow j->nth ow j=nth ow k->j=k):∀k,k<=v.length->zfb sn ow d u v sl k (dS sn ow d u v sl k)
 |0,_=>⟨rfl,rfl,rfl,λl ⟨j,h,_⟩=>absurd h (by omega),λl _=>rfl,λj=>by rw[ar (by omega)];rfl,λj=>by rw[ar (by omega)];rfl⟩
 |k+1,hk=>by
  have ih:=zco sn ow d u v sl c5 how dL k (by omega);unfold dS;generalize dS sn ow d u v sl k=s at ih ⊢;dsimp only
  cases hh:nth sn k with
  |true=>
   simp only[aX];obtain⟨h1,h2⟩:=how k (by omega) hh
   have hu:(nth ow k).toNat<s.1.length:=by rw[ih.l1];omega
   have ax:¬∃j,j<k/\nth sn j=true/\nth ow j=((nth ow k).toNat:Int):=by
    rintro⟨j,hj,hs,he⟩
    have:nth ow j=nth ow k:=by omega
    have:=dL j k (by omega) (by omega) (how j (by omega) hs).1 this;omega
   refine⟨by simpa using ih.l1,by simpa using ih.l2,ih.l3,λl hl=>?_,λl hl=>?_,λj=>?_,λj=>?_⟩
   .dsimp only;rw[fb _ _ _ _ hu];split
    .rename_i e;subst e;rw[ih.uf _ ax]
    .rename_i e;refine ih.ut l ?_;obtain⟨j,hj,hs,he⟩:=hl
     rcases oA.1 hj with h|h
     .exact⟨j,h,hs,he⟩
     .subst h;exact absurd (show (nth ow j).toNat=l by omega) e
   .dsimp only;rw[fb _ _ _ _ hu,ar]
    .exact ih.uf l λ⟨j,hj,hs,he⟩=>hl ⟨j,by omega,hs,he⟩
    .intro e;exact hl ⟨k,by omega,hh,by omega⟩
   .dsimp only;rw[fb _ _ _ _ (by rw[ih.l2];omega)];by_cases e:k=j
    .subst e;rw[aB rfl,ih.ev,ar (by omega),aB ⟨by omega,hh⟩]
    .rw[ar e,ih.ev j];by_cases hj:j<k/\nth sn j=true
     .rw[aB hj,aB ⟨by omega,hj.2⟩]
     .rw[ar hj,ar]
      rintro⟨a,b⟩;exact hj ⟨by omega,b⟩
   .dsimp only;rw[ih.esl j];by_cases hj:j<k/\nth sn j=false
    .rw[aB hj,aB ⟨by omega,hj.2⟩]
    .rw[ar hj,ar]
     rintro⟨a,b⟩
     refine hj ⟨?_,b⟩
     rcases oA.1 a with h|rfl
     .exact h
     .rw[hh] at b;cases b
  |false=>
   simp only[bI,a9];refine⟨ih.l1,ih.l2,by simpa using ih.l3,λl hl=>?_,λl hl=>?_,λj=>?_,λj=>?_⟩
   .refine ih.ut l ?_;obtain⟨j,hj,hs,he⟩:=hl
    rcases oA.1 hj with h|rfl
    .exact⟨j,h,hs,he⟩
    .rw[hh] at hs;cases hs
   .exact ih.uf l λ⟨j,hj,hs,he⟩=>hl ⟨j,by omega,hs,he⟩
   .dsimp only;rw[ih.ev j];by_cases hj:j<k/\nth sn j=true
    .rw[aB hj,aB ⟨by omega,hj.2⟩]
    .rw[ar hj,ar]
     rintro⟨a,b⟩
     refine hj ⟨?_,b⟩
     rcases oA.1 a with h|rfl
     .exact h
     .rw[hh] at b;cases b
   .dsimp only;rw[fb _ _ _ _ (by rw[ih.l3];omega)];by_cases e:k=j
    .subst e;rw[aB rfl,ih.esl,ar (by omega),aB ⟨by omega,hh⟩]
    .rw[ar e,ih.esl j];by_cases hj:j<k/\nth sn j=false
     .rw[aB hj,aB ⟨by omega,hj.2⟩]
     .rw[ar hj,ar]
      rintro⟨a,b⟩;exact hj ⟨by omega,b⟩
structure Hp(C:Nat->Nat->Int)(n c:Nat):Prop where
 nn:n<=8
 cc:c<=8
 pr:∀i,i<n->0<=C i (c+i)/\C i (c+i)<=1000000000000
 ot:∀i l,i<n->l<n->l≠i->C i (c+l)=1000000000000000
 cr:∀i j,i<n->j<c->C i j=1000000000000000\/(0<=C i j/\C i j<=1000000000000)
theorem Hp.bd{C:Nat->Nat->Int}{n c:Nat}(h:Hp C n c){i j:Nat}(hi:i<n)(hj:j<c+n):0<=C i j/\C i j<=1000000000000000:=by
 by_cases hc:j<c
 .rcases h.cr i j hi hc with h|h<;>omega
 .obtain⟨l,rfl⟩:∃l,j=c+l:=⟨j-c,by omega⟩;by_cases hl:l=i
  .subst hl;have:=h.pr l hi;omega
  .rw[h.ot i l hi (by omega) hl];omega
theorem Hp.real{C:Nat->Nat->Int}{n c:Nat}(h:Hp C n c){i j:Nat}(hi:i<n)(hj:j<c+n)(hb:C i j<1000000000000000):j<c\/j=c+i:=by
 by_cases hc:j<c
 .exact .inl hc
 .obtain⟨l,rfl⟩:∃l,j=c+l:=⟨j-c,by omega⟩;by_cases hl:l=i
  .exact .inr (by omega)
  .rw[h.ot i l hi (by omega) hl] at hb;omega
structure MI(C:Nat->Nat->Int)(n c r:Nat)(u v ow:List Int):Prop where
 lu:u.length=n
 lv:v.length=c+n
 lo:ow.length=c+n
 hu:∀l,l<n->0<=nth u l
 hv:∀j,j<c+n->nth v j<=0
 hvz:∀j,j<c+n->nth ow j=-1->nth v j=0
 hvp:∀l,l<n->nth v (c+l)=0
 hf:∀l j,l<n->j<c+n->nth u l+nth v j<=C l j
 how:∀j,j<c+n->nth ow j=-1\/(0<=nth ow j/\nth ow j<(r:Int))
 dL:∀j k,j<c+n->k<c+n->0<=nth ow j->nth ow j=nth ow k->j=k
 ht:∀j,j<c+n->0<=nth ow j->nth u (nth ow j).toNat+nth v j=C (nth ow j).toNat j
 D7:∀l,l<r->∃j,j<c+n/\nth ow j=(l:Int)
section
variable{C:Nat->Nat->Int}{n c row:Nat}{u v ow:List Int}
theorem MI.ub(m:MI C n c row u v ow)(h:Hp C n c){l:Nat}(hl:l<n):nth u l<=1000000000000:=by
 have h1:=m.hf l (c+l) hl (by omega);have h2:=m.hvp l hl;have h3:=h.pr l hl;omega
theorem MI.vb(m:MI C n c row u v ow)(h:Hp C n c)(hr:row<=n){j:Nat}(hj:j<c+n):-1000000000000<=nth v j:=by
 rcases m.how j hj with h1|⟨h1,h2⟩
 .rw[m.hvz j hj h1];omega
 .have h3:=m.ht j hj h1;have h4:=m.ub h (l:=(nth ow j).toNat) (by omega);have h5:=(h.bd (i:=(nth ow j).toNat) (j:=j) (by omega) hj).1;omega
theorem MI.own(m:MI C n c row u v ow)(h:Hp C n c)(hr:row<=n){j:Nat}(hj:j<c+n)(ho:0<=nth ow j):j<c\/j=c+(nth ow j).toNat:=by
 rcases m.how j hj with h1|⟨_,h2⟩
 .omega
 .refine h.real (by omega) hj ?_;have h3:=m.ht j hj ho;have h4:=m.ub h (l:=(nth ow j).toNat) (by omega);have h5:=m.hv j hj;omega
end
def Tv(m row:Nat)(ow:List Int)(w:Ws)(l:Nat):Prop:=l=row\/∃j,j<m/\nth w.sn j=true/\nth ow j=(l:Int)
def Via(m row:Nat)(ow:List Int)(w:Ws)(j:Nat)(p:Nat->Prop):Prop:=
 (nth w.ah j=-1/\p row)\/(0<=nth w.ah j/\nth w.ah j<(m:Int)/\nth w.sn (nth w.ah j).toNat=true/\p (nth ow (nth w.ah j).toNat).toNat)
structure GI(C:Nat->Nat->Int)(n c row:Nat)(ow:List Int)(w:Ws):Prop where
 mi:MI C n c row w.u w.v ow
 ls:w.sl.length=c+n
 la:w.ah.length=c+n
 ln:w.sn.length=c+n
 hs:∀j,j<c+n->nth w.sn j=true->0<=nth ow j/\j<c
 hat:(w.at_=-1/\w.i=row/\∀j,j<c+n->nth w.sn j=false)\/(0<=w.at_/\w.at_<((c+n:Nat):Int)/\nth w.sn w.at_.toNat=true/\nth ow w.at_.toNat=(w.i:Int))
 h1:∀j,j<c+n->nth w.sn j=false->∀l,Tv (c+n) row ow w l->l≠w.i->nth w.sl j<=C l j-nth w.u l-nth w.v j
 h2:∀j,j<c+n->nth w.sn j=false->(nth w.sl j=10000000000000000/\w.at_=-1)\/Via (c+n) row ow w j λl=>nth w.sl j=C l j-nth w.u l-nth w.v j
 pth:∀j,j<c+n->nth w.sn j=true->Via (c+n) row ow w j λl=>nth w.u l+nth w.v j=C l j
 rk:∃rk:Nat->Nat,(∀j,j<c+n->nth w.sn j=true->rk j+cM w.sn<c+n)/\∀j,j<c+n->nth w.sn j=true->0<=nth w.ah j->rk (nth w.ah j).toNat<rk j
theorem GI.ib{C:Nat->Nat->Int}{n c row:Nat}{ow:List Int}{w:Ws}(g:GI C n c row ow w)(hr:row<n):w.i<n:=by
 rcases g.hat with ⟨_,h,_⟩|⟨h1,h2,h3,h4⟩
 .omega
 .rcases g.mi.how w.at_.toNat (by omega) with h|h<;>omega
theorem GI.tvi{C:Nat->Nat->Int}{n c row:Nat}{ow:List Int}{w:Ws}(g:GI C n c row ow w):Tv (c+n) row ow w w.i:=by
 rcases g.hat with ⟨_,h,_⟩|⟨h1,h2,h3,h4⟩
 .exact .inl h
 .exact .inr ⟨_,by omega,h3,h4⟩
theorem GI.tvn{C:Nat->Nat->Int}{n c row:Nat}{ow:List Int}{w:Ws}(g:GI C n c row ow w)(hr:row<n){l:Nat}(h:Tv (c+n) row ow w l):l<n:=by
 rcases h with rfl|⟨j,h1,h2,h3⟩
 .exact hr
 .rcases g.mi.how j h1 with h|h<;>omega
structure zde(C:Nat->Nat->Int)(n c row:Nat)(ow:List Int)(w:Ws)(s:ScS):Prop where
 ok:eU C w.u w.v w.sn w.i w.at_ w.sl w.ah (c+n) s
 nx0:0<=s.next
 nx1:s.next<((c+n:Nat):Int)
 nx2:nth w.sn s.next.toNat=false
 d0:0<=s.least
 d1:s.least<=1000000000000
 dn:s.least=nth s.sl s.next.toNat
 lo:∀j,j<c+n->nth w.sn j=false->∀l,Tv (c+n) row ow w l->nth s.sl j<=C l j-nth w.u l-nth w.v j
 via:∀j,j<c+n->nth w.sn j=false->(nth s.ah j=-1/\nth s.sl j=C row j-nth w.u row-nth w.v j)\/(0<=nth s.ah j/\nth s.ah j<((c+n:Nat):Int)/\nth w.sn (nth s.ah j).toNat=true/\nth s.sl j=C (nth ow (nth s.ah j).toNat).toNat j-nth w.u (nth ow (nth s.ah j).toNat).toNat-nth w.v j)
 old:∀j,nth w.sn j=true->nth s.ah j=nth w.ah j
 car:s.next.toNat<c\/nth ow s.next.toNat=-1
theorem D8{C:Nat->Nat->Int}{n c row:Nat}{ow:List Int}{w:Ws}(hp:Hp C n c)(hr:row<n)(g:GI C n c row ow w):zde C n c row ow w (bo C (c+n) w):=by
 have ok:=zcn C w.u w.v w.sn w.i w.at_ w.sl w.ah (by rw[g.la,g.ls]) (c+n) (by rw[g.ls];omega);have hi:=g.ib hr;show zde C n c row ow w (bB C w.u w.v w.sn w.i w.at_ w.sl w.ah (c+n));generalize bB C w.u w.v w.sn w.i w.at_ w.sl w.ah (c+n)=s at ok ⊢
 have lo:∀j,j<c+n->nth w.sn j=false->∀l,Tv (c+n) row ow w l->nth s.sl j<=C l j-nth w.u l-nth w.v j:=λj hj hn l hl=>by
  have e:=ok.esl j;by_cases bg:l=w.i
  .subst bg;by_cases h8:nvS C w.u w.v w.i j<nth w.sl j
   .rw[aB ⟨hj,hn,h8⟩] at e;unfold nvS at e;omega
   .rw[ar (λh=>h8 h.2.2)] at e;unfold nvS at h8;omega
  .have:=g.h1 j hj hn l hl bg;split at e
   .rename_i h;have:=h.2.2;omega
   .omega
 have nvb:∀j,j<c+n->nvS C w.u w.v w.i j<10000000000000000:=λj hj=>by
  have h1:=(hp.bd hi hj).2;have h2:=g.mi.hu w.i hi;have h3:=g.mi.vb hp (by omega) hj;unfold nvS;omega
 have via:∀j,j<c+n->nth w.sn j=false->(nth s.ah j=-1/\nth s.sl j=C row j-nth w.u row-nth w.v j)\/(0<=nth s.ah j/\nth s.ah j<((c+n:Nat):Int)/\nth w.sn (nth s.ah j).toNat=true/\nth s.sl j=C (nth ow (nth s.ah j).toNat).toNat j-nth w.u (nth ow (nth s.ah j).toNat).toNat-nth w.v j):=λj hj hn=>by
  have e1:=ok.esl j;have e2:=ok.eah j;by_cases h8:nvS C w.u w.v w.i j<nth w.sl j
  .rw[aB ⟨hj,hn,h8⟩] at e1 e2;unfold nvS at e1;rw[e1,e2]
   rcases g.hat with ⟨h1,h2,_⟩|⟨h1,h2,h3,h4⟩
   .left;rw[h1,h2];exact⟨rfl,rfl⟩
   .right;refine⟨h1,h2,h3,?_⟩;rw[h4];rfl
  .rw[ar (λh=>h8 h.2.2)] at e1 e2;rw[e1,e2]
   rcases g.h2 j hj hn with ⟨h1,_⟩|h
   .exact absurd (by rw[h1];exact nvb j hj) h8
   .exact h
 have own:nth w.sn (c+w.i)=false:=by
  cases h:nth w.sn (c+w.i) with
  |false=>rfl
  |true=>have:=(g.hs _ (by omega) h).2;omega
 have ay:nth s.sl (c+w.i)<=1000000000000:=by
  have h1:=lo (c+w.i) (by omega) own w.i g.tvi;have h2:=hp.pr w.i hi;have h3:=g.mi.hu w.i hi;have h4:=g.mi.hvp w.i hi;omega
 have bp:s.least<=1000000000000:=Int.le_trans (ok.lo (c+w.i) (by omega) own) ay;obtain⟨n0,n1,n2,n3⟩:=ok.nx.resolve_left (λh=>by have:=h.2;omega)
 have h8:s.next.toNat<c+n:=by omega
 have c7:=via _ h8 n2
 have c8:∃l,Tv (c+n) row ow w l/\nth s.sl s.next.toNat=C l s.next.toNat-nth w.u l-nth w.v s.next.toNat:=by
  rcases c7 with ⟨_,h⟩|⟨h1,h2,h3,h4⟩
  .exact⟨row,.inl rfl,h⟩
  .have:=(g.hs _ (by omega) h3).1;exact⟨_,.inr ⟨(nth s.ah s.next.toNat).toNat,by omega,h3,by omega⟩,h4⟩
 obtain⟨l,hl,he⟩:=c8;have aw:=g.tvn hr hl;have cj:=g.mi.hf l _ aw h8;have cm:=g.mi.ub hp aw;have co:=g.mi.hv _ h8;refine⟨ok,n0,n1,n2,by omega,bp,n3,lo,via,λj hj=>?_,?_⟩
 .rw[ok.eah,ar]
  rintro⟨_,h,_⟩;rw[hj] at h;cases h
 .rcases hp.real aw h8 (by omega) with h|h
  .exact .inl h
  .right
   rcases g.mi.how _ h8 with h1|⟨h1,h2⟩
   .exact h1
   .exfalso
    rcases g.mi.own hp (by omega) h8 h1 with h3|h3
    .omega
    .have h4:(nth ow s.next.toNat).toNat=l:=by omega
     rcases hl with rfl|⟨j,bv,bh,cl⟩
     .omega
     .have:=g.mi.dL _ _ h8 bv h1 (by omega);rw[this] at n2;rw[n2] at bh;cases bh
end Go.Proofs.YthpkmilhiganjaaGreat
