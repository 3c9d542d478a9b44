/- Lemmas. -/
import Derived.Test.YthpkmilhiganjaaGreatPDb
import Derived.Test.YthpkmilhiganjaaGreatPLg
import Derived.Test.YthpkmilhiganjaaGreatPLf
set_option linter.all false
set_option maxHeartbeats 32000000
set_option maxRecDepth 100000
namespace Go.Proofs.YthpkmilhiganjaaGreat
open Go Go.Fi
noncomputable instance instLD14:ak:=LD
theorem zdb(r:Tw.RND):(bz r).fit.length=(bz r).os.length:=by simp[bz]
theorem zdc(r:Tw.RND)(i:Nat):(Tw.lA r i).length=r.ab.length:=by
 simp[Tw.lA,Tw.BS,Tw.jB,Tw.odR]
theorem zdd(r:Tw.RND)(i:Nat)(h:i<(bz r).os.length):(nth (bz r).fit i).length=(bz r).ab.length:=by
 have hi:i<r.os.length:=h;simp only[bz,nth,da,gH,rP hi,cQ,nO];exact zdc r i
theorem C9{α:Type}[Inhabited α]{E:Nat->α->Int}:∀{l:List α}{k:Nat},(fQ E l k).2=0->∀j,j<l.length->E (k+j) (nth l j)=0
 |[],k,_,j,hj=>absurd hj (by simp)
 |x::r,k,h,j,hj=>by
  unfold fQ at h;by_cases he:E k x=0
  .rw[az he] at h
   cases j with
   |zero=>exact he
   |succ j=>
    have:=C9 h j (by simpa using hj);rw[show k+(j+1)=k+1+j by omega];exact this
  .rw[ai he] at h;exact absurd h he
theorem D3{α:Type}[Inhabited α]{nm:α->ByteArray}{mr:α->Int}{l:List α}:∀{r:List α}{k:Nat},(fu nm mr l r k).2=0->∀j,j<r.length->gZ nm mr l (k+j) (nth r j)=0
 |[],k,_,j,hj=>absurd hj (by simp)
 |x::r,k,h,j,hj=>by
  unfold fu at h;by_cases he:gZ nm mr l k x=0
  .rw[az he] at h
   cases j with
   |zero=>exact he
   |succ j=>
    have:=D3 h j (by simpa using hj);rw[show k+(j+1)=k+1+j by omega];exact this
  .rw[ai he] at h;exact absurd h he
theorem bW{e:Int}{r:List Int}(h:dc (e::r)=0):e=0/\dc r=0:=by
 unfold dc at h;split at h
 .rename_i he;exact⟨he,h⟩
 .rename_i he;exact absurd h he
theorem mE{b:Bool}{e:Int}(he:e≠0)(h:aP b e=0):b=true:=by
 unfold aP at h
 cases b with
 |true=>rfl
 |false=>exact absurd h he
theorem kQ{n lo hi:Int}:aL n lo hi=true↔lo<=n/\n<=hi:=by simp[aL]
theorem not_true{b:Bool}(h:(!b)=true):b=false:=by cases b<;>simp_all
structure cE(x:Rd):Prop where
 lc:x.ab.length<=8
 lo:x.os.length<=8
 lw:x.wt.length=x.os.length
 lz:x.zs.length<=64
 lf:x.fit.length=x.os.length
 fr:∀i,i<x.os.length->(nth x.fit i).length=x.ab.length
 wr:∀i,i<x.os.length->(nth x.wt i).length=x.ab.length
 wn:∀i,i<x.os.length->∀k,k<x.ab.length->0<=nth (nth x.wt i) k/\nth (nth x.wt i) k<=100000
 sc:∀k,k<x.ab.length->1<=(nth x.ab k).2.1/\(nth x.ab k).2.1<=8
 so:∀i,i<x.os.length->1<=(nth x.os i).2.1/\(nth x.os i).2.1<=8
 pr:∀i,i<x.os.length->0<=(nth x.os i).2.2.2/\(nth x.os i).2.2.2<=6
 nc:∀k,k<x.ab.length->fJ (nth x.ab k).1=true/\((x.ab.take k).any λy=>decide (y.1=(nth x.ab k).1))=false
 no:∀k,k<x.os.length->fJ (nth x.os k).1=true/\((x.os.take k).any λy=>decide (y.1=(nth x.os k).1))=false
 zr:∀j,j<x.zs.length->(0<=(nth x.zs j).1/\(nth x.zs j).1<=(x.os.length:Int)-1)/\(0<=(nth x.zs j).2/\(nth x.zs j).2<=(x.ab.length:Int)-1)
theorem Bd(r:Tw.RND)(h:ceR r=0):cE (bz r):=by
 unfold ceR g8 at h;split at h
 .simp at h
 rename_i g1;split at h
 .rename_i h2;exact absurd h h2
 rename_i g2;split at h
 .simp at h
 rename_i g3;split at h
 .rename_i h2;exact absurd h h2
 rename_i g4;split at h
 .simp at h
 rename_i g5;have a4:=AL h
 have hw:(fQ (λ_=>gr r.ab.length) r.wt 0).2=0:=by
  unfold fY at h;split at h
  .rename_i h1;exact absurd h h1
  .rename_i h1;simpa using h1
 rw[a4] at h;unfold g7 at h;split at h
 .simp at h
 rename_i g6;have bi:(fu Prod.fst fK r.ab r.ab 0).2=0:=r6.1 g2;have bj:(fu Prod.fst eY r.os r.os 0).2=0:=r6.1 g4
 have C:=λj hj=>D3 bi j hj
 have O:=λj hj=>D3 bj j hj
 have W:=λj hj=>C9 hw j hj
 have Z:=λj hj=>C9 h j hj
 simp only[cY] at C O W Z
 have ho:r.wt.length=r.os.length:=by omega
 have wait:∀i,i<r.os.length->(nth r.wt i).length=r.ab.length/\((nth r.wt i).any λx=>!aL x 0 100000)=false:=λi hi=>by
  have:=W i (by omega);unfold gr at this;obtain⟨w1,w2⟩:=bW this;obtain⟨w2,_⟩:=bW w2;refine⟨?_,?_⟩
  .have:=mE (by decide) w1;have:=of_decide_eq_true this;omega
  .simpa using mE (by decide) w2
 refine⟨by show r.ab.length<=8;omega,by show r.os.length<=8;omega,ho,by show r.zs.length<=64;omega,zdb r,zdd r,λi hi=>(wait i hi).1,λi hi k hk=>?_,λk hk=>?_,λi hi=>?_,λi hi=>?_,λk hk=>?_,λk hk=>?_,λj hj=>?_⟩
 .obtain⟨w1,w2⟩:=wait i hi
  have bp:k<(nth r.wt i).length:=by rw[w1];exact hk
  have hm:=kI bp;have:=xC.1 w2 _ hm;have:=kQ.1 (by simpa using this);exact this
 .have:=C k hk;obtain⟨_,n2⟩:=bW this;obtain⟨_,n3⟩:=bW n2;obtain⟨n4,_⟩:=bW n3;exact kQ.1 (mE (by decide) n4)
 .have:=O i hi;obtain⟨_,n2⟩:=bW this;obtain⟨_,n3⟩:=bW n2;obtain⟨n4,_⟩:=bW n3;have:=mE (by decide) n4;rw[di] at this;exact kQ.1 this.1
 .have:=O i hi;obtain⟨_,n2⟩:=bW this;obtain⟨_,n3⟩:=bW n2;obtain⟨n4,_⟩:=bW n3;have:=mE (by decide) n4;rw[di] at this;exact kQ.1 this.2
 .have:=C k hk;obtain⟨n1,n2⟩:=bW this;obtain⟨n2,_⟩:=bW n2;exact⟨mE (by decide) n1,not_true (mE (by decide) n2)⟩
 .have:=O k hk;obtain⟨n1,n2⟩:=bW this;obtain⟨n2,_⟩:=bW n2;exact⟨mE (by decide) n1,not_true (mE (by decide) n2)⟩
 .have:=Z j hj;unfold jG at this;obtain⟨n1,_⟩:=bW this;have:=mE (by decide) n1;rw[di] at this;exact⟨kQ.1 this.1,kQ.1 this.2⟩
end Go.Proofs.YthpkmilhiganjaaGreat
namespace Go.Proofs.YthpkmilhiganjaaGreat
open Go Go.Fi
variable[ak]
def mK(row:List Bool)(w p:List Int)(m0:Int):Nat->Int
 |0=>m0
 |k+1=>if nth row k then (if nth w k+nth p k<mK row w p m0 k then nth w k+nth p k else mK row w p m0 k) else mK row w p m0 k
@[simp]theorem zf5(row:List Bool)(w p:List Int)(m0:Int):mK row w p m0 0=m0:=rfl
def eB(x:Rd)(i:Nat)(p:List Int):Int:=mK (nth x.fit i) (nth x.wt i) p (de (nth x.os i).2.2.2.toNat) (nth x.fit i).length
theorem zde(x:Rd)(i:Nat)(p:List Int)(hi:i<x.os.length)(hc:x.ab.length<100000)(aa:i<x.fit.length)(ax:i<x.wt.length)(hr:(nth x.fit i).length=x.ab.length)(ay:(nth x.wt i).length=x.ab.length)(aw:p.length=x.ab.length)(hx:0<=(nth x.os i).2.2.2/\(nth x.os i).2.2.2<=6)(hw:∀k,k<x.ab.length->0<=nth (nth x.wt i) k/\nth (nth x.wt i) k<=100000)(hp:∀k,k<x.ab.length->-100000000000000<=nth p k/\nth p k<=100000000000000):aB Tz.prog 73 [x.pv,.int .i64 i,.sl p.length (ints p)] (.int .i64 (eB x i p)) true:=by
 obtain⟨ab,os,wt,zs,fit⟩:=x;unfold Rd.pv eB;simp only[] at hi hc aa ax hr ay aw hx hw hp ⊢;generalize hq:(nth os i).2.2.2=q at hx ⊢;obtain⟨u,rfl⟩:∃u:Nat,q=u:=⟨q.toNat,by omega⟩;have c1:=rF u (by omega);simp only[fM];generalize de u=m0 at c1 ⊢;have kw:=keep hw;have kp:=keep hp;have kr:=keep hr;have kwr:=keep ay;have kpl:=keep aw;have kc:=keep hc;clear hw hp hr ay aw hx hc;refine rcK Tz.func73 ?_;simp only[Tryz.results73,Tryz.ntmps73]
 repeat' first|(with_reducible first|apply aj|apply af|refine And.intro ?_ ?_|refine cw (c1) ?_|intro _)|(simp[*,hi,aa,hq])|(refine ar (c1) ?_ ?_;(· (simp[*];done)))
 all_goals first
  |omega
  |skip
 refine eD (λ(k:Nat)=>k<=(nth fit i).length) [0,1,2,26,27] (λ(k:Nat)=>[(28,.w false false (.int .i64 k)),(7,.w false false (.int .i64 (mK (nth fit i) (nth wt i) p m0 k)))]) [] (λ(k:Nat)=>[]) (λ(k:Nat)=>(nth fit i).length-k) (λ(_u:Unit)=>True) [] (λ(_u:Unit)=>[(7,.w false false (.int .i64 (mK (nth fit i) (nth wt i) p m0 (nth fit i).length)))]) [] (λ(_u:Unit)=>[]) (0) (aR _) (by simp) (by simp) (λk hk=>?_) (λ_u hf=>?_)
 .have bv:=hk;by_cases h8:k<(nth fit i).length
  .have aq:k<ab.length:=by have:=kr;unfold br at this;omega
   have ho:k<(nth wt i).length:=by have:=kwr;unfold br at this;omega
   have bc:k<p.length:=by have:=kpl;unfold br at this;omega
   have bk:ab.length<100000:=kc;obtain⟨w1,w2⟩:=kw k aq;obtain⟨p1,p2⟩:=kp k aq;have c7:(nth fit i).length=ab.length:=kr
   have hz:k+1<=(nth fit i).length:=by omega
   have cl:(nth fit i).length-(k+1)<(nth fit i).length-k:=by omega
   have h':inI .i64 ((k:Int)+1):=aN (by omega) (by omega);have hh:inI .i64 (nth (nth wt i) k+nth p k):=aN (by omega) (by omega)
   have em:mK (nth fit i) (nth wt i) p m0 (k+1)=if nth (nth fit i) k then (if nth (nth wt i) k+nth p k<mK (nth fit i) (nth wt i) p m0 k then nth (nth wt i) k+nth p k else mK (nth fit i) (nth wt i) p m0 k) else mK (nth fit i) (nth wt i) p m0 k:=rfl
   clear w1 w2 p1 p2 c7 bk bv aq
   cases hb:nth (nth fit i) k with
   |true=>
    rw[hb] at em;simp only[aJ] at em
    repeat' first|(with_reducible first|apply aj|apply aI|apply aE|apply af|refine bm (id:=6) 18 mixed (by decide +kernel) ?_|apply au|intro _)|(simp[*,h8,hi,aa,ax,ho,bc,hb,h',hh])
    all_goals first
     |omega
     |assumption
     |(refine nx (k+1) ?_ ?_;(· exact hz);(refine aM ?_ ?_<;>first|trivial|(simp[*,em];done)))
   |false=>
    rw[hb] at em;simp only[bw,aQ] at em
    repeat' first|(with_reducible first|apply aj|apply aI|apply aE|apply af|apply au|intro _)|(simp[*,h8,hi,aa,ax,ho,bc,hb,h',hh])
    all_goals first
     |omega
     |assumption
     |(refine nx (k+1) ?_ ?_;(· exact hz);(refine aM ?_ ?_<;>first|trivial|(simp[*,em];done)))
  .have hg:k=(nth fit i).length:=by omega
   subst hg
   repeat' first|(with_reducible first|apply aj|apply aK|apply af|apply au|intro _)|(simp[*])
   all_goals first
    |omega
    |(refine bN () ?_ ?_;(· trivial);(refine aM ?_ ?_<;>first|trivial|(simp[*];done)))
 .repeat' first|(with_reducible first|apply aj|apply av|apply af|intro _)|(simp[*])
end Go.Proofs.YthpkmilhiganjaaGreat
namespace Go.Proofs.YthpkmilhiganjaaGreat
open Go Go.Fi
noncomputable instance instLD19:ak:=LD
def fh(l:List Int):Nat->Int
 |0=>0
 |k+1=>fh l k+nth l k
@[simp]theorem zff(l:List Int):fh l 0=0:=rfl
end Go.Proofs.YthpkmilhiganjaaGreat
namespace Go.Proofs.YthpkmilhiganjaaGreat
open Go Go.Fi
variable[ak]
def prio(x:Rd)(i:Nat):Nat:=(nth x.os i).2.2.2.toNat
def ez(x:Rd):Nat->Int
 |0=>0
 |k+1=>ez x k+de (prio x k)
@[simp]theorem zfg(x:Rd):ez x 0=0:=rfl
def rL(x:Rd)(i:Nat)(k:Int):Int:=nth (nth x.wt i) k.toNat
def cq(x:Rd)(plan:List Int):Nat->Int
 |0=>ez x x.os.length
 |k+1=>if nth plan k=-1 then cq x plan k else cq x plan k+(rL x k (nth plan k)-de (prio x k))
def eF(x:Rd)(plan:List Int):Int:=cq x plan plan.length
structure E3(x:Rd)(plan:List Int):Prop where
 len:plan.length=x.os.length
 at_:∀k,k<plan.length->nth plan k=-1\/(0<=nth plan k/\nth plan k<(x.ab.length:Int))
theorem BF(x:Rd)(ok:cE x)(i:Nat)(h:i<x.os.length):prio x i<=6/\((prio x i:Nat):Int)=(nth x.os i).2.2.2:=by
 have:=ok.pr i h;unfold prio;omega
theorem LK(x:Rd)(ok:cE x):∀k,k<=x.os.length->0<=ez x k/\ez x k<=1000000000000*(k:Int)
 |0,_=>⟨xE _,by simp⟩
 |k+1,h=>by
  have:=LK x ok k (by omega);have:=qI (prio x k) (BF x ok k (by omega)).1;unfold ez;omega
theorem zbw(x:Rd)(ok:cE x)(plan:List Int)(hp:E3 x plan):∀k,k<=plan.length->-(1000000000000*(k:Int))<=cq x plan k/\cq x plan k<=8000000000000+100000*(k:Int)
 |0,_=>by
  have:=LK x ok x.os.length (aD _);have:=ok.lo;unfold cq;omega
 |k+1,h=>by
  have hk:k<x.os.length:=by have:=hp.len;omega
  have h1:=zbw x ok plan hp k (by omega);have h2:=qI (prio x k) (BF x ok k hk).1;unfold cq;split
  .omega
  .rename_i a6;have h3:=(hp.at_ k (by omega)).resolve_left a6;have h4:=ok.wn k hk (nth plan k).toNat (by omega);unfold rL;omega
theorem zdf(x:Rd)(ok:cE x)(plan:List Int)(hp:E3 x plan):aB Tz.prog 78 [x.pv,.sl plan.length (ints plan)] (.int .i64 (eF x plan)) true:=by
 have b1:=LK x ok;have b2:=zbw x ok plan hp
 have b3:=λi hi=>BF x ok i hi
 have b4:=ok.wn;have b5:=ok.wr;have lo:=ok.lo;have lw:=ok.lw;have hl:=hp.len;have ha:=hp.at_;have eC:eF x plan=cq x plan plan.length:=rfl;have e0:cq x plan 0=ez x x.os.length:=rfl
 have eS:∀k,cq x plan (k+1)=if nth plan k=-1 then cq x plan k else cq x plan k+(rL x k (nth plan k)-de (prio x k)):=λ_=>rfl
 have eP:∀k,ez x (k+1)=ez x k+de (prio x k):=λ_=>rfl
 unfold rL at eS;rw[eC];generalize hCK:cq x plan=CK at *;generalize hPK:ez x=PK at *;generalize hx:prio x=pr at *
 have bg:PK 0=0:=by rw[<-hPK];rfl
 clear hCK hPK eC hp
 have h9:∀i,pr i=(nth x.os i).2.2.2.toNat:=λi=>by rw[<-hx];rfl
 clear hx ok;obtain⟨ab,os,wt,zs,fit⟩:=x;unfold Rd.pv;simp only[] at b1 b2 b3 b4 b5 lo lw hl ha e0 eS eP h9 ⊢;have kk:=keep (And.intro b1 (And.intro b2 (And.intro b3 (And.intro b4 (And.intro b5 (And.intro lo (And.intro lw (And.intro hl (And.intro ha (And.intro e0 (And.intro eS (And.intro eP h9))))))))))));clear b1 b2 b3 b4 b5 lo lw hl ha e0 eS eP h9;refine wo Tz.func78 (by kernel_rfl) rfl (ga (by kernel_rfl)) ?_;simp only[Tryz.results78,Tryz.ntmps78];refine mY (mX ?_)
 repeat' first|(with_reducible first|apply af|intro _)|(simp[*])
 refine mY (mX ?_)
 repeat' first|(with_reducible first|apply af|intro _)|(simp[*])
 refine mY (mX ?_)
 repeat' first|(with_reducible first|apply aj|apply af|intro _)|(simp[*])
 refine gj 2 (λ(k:Nat)=>k<=os.length) [1,2,5,14,15] (λ(k:Nat)=>[(16,.w false false (.int .i64 k))]) [0] (λ(k:Nat)=>[(1,[.w false false (.int .i64 (PK k))])]) (λ(k:Nat)=>os.length-k) (λ(_u:Unit)=>True) [1,2,5] (λ(_u:Unit)=>[]) [0] (λ(_u:Unit)=>[(1,[.w false false (.int .i64 (PK os.length))])]) (0) (aR _) (bU [] (by simp[bg]) (by simp[bg])) (λk hk=>?_) (λ_u hf=>?_)
 .by_cases h8:k<os.length
  .obtain⟨b1,b2,b3,b4,b5,lo,lw,hl,ha,e0,eS,eP,h9⟩:=kk;have h1:=b3 k h8;have h2:=b1 k hk;have h3:=qI (pr k) h1.1;have c1:=rF (pr k) h1.1;have h4:=eP k;have h6:(nth os k).2.2.2=((pr k:Nat):Int):=h1.2.symm;have h':inI .i64 (PK k+de (pr k)):=aN (by omega) (by omega);have hh:inI .i64 ((k:Int)+1):=aN (by omega) (by omega)
   have hz:k+1<=os.length:=by omega
   generalize de (pr k)=pp at *;clear b1 b2 b3 b4 b5 lo lw hl ha e0 eS eP h9 h2 h3 h1
   repeat' first|(with_reducible first|apply aj|apply aI|apply aE|apply af|refine bm (id:=5) 5 mixed (by decide +kernel) ?_|apply au|refine And.intro ?_ ?_|refine cw (c1) ?_|intro _)|(simp[*,h8,h',hh,h6,Tw.cJ])|(refine ar (c1) ?_ ?_;(· (simp[*];done)))
   all_goals first
    |omega
    |assumption
    |(refine nx (k+1) ?_ ?_;(· exact hz);(refine bU [] ?_ ?_<;>first|trivial|(simp[*,h4];done)))
  .have hg:k=os.length:=by omega
   subst hg
   repeat' first|(with_reducible first|apply aj|apply aK|apply af|apply au|intro _)|(simp[*,h8])
   all_goals first
    |omega
    |(refine bN () ?_ ?_;(· trivial);(refine aM ?_ ?_<;>first|trivial|(simp[*];done)))
 .refine mY (mY (mX ?_));have cs:=N6 ⟨ab,os,wt,zs,fit⟩ plan;unfold Rd.pv at cs;simp only[] at cs
  repeat' first|(with_reducible first|apply af|refine And.intro ?_ ?_|refine cw (cs) ?_|intro _)|(simp[*])|(refine ar (cs) ?_ ?_;(· (simp[*];done)))
  clear cs;refine wm (AD (gf:=122) (aF:=[.w false false (.ip [.sl plan.length (ints plan)] 0),.w false false (.ip [.ip [.sl ab.length (bf ab),.sl os.length (ba os),.sl wt.length (bP wt),.sl zs.length (aZ zs),.sl fit.length (oT fit)] 0] 0)]) ?_ Tz.func122 (by kernel_rfl) rfl (ga (by kernel_rfl)) (λl=>?_))
  .rfl
  simp only[Tryz.results122,Tryz.ntmps122];simp
  repeat' first|(with_reducible first|apply aj|apply af|intro _)|(simp[*])
  all_goals try first|exact aN (by omega) (by omega)|omega
  have e0:CK 0=PK os.length:=kk.2.2.2.2.2.2.2.2.2.1;refine gj 2 (λ(k:Nat)=>k<=plan.length) [0,2,6,7] (λ(k:Nat)=>[(8,.w false false (.int .i64 k))]) [0] (λ(k:Nat)=>[(1,[.w false false (.int .i64 (CK k))])]) (λ(k:Nat)=>plan.length-k) (λ(_u:Unit)=>True) [] (λ(_u:Unit)=>[]) [0] (λ(_u:Unit)=>[(1,[.w false false (.int .i64 (CK plan.length))])]) (0) (aR _) (bU [] (by simp[e0]) (by simp[e0])) (λk hk=>?_) (λ_u hf=>?_)
  .clear e0;by_cases h8:k<plan.length
   .obtain⟨b1,b2,b3,b4,b5,lo,lw,hl,ha,e0,eS,eP,h9⟩:=kk
    have ag:k<os.length:=by omega
    have ho:k<wt.length:=by omega
    have bb:(k:Int)<8:=by omega
    have h1:=b3 k ag;have h2:=b2 k hk;have b6:=b2 (k+1) (by omega);have h3:=qI (pr k) h1.1;have c1:=rF (pr k) h1.1;have h4:=eS k;have h6:(nth os k).2.2.2=((pr k:Nat):Int):=h1.2.symm;have hn:=ha k h8;have hr:=b5 k ag;have hw:=b4 k ag;have hh:inI .i64 ((k:Int)+1):=aN (by omega) (by omega)
    have hz:k+1<=plan.length:=by omega
    clear b1 b2 b3 b4 b5 lo lw hl ha e0 eS eP h9;generalize hq:nth plan k=q at *
    rcases hn with hn|hn
    .rw[az hn] at h4;subst hn;clear h1 h2 b6 h3 c1 hr hw h6 bb
     repeat' first|(with_reducible first|refine wq (id:=3) 16 ?_ ?_|apply aj|apply aI|apply aE|apply af|apply au|intro _)|(simp[*,h8,hq,hh])
     all_goals first
      |omega
      |assumption
      |(refine nx (k+1) ?_ ?_;(· exact hz);(refine bU [] ?_ ?_<;>first|trivial|(simp[*,h4];done)))
    .have a6:¬q=-1:=by omega
     obtain⟨m,rfl⟩:∃m:Nat,q=m:=⟨q.toNat,by omega⟩;rw[ai a6] at h4
     have hm:m<(nth wt k).length:=by omega
     have c9:=hw m (by omega);simp only[fM] at h4;generalize de (pr k)=pp at *;generalize cf:nth (nth wt k) m=W at *
     have h':inI .i64 (CK k+(W-pp)):=by rw[<-h4];exact aN (by omega) (by omega)
     have bn:inI .i64 (W-pp):=aN (by omega) (by omega);clear h1 h2 b6 h3 hr hw hn c9 bb
     repeat' first|(with_reducible first|refine wq (id:=3) 16 ?_ ?_|apply aj|apply aI|apply aE|apply af|apply au|intro _)|(simp[*,h8,ho,hq,hh,a6,hm])
     all_goals try first|omega|assumption
     refine AP rfl (by simp) ?_
     repeat' first|(with_reducible first|apply aj|apply cT|apply af|refine bm (id:=10) 14 mixed (by decide +kernel) ?_|refine And.intro ?_ ?_|refine cw (c1) ?_|intro _)|(simp[*,ag,h6,h',bn,cf])|(refine ar (c1) ?_ ?_;(· (simp[*];done)))
     all_goals try first|omega|assumption
     refine Gg [(1,[.w false false (.int .i64 (CK (k+1)))]),(0,[.w false false (.ip [.sl ab.length (bf ab),.sl os.length (ba os),.sl wt.length (bP wt),.sl zs.length (aZ zs),.sl fit.length (oT fit)] 0)])] 2 46 ?_ ?_
     .refine bU [] ?_ ?_<;>first|trivial|(simp[h4];done)
     repeat' first|(with_reducible first|apply aE|apply af|apply au|intro _)|(simp[*,h8,ho,hq,hh,a6,hm])
     all_goals first
      |omega
      |assumption
      |(refine nx (k+1) ?_ ?_;(· exact hz);(refine bU [] ?_ ?_<;>first|trivial|(simp[*];done)))
   .have hg:k=plan.length:=by omega
    subst hg
    repeat' first|(with_reducible first|apply aj|apply aK|apply af|apply au|intro _)|(simp[*,h8])
    all_goals first
     |omega
     |(refine bN () ?_ ?_;(· trivial);(refine aM ?_ ?_<;>first|trivial|(simp[*];done)))
  .repeat' first|(with_reducible first|intro _)|(simp[*])
   simp[fI];refine mY (mX ?_)
   repeat' first|(with_reducible first|apply af|intro _)|(simp[*])
   refine mX ?_
   repeat' first|(with_reducible first|apply av|intro _)|(simp[*])
def iA(l:List Int):List AV:=(ints l).map (AV.w false false)
@[simp]theorem zdg(l:List Int):(iA l).length=l.length:=by simp[iA]
@[simp]theorem zfh(l:List Int)(i:Nat)(h:i<l.length):kZ (iA l) i=.w false false (.int .i64 (nth l i)):=by
 unfold iA;rw[FH _ _ _ (by simpa using h),NG l i h]
@[simp]theorem zdh(l:List Int)(i:Nat)(v:Int):(iA l).set i (.w false false (.int .i64 v))=iA (l.set i v):=by
 simp[iA,ints,List.map_set]
@[simp]theorem zf7(l:List Int)(n:Nat):AV.lt.ltL n (iA l)=true:=sT n false false (ints l)
@[simp]theorem zfi{D:List Nat}{h:ae}{n n':Nat}(l:List Int):gD D h n n' (iA l) (iA l)=True:=eq_true (og false false _)
@[simp high] theorem zfj(h:ae)(d:Nat)(l:List Int):(iA l).mapM (frz h d)=some (ints l):=vZ h d false false (ints l)
@[simp]theorem zbx:∀l:List Int,fD (ints l)=true
 |[]=>rfl
 |x::r=>by have:=zbx r;simpa[ints,fD,flat] using this
@[simp high] theorem zfk(h:ae)(d:Nat)(l:List Int):(iA l).all (dY h d)=true:=sS h d false false (ints l) (zbx l)
theorem zdi(k:Nat)(o f:Bool)(p:PV):List.replicate k (AV.w o f p)=(List.replicate k p).map (AV.w o f):=by simp
@[simp]theorem zfl{D:List Nat}{h:ae}{n n':Nat}(k:Nat)(o f:Bool)(p:PV):gD D h n n' (List.replicate k (.w o f p)) (List.replicate k (.w o f p))=True:=by rw[zdi];exact eq_true (og o f _)
@[simp]theorem LS(a b:List Int):iA a++iA b=iA (a++b):=by simp[iA,ints]
def b9(f:Nat->Int)(d:Int)(n j:Nat):List Int:=(List.range j).map f++List.replicate (n-j) d
@[simp]theorem Mk(f:Nat->Int)(d:Int)(n j:Nat)(h:j<=n):(b9 f d n j).length=n:=by simp[b9];omega
theorem zby(f:Nat->Int)(d:Int)(n j:Nat)(h:j<n):(b9 f d n j).set j (f j)=b9 f d n (j+1):=by
 unfold b9;rw[List.set_append,ai (by simp),hZ,oV,Iz,show n-j=(n-(j+1))+1 by omega,Ck,List.set_cons_zero,xx,Ct,List.append_assoc];rfl
theorem zbz(f:Nat->Int)(d:Int)(n:Nat):iA (b9 f d n 0)=List.replicate n (.w false false (.int .i64 d)):=by simp[iA,ints,b9]
theorem zb0(f:Nat->Int)(d:Int)(n:Nat):b9 f d n n=(List.range n).map f:=by simp[b9]
def cm(l:List (List Int)):List AV:=l.map λx=>AV.w true false (.sl x.length (ints x))
@[simp]theorem zfm(l:List (List Int)):(cm l).length=l.length:=by simp[cm]
theorem MS(l:List (List Int)):cm l=(l.map λx=>PV.sl x.length (ints x)).map (AV.w true false):=by simp[cm,Function.comp_def]
@[simp]theorem zfn(l:List (List Int))(n:Nat):AV.lt.ltL n (cm l)=true:=by rw[MS];exact sT n true false _
@[simp]theorem zfo{D:List Nat}{h:ae}{n n':Nat}(l:List (List Int)):gD D h n n' (cm l) (cm l)=True:=by rw[MS];exact eq_true (og true false _)
def kx(l:List (List Int)):List PV:=l.map λx=>PV.sl x.length (ints x)
@[simp high] theorem zfp(h:ae)(d:Nat)(l:List (List Int)):(cm l).mapM (frz h d)=some (kx l):=by rw[MS];exact vZ h d true false _
@[simp high] theorem zfq(h:ae)(d:Nat)(l:List (List Int)):(cm l).all (dY h d)=true:=by
 unfold cm;rw[List.all_map,fR];intro x _
 cases d<;>rfl
@[simp]theorem zfr(l:List (List Int)):(kx l).length=l.length:=by simp[kx]
@[simp]theorem zfs(l:List (List Int))(i:Nat)(h:i<l.length):dL (kx l) i=.sl (nth l i).length (ints (nth l i)):=sK (λx:List Int=>PV.sl x.length (ints x)) l i h
def pw(x:Rd)(i j:Nat):Int:=
 if j<x.ab.length/\nth (nth x.fit i) j=true then nth (nth x.wt i) j else if j=x.ab.length+i then de (prio x i) else 1000000000000000
def mF(x:Rd)(i:Nat):List Int:=(List.range (x.ab.length+x.os.length)).map (pw x i)
def dS(x:Rd)(n:Nat):List (List Int):=(List.range n).map (mF x)
theorem zdj(x:Rd)(n:Nat):dS x (n+1)=dS x n++[mF x n]:=by simp[dS,xx]
@[simp]theorem zb1(x:Rd)(n:Nat):(dS x n).length=n:=by simp[dS]
@[simp]theorem zdk(x:Rd)(i:Nat):(mF x i).length=x.ab.length+x.os.length:=by simp[mF]
theorem zdl(x:Rd)(n:Nat):cm (dS x (n+1))=cm (dS x n)++[.w true false (.sl (x.ab.length+x.os.length) (ints (mF x n)))]:=by
 rw[zdj];simp[cm]
def pI(M:List (Int×Int)):List (PV×PV):=M.map λp=>(.int .i64 p.1,.int .i64 p.2)
def mI(M:List (Int×Int)):List AV:=[fU (pI M)]
def cC:List (Int×Int)->Int->Option Int
 |[],_=>none
 |p::r,k=>if k=p.1 then some p.2 else cC r k
def sf:List (Int×Int)->Int->Int->List (Int×Int)
 |[],k,v=>[(k,v)]
 |p::r,k,v=>if k=p.1 then (k,v)::r else p::sf r k v
theorem zdm:[fU []]=mI []:=rfl
@[simp]theorem zft(M:List (Int×Int)):(mI M).length=1:=rfl
@[simp]theorem zf8(M:List (Int×Int))(n:Nat):AV.lt.ltL n (mI M)=true:=rfl
@[simp]theorem zfu{D:List Nat}{h:ae}{n n':Nat}(M:List (Int×Int)):gD D h n n' (mI M) (mI M)=True:=eq_true ⟨Oe _ _ _,trivial⟩
theorem zb2(M:List (Int×Int)):eH (mI M)=some (pI M):=yc _
theorem zc8(M:List (Int×Int))(k:Int):okM (.int .i64) (.int .i64 k) (pI M)=true:=by
 simp[okM,okK,isLit,pI,fR]
theorem zdn(M:List (Int×Int))(k:Int):jU (pI M) (.int .i64 k)=(cC M k).map (PV.int .i64):=by
 induction M with
 |nil=>rfl
 |cons p r ih=>
  have e:eqK (.int .i64 k) (.int .i64 p.1)=decide (k=p.1):=by simp[eqK]
  show (if eqK (.int .i64 k) (.int .i64 p.1)=true then some (PV.int .i64 p.2) else jU (pI r) (.int .i64 k))=_;rw[e];simp only[cC,decide_eq_true_eq];split
  .rfl
  .exact ih
theorem zdo(M:List (Int×Int))(k:Int)(v:Int):iq (pI M) (.int .i64 k) (.int .i64 v)=pI (sf M k v):=by
 induction M with
 |nil=>rfl
 |cons p r ih=>
  have e:eqK (.int .i64 k) (.int .i64 p.1)=decide (k=p.1):=by simp[eqK]
  show (if eqK (.int .i64 k) (.int .i64 p.1)=true then (PV.int .i64 k,PV.int .i64 v)::pI r else (PV.int .i64 p.1,PV.int .i64 p.2)::iq (pI r) (.int .i64 k) (.int .i64 v))=_;rw[e];simp only[sf,decide_eq_true_eq];split
  .rfl
  .rw[ih];rfl
theorem qc{P:Program}{t:TypeId}(hm:jV P t=some (.int .i64,.int .i64 0))(M:List (Int×Int))(o f:Bool)(k:Int)(c:Bool):lkV P t (some (mI M)) (.w o f (.int .i64 k)) c=some (True,xc c (cC M k),[]):=by
 unfold lkV;simp only[iP,zb2,hm,zc8,zdn]
 cases c<;>cases cC M k<;>rfl
@[simp]theorem zfv(h:ae)(id:Nat)(M:List (Int×Int))(z:PV)(o f o' f':Bool)(k:Int)(v:Int):rG h id (some (mI M)) (some (.int .i64,z)) (.w o f (.int .i64 k)) (.w o' f' (.int .i64 v))=some (True,bu h id (mI (sf M k v))):=by
 unfold rG;simp only[iP,zb2,zc8,isLit,and_self,zdo];rfl
theorem ze4:jV Tz.prog 157=some (.int .i64,.int .i64 0):=by kernel_rfl
def cX(ex:List Int)(k:Nat):Bool:=!(ex.any λy=>decide ((k:Int)=y))
def eM(ex:List Int)(n:Nat):List Nat:=(List.range n).filter (cX ex)
def cH(ex:List Int)(k:Nat):Nat:=(eM ex k).length
def eQ(ex:List Int)(n:Nat):List (Int×Int):=(eM ex n).map λk:Nat=>((k:Int),(cH ex k:Int))
theorem Ak(ex:List Int)(n:Nat):eM ex (n+1)=if cX ex n then eM ex n++[n] else eM ex n:=by
 unfold eM;rw[xx,List.filter_append]
 cases h:cX ex n<;>simp[h]
theorem zdp(ex:List Int)(n k:Nat)(h:k∈eM ex n):k<n:=by
 unfold eM at h;simpa using (qo.1 h).1
theorem PC(ex:List Int)(n:Nat):(eM ex n).length<=n:=by
 unfold eM;exact b7 (List.length_filter_le _ _) (by simp)
theorem zb3:∀(M:List (Int×Int))(k v:Int),(∀p∈M,p.1≠k)->sf M k v=M++[(k,v)]
 |[],_,_,_=>rfl
 |p::r,k,v,h=>by
  unfold sf;rw[ai (λe=>h p iR e.symm),zb3 r k v λq hq=>h q (dQ _ hq)];rfl
theorem zb4(ex:List Int)(n:Nat):sf (eQ ex n) (n:Int) (cH ex n:Int)=eQ ex n++[((n:Int),(cH ex n:Int))]:=by
 refine zb3 _ _ _ λp hp=>?_
 obtain⟨k,hk,rfl⟩:=lK.1 hp;have:=zdp ex n k hk;simp only[ne_eq];omega
theorem PE(ex:List Int)(n:Nat):eQ ex (n+1)=if cX ex n then sf (eQ ex n) (n:Int) (cH ex n:Int) else eQ ex n:=by
 rw[zb4];unfold eQ;rw[Ak]
 cases cX ex n<;>simp
theorem zb5:∀(M N:List (Int×Int))(k:Int),cC (M++N) k=(cC M k).or (cC N k)
 |[],N,k=>by simp[cC]
 |p::r,N,k=>by
  simp only[oW,cC];split
  .rfl
  .exact zb5 r N k
theorem D4(ex:List Int)(v:Int):∀n,cC (eQ ex n) v=if 0<=v/\v<(n:Int)/\cX ex v.toNat=true then some (cH ex v.toNat:Int) else none
 |0=>by
  rw[ai (by omega)];rfl
 |n+1=>by
  have ih:=D4 ex v n;rw[PE]
  cases hk:cX ex n with
  |false=>
   simp only[bw,aQ];rw[ih];by_cases h:0<=v/\v<(n:Int)/\cX ex v.toNat=true
   .rw[az h,az ⟨h.1,by omega,h.2.2⟩]
   .rw[ai h,ai]
    rintro⟨h1,h2,h3⟩
    by_cases hn:v=(n:Int)
    .subst hn;rw[fM,hk] at h3;cases h3
    .exact h ⟨h1,by omega,h3⟩
  |true=>
   simp only[aJ];rw[zb4,zb5,ih];by_cases hn:v=(n:Int)
   .subst hn;rw[ai (by omega),az ⟨by omega,by omega,by rw[fM];exact hk⟩];simp[cC]
   .have e:cC [((n:Int),(cH ex n:Int))] v=none:=by simp[cC,hn]
    rw[e];by_cases h:0<=v/\v<(n:Int)/\cX ex v.toNat=true
    .rw[az h,az ⟨h.1,by omega,h.2.2⟩];rfl
    .rw[ai h,ai]
     .rfl
     rintro⟨h1,h2,h3⟩
     exact h ⟨h1,by omega,h3⟩
def hH(x:Rd)(cs:List Int)(k:Nat):List Car:=(eM cs k).map λj=>nth x.ab j
def fb(x:Rd)(os:List Int)(k:Nat):List Ord:=(eM os k).map λj=>nth x.os j
def kz(x:Rd)(cs:List Int)(i k:Nat):List Int:=(eM cs k).map λj=>nth (nth x.wt i) j
def kB(x:Rd)(os cs:List Int)(k:Nat):List (List Int):=(eM os k).map λi=>kz x cs i x.ab.length
def mH(os cs:List Int)(n c:Nat)(p:Par):List Par:=
 match cC (eQ os n) p.1,cC (eQ cs c) p.2 with
 |some a,some b=>[(a,b)]
 |_,_=>[]
def ku(x:Rd)(os cs:List Int)(k:Nat):List Par:=(x.zs.take k).flatMap (mH os cs x.os.length x.ab.length)
def cA(l:List PV):List AV:=l.map (AV.w false false)
@[simp]theorem PO(l:List PV):(cA l).length=l.length:=by simp[cA]
@[simp]theorem zf9(l:List PV)(n:Nat):AV.lt.ltL n (cA l)=true:=sT n false false l
@[simp]theorem zfw{D:List Nat}{h:ae}{n n':Nat}(l:List PV):gD D h n n' (cA l) (cA l)=True:=eq_true (og false false _)
@[simp high] theorem zfx(h:ae)(d:Nat)(l:List PV):(cA l).mapM (frz h d)=some l:=vZ h d false false l
theorem P2(a b:List PV):cA (a++b)=cA a++cA b:=by simp[cA]
theorem zdq(l:List Car)(c:Car):cA (bf (l++[c]))=cA (bf l)++[.w false false (.str c.1),.w false false (.int .i64 c.2.1),.w false false (.bool c.2.2)]:=by
 unfold bf;rw[Cu,P2];rfl
theorem zdr(l:List Ord)(c:Ord):cA (ba (l++[c]))=cA (ba l)++[.w false false (.str c.1),.w false false (.int .i64 c.2.1),.w false false (.bool c.2.2.1),.w false false (.int .i64 c.2.2.2)]:=by
 unfold ba;rw[Cu,P2];rfl
theorem P3(l:List Par)(c:Par):cA (aZ (l++[c]))=cA (aZ l)++[.w false false (.int .i64 c.1),.w false false (.int .i64 c.2)]:=by
 unfold aZ;rw[Cu,P2];rfl
theorem zb6(l:List Car):(cA (bf l)).length=l.length*3:=by rw[PO];exact Tw.tK (f:=Tw.dM) (s:=3) (λ_=>rfl) l
theorem zb7(l:List Ord):(cA (ba l)).length=l.length*4:=by rw[PO];exact Tw.tK (f:=Tw.cJ) (s:=4) (λ_=>rfl) l
theorem CN(l:List Par):(cA (aZ l)).length=l.length*2:=by rw[PO];exact Tw.tK (f:=Tw.cg) (s:=2) (λ_=>rfl) l
theorem zb8:∀l:List Car,fD (bf l)=true
 |[]=>rfl
 |x::r=>by have:=zb8 r;simpa[bf,Tw.dM,fD,flat] using this
theorem zb9:∀l:List Ord,fD (ba l)=true
 |[]=>rfl
 |x::r=>by have:=zb9 r;simpa[ba,Tw.cJ,fD,flat] using this
theorem zca:∀l:List Par,fD (aZ l)=true
 |[]=>rfl
 |x::r=>by have:=zca r;simpa[aZ,Tw.cg,fD,flat] using this
@[simp high] theorem zfy(h:ae)(d:Nat)(l:List Car):(cA (bf l)).all (dY h d)=true:=sS h d false false _ (zb8 l)
@[simp high] theorem zfz(h:ae)(d:Nat)(l:List Ord):(cA (ba l)).all (dY h d)=true:=sS h d false false _ (zb9 l)
@[simp high] theorem zf0(h:ae)(d:Nat)(l:List Par):(cA (aZ l)).all (dY h d)=true:=sS h d false false _ (zca l)
theorem zds(l:List (List Int))(r:List Int):cm (l++[r])=cm l++[.w true false (.sl r.length (ints r))]:=by simp[cm]
theorem zdt(l:List (List Int)):kx l=bP l:=rfl
theorem zdu(n:Nat)(h:n<4294967296):aB Tz.prog 154 [.int .u64 1,.int .u64 n] (.tup [.int .u64 0,.int .u64 n]) true:=by
 have h1:(n:Int) / 4294967296=0:=by omega
 have h2:(n:Int)<4294967296:=by omega
 have h3:inI .u64 (n:Int):=by constructor<;>simp[IntKind.min,IntKind.max,IntKind.bits,IntKind.signed]<;>omega
 have h0:inI .u64 0:=by constructor<;>simp[IntKind.min,IntKind.max,IntKind.bits,IntKind.signed]
 refine rcK Tz.func154 ?_;simp only[Tryz.results154,Tryz.ntmps154]
 repeat' first|(with_reducible first|apply aj|apply av|apply af|intro _)|(simp[*,h1,h2,h3,h0])
 all_goals exact h0
theorem ze5(n:Nat)(h:n<4294967296):aB Tz.prog 118 [.int .u64 1,.int .u64 n] (.tup [.int .u64 0,.int .u64 n]) true:=by
 have c:=zdu n h;refine rcK Tz.func118 ?_;simp only[Tryz.results118,Tryz.ntmps118]
 repeat' first|(with_reducible first|apply aj|apply aE|apply av|apply af|apply au|refine And.intro ?_ ?_|refine cw (c) ?_|intro _)|(simp[*])|(refine ar (c) ?_ ?_;(· (simp[*];done)))
theorem zcb:∀(r c:List AV)(o:Nat),o+r.length<=c.length->∀j,(setAt c o r)[j]?=if o<=j/\j<o+r.length then r[j-o]? else c[j]?
 |[],c,o,_,j=>by
  unfold setAt;rw[ai (by simp)]
 |a::r,c,o,h,j=>by
  unfold setAt;rw[zcb r (c.set o a) (o+1) (by simp at h ⊢;omega) j];simp only[gu] at h ⊢;by_cases h1:o=j
  .subst h1;rw[ai (by omega),az (by omega),Iz];simp only[xk];rw[List.getElem?_set_self (by omega)]
  .by_cases h2:o+1<=j/\j<o+1+r.length
   .rw[az h2,az (by omega),show j-o=(j-(o+1))+1 by omega,tX]
   .rw[ai h2,ai (by omega),List.getElem?_set_ne h1]
theorem RR(v:Int)(n m j:Nat)(h:m<=n):(iA (b9 (λ_=>v) 0 n m))[j]?=if j<m then some (AV.w false false (.int .i64 v)) else if j<n then some (AV.w false false (.int .i64 0)) else none:=by
 unfold iA ints b9;simp only[Ct,List.map_map,List.map_replicate,Ii,hZ,oV,gH,So];split
 .rename_i hj;rw[rP hj];rfl
 .split
  .rw[az (by omega)]
  .rw[ai (by omega)]
theorem zdv(v:Int)(n m k:Nat)(h1:m+k<=n)(h2:k<=m):setAt (iA (b9 (λ_=>v) 0 n m)) m ((iA (b9 (λ_=>v) 0 n m)).take k)=iA (b9 (λ_=>v) 0 n (m+k)):=by
 have hl:((iA (b9 (λ_=>v) 0 n m)).take k).length=k:=by simp[b9];omega
 refine ug λj=>?_
 have c5:(iA (b9 (λ_=>v) 0 n m)).length=n:=by rw[zdg,Mk _ _ _ _ (by omega)]
 rw[zcb _ _ _ (by rw[hl,c5];omega),hl,RR _ _ _ _ (by omega),RR _ _ _ _ h1,jH,RR _ _ _ _ (by omega)];by_cases ha:m<=j/\j<m+k
 .rw[az ha,az (by omega),az (by omega),az (by omega)]
 .rw[ai ha];by_cases hb:j<m
  .rw[az hb,az (by omega)]
  .rw[ai hb,ai (show ¬j<m+k by omega)]
@[simp]theorem zgb(c:Nat)(l:List Int):AV.sh.shL c (iA l)=iA l:=by
 unfold iA
 induction ints l with
 |nil=>rfl
 |cons x l ih=>simp only[nN,AV.sh.shL,AV.sh,ih]
theorem zdw(l:List Int):AV.frs.jb (iA l)=true:=by
 unfold iA ints
 induction l with
 |nil=>rfl
 |cons x l ih=>simpa[AV.frs.jb,AV.frs,flat] using ih
theorem D5(v:Int)(n:Nat)(h:n<100000):jz Tz.prog 81 [.sl 1 [.int .i64 v],.int .i64 n] [iA (List.replicate n v)] (.msl 0 n 1 0 n):=by
 have c:=ze5 n (by omega)
 have h3:inI .u64 (n:Int):=by constructor<;>simp[IntKind.min,IntKind.max,IntKind.bits,IntKind.signed]<;>omega
 have a':inI .u64 1:=by constructor<;>simp[IntKind.min,IntKind.max,IntKind.bits,IntKind.signed]
 have h4:¬(n:Int)<0:=by omega
 have h5:¬(9223372036854775807:Int)<(n:Int):=by omega
 have h6:inI .i64 (n:Int):=aN (by omega) (by omega)
 have h7:(n:Int)<=1000000000:=by omega
 have hE:=zdw (List.replicate n v);refine sY 0 [] Tz.func81 (by kernel_rfl) rfl (ga (by kernel_rfl)) (by simp) (by simpa using hE) ?_;simp only[Tryz.results81,Tryz.ntmps81];clear hE
 rcases jI n with h0|h0
 .subst h0;have b':inI .u64 0:=h3;have bh:inI .i64 0:=h6;clear h3 h4 h5 h6 h7
  repeat' first|(with_reducible first|apply aj|apply aE|apply af|apply au|refine And.intro ?_ ?_|refine cw (c) ?_|intro _)|(simp[*,b',a',bh])|(refine ar (c) ?_ ?_;(· (simp[*];done)))
  all_goals try first|exact b'|exact bh|exact a'
  clear c;refine gj 1 (λ(m:Nat)=>m=0) [7] (λ(m:Nat)=>[(8,.w false false (.int .i64 0))]) [] (λ(m:Nat)=>[(0,[])]) (λ(m:Nat)=>0) (λ(_u:Unit)=>True) [7] (λ(_u:Unit)=>[]) [] (λ(_u:Unit)=>[(0,[])]) (0) rfl (bU [] (by simp) (by simp)) (λm hk=>?_) (λ_u hf=>?_)
  .subst hk
   repeat' first|(with_reducible first|apply aj|apply aK|apply af|apply au|intro _)|(simp[*])
   all_goals (refine bN () ?_ ?_;(· trivial);(refine aM ?_ ?_<;>first|trivial|(simp[*];done)))
  .repeat' first|(with_reducible first|apply aj|apply av|apply af|intro _)|(simp[*])
   exact og false false []
 .have a5:min 1 n=1:=by omega
  have e1:(List.replicate n (AV.w false false (.int .i64 0))).set 0 (.w false false (.int .i64 v))=iA (b9 (λ_=>v) 0 n 1):=by
   have:=zby (λ_=>v) 0 n 0 h0;rw[<-this,<-zdh,zbz]
  repeat' first|(with_reducible first|apply aj|apply aE|apply af|apply au|refine And.intro ?_ ?_|refine cw (c) ?_|intro _)|(simp[*,h3,a',h4,h5,h6,h7,a5])|(refine ar (c) ?_ ?_;(· (simp[*];done)))
  all_goals try omega
  clear c a5 h4 h5;refine gj 1 (λ(m:Nat)=>m<=n/\1<=m) [7] (λ(m:Nat)=>[(8,.w false false (.int .i64 m))]) [] (λ(m:Nat)=>[(0,iA (b9 (λ_=>v) 0 n m))]) (λ(m:Nat)=>n-m) (λ(_u:Unit)=>True) [7] (λ(_u:Unit)=>[]) [] (λ(_u:Unit)=>[(0,iA (List.replicate n v))]) (1) ⟨h0,aD _⟩ (bU [] (by simp[e1]) (by simp[e1])) (λm hk=>?_) (λ_u hf=>?_)
  .clear e1;obtain⟨hk,ck⟩:=hk;by_cases h8:m<n
   .have hl:(b9 (λ_=>v) 0 n m).length=n:=Mk _ _ _ _ hk;obtain⟨kk,c2⟩:∃kk,min m (n-m)=kk:=⟨_,rfl⟩
    have c3:kk<=m:=by omega
    have bd:m+kk<=n:=by omega
    have c4:¬kk=n:=by omega
    have ao:kk<=n:=by omega
    have bq:1<=kk:=by omega
    have c6:dh ((iA (b9 (λ_=>v) 0 n m)).take kk)=true:=by
     unfold iA;rw[<-List.map_take];refine wh false false _ (fR.2 λy hy=>?_);obtain⟨z,_,rfl⟩:=lK.1 (List.mem_of_mem_take hy);rfl
    have c8:=zdv v n m kk bd c3;have h':inI .i64 ((m:Int)+(kk:Int)):=aN (by omega) (by omega);have cj:m+kk<=n/\1<=m+kk:=⟨bd,by omega⟩;clear h3 a' h6 h7 h0
    repeat' first|(with_reducible first|apply aj|apply cT|apply aE|apply af|refine qF (id:=9) [0,1,2,3,4,5,6] [7,8,9] [[.slot 7],[],[],[],[],[],[]] [[.slot 7],[],[]] mixed (by decide +kernel) ?_|apply au|refine And.intro ?_ ?_|intro _)|(simp[*,h8,hl,c2,c4,c6,h',c8,ao])
    all_goals first
     |omega
     |assumption
     |exact oZ.2 rfl
     |(refine nx (m+kk) ?_ ?_;(· exact cj);(refine aM ?_ ?_<;>first|trivial|(simp[*];done)))
   .have hg:m=n:=by omega
    subst hg
    have e2:b9 (λ_=>v) 0 m m=List.replicate m v:=by
     rw[zb0]
     refine ug λj=>?_
     simp only[gH,So];split
     .rename_i hj;rw[rP hj];rfl
     .rename_i hj;rw[Ik (by simp;omega)];rfl
    repeat' first|(with_reducible first|apply aj|apply aK|apply af|apply au|intro _)|(simp[*,h8])
    all_goals first
     |omega
     |(refine bN () ?_ ?_;(· trivial);(refine aM ?_ ?_<;>first|trivial|(simp[*,e2];done)))
  .clear e1
   repeat' first|(with_reducible first|apply aj|apply av|apply af|intro _)|(simp[*])
end Go.Proofs.YthpkmilhiganjaaGreat
