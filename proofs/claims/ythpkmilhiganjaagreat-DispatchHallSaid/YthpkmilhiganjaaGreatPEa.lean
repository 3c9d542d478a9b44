/- Lemmas. -/
import Derived.Test.YthpkmilhiganjaaGreatPDb
import Derived.Test.YthpkmilhiganjaaGreatPLg
import Derived.Test.YthpkmilhiganjaaGreatPLd
set_option linter.all false
set_option maxHeartbeats 32000000
set_option maxRecDepth 100000
namespace Go.Proofs.YthpkmilhiganjaaGreat
open Go Go.Fi
noncomputable instance instLD14:av:=LD
theorem Li(r:Tw.RND):(aj r).fit.length=(aj r).os.length:=by simp[aj]
theorem Lj(r:Tw.RND)(i:Nat):(Tw.lE r i).length=r.ab.length:=by
 simp[Tw.lE,Tw.Cv,Tw.jE,Tw.odR]
theorem LC(r:Tw.RND)(i:Nat)(h:i<(aj r).os.length):(nth (aj r).fit i).length=(aj r).ab.length:=by
 have hi:i<r.os.length:=h;simp only[aj,nth,bS,gD,sI hi,du,gk];exact Lj r i
theorem lU{α:Type}[Inhabited α]{E:Nat->α->Int}:∀{l:List α}{k:Nat},(dk E l k).2=0->∀j,j<l.length->E (k+j) (nth l j)=0
 |[],k,_,j,hj=>absurd hj (by simp)
 |x::r,k,h,j,hj=>by
  unfold dk at h;by_cases he:E k x=0
  .rw[aB he] at h
   cases j with
   |zero=>exact he
   |succ j=>
    have:=lU h j (by simpa using hj);rw[show k+(j+1)=k+1+j by omega];exact this
  .rw[ar he] at h;exact absurd h he
theorem rE{α:Type}[Inhabited α]{nm:α->ByteArray}{mr:α->Int}{l:List α}:∀{r:List α}{k:Nat},(fq nm mr l r k).2=0->∀j,j<r.length->g7 nm mr l (k+j) (nth r j)=0
 |[],k,_,j,hj=>absurd hj (by simp)
 |x::r,k,h,j,hj=>by
  unfold fq at h;by_cases he:g7 nm mr l k x=0
  .rw[aB he] at h
   cases j with
   |zero=>exact he
   |succ j=>
    have:=rE h j (by simpa using hj);rw[show k+(j+1)=k+1+j by omega];exact this
  .rw[ar he] at h;exact absurd h he
theorem cE{e:Int}{r:List Int}(h:cX (e::r)=0):e=0/\cX r=0:=by
 unfold cX at h;split at h
 .rename_i he;exact⟨he,h⟩
 .rename_i he;exact absurd h he
theorem eF{b:Bool}{e:Int}(he:e≠0)(h:ba b e=0):b=true:=by
 unfold ba at h
 cases b with
 |true=>rfl
 |false=>exact absurd h he
theorem ic{n lo hi:Int}:aU n lo hi=true↔lo<=n/\n<=hi:=by simp[aU]
theorem not_true{b:Bool}(h:(!b)=true):b=false:=by cases b<;>simp_all
structure kW(x:Rd):Prop where
 lc:x.ab.length<=8
 lo:x.os.length<=8
 lw:x.wt.length=x.os.length
 lz:x.zs.length<=64
 lf:x.fit.length=x.os.length
 fr:∀i,i<x.os.length->(nth x.fit i).length=x.ab.length
 wr:∀i,i<x.os.length->(nth x.wt i).length=x.ab.length
 wn:∀i,i<x.os.length->∀k,k<x.ab.length->0<=nth (nth x.wt i) k/\nth (nth x.wt i) k<=100000
 sc:∀k,k<x.ab.length->1<=(nth x.ab k).2.1/\(nth x.ab k).2.1<=8
 so:∀i,i<x.os.length->1<=(nth x.os i).2.1/\(nth x.os i).2.1<=8
 pr:∀i,i<x.os.length->0<=(nth x.os i).2.2.2/\(nth x.os i).2.2.2<=6
 nc:∀k,k<x.ab.length->fF (nth x.ab k).1=true/\((x.ab.take k).any λy=>decide (y.1=(nth x.ab k).1))=false
 no:∀k,k<x.os.length->fF (nth x.os k).1=true/\((x.os.take k).any λy=>decide (y.1=(nth x.os k).1))=false
 zr:∀j,j<x.zs.length->(0<=(nth x.zs j).1/\(nth x.zs j).1<=(x.os.length:Int)-1)/\(0<=(nth x.zs j).2/\(nth x.zs j).2<=(x.ab.length:Int)-1)
theorem k6(r:Tw.RND)(h:ceR r=0):kW (aj r):=by
 unfold ceR g9 at h;split at h
 .simp at h
 rename_i g1;split at h
 .rename_i h2;exact absurd h h2
 rename_i g2;split at h
 .simp at h
 rename_i g3;split at h
 .rename_i h2;exact absurd h h2
 rename_i g4;split at h
 .simp at h
 rename_i g5;have a9:=Br h
 have hw:(dk (λ_=>gj r.ab.length) r.wt 0).2=0:=by
  unfold fU at h;split at h
  .rename_i h1;exact absurd h h1
  .rename_i h1;simpa using h1
 rw[a9] at h;unfold g8 at h;split at h
 .simp at h
 rename_i g6;have bq:(fq Prod.fst fG r.ab r.ab 0).2=0:=oz.1 g2;have bv:(fq Prod.fst eH r.os r.os 0).2=0:=oz.1 g4
 have C:=λj hj=>rE bq j hj
 have O:=λj hj=>rE bv j hj
 have W:=λj hj=>lU hw j hj
 have Z:=λj hj=>lU h j hj
 simp only[cY] at C O W Z
 have b7:r.wt.length=r.os.length:=by omega
 have wait:∀i,i<r.os.length->(nth r.wt i).length=r.ab.length/\((nth r.wt i).any λx=>!aU x 0 100000)=false:=λi hi=>by
  have:=W i (by omega);unfold gj at this;obtain⟨w1,w2⟩:=cE this;obtain⟨w2,_⟩:=cE w2;refine⟨?_,?_⟩
  .have:=eF (by decide) w1;have:=of_decide_eq_true this;omega
  .simpa using eF (by decide) w2
 refine⟨by show r.ab.length<=8;omega,by show r.os.length<=8;omega,b7,by show r.zs.length<=64;omega,Li r,LC r,λi hi=>(wait i hi).1,λi hi k hk=>?_,λk hk=>?_,λi hi=>?_,λi hi=>?_,λk hk=>?_,λk hk=>?_,λj hj=>?_⟩
 .obtain⟨w1,w2⟩:=wait i hi
  have c2:k<(nth r.wt i).length:=by rw[w1];exact hk
  have hm:=eJ c2;have:=mY.1 w2 _ hm;have:=ic.1 (by simpa using this);exact this
 .have:=C k hk;obtain⟨_,n2⟩:=cE this;obtain⟨_,n3⟩:=cE n2;obtain⟨n4,_⟩:=cE n3;exact ic.1 (eF (by decide) n4)
 .have:=O i hi;obtain⟨_,n2⟩:=cE this;obtain⟨_,n3⟩:=cE n2;obtain⟨n4,_⟩:=cE n3;have:=eF (by decide) n4;rw[bU] at this;exact ic.1 this.1
 .have:=O i hi;obtain⟨_,n2⟩:=cE this;obtain⟨_,n3⟩:=cE n2;obtain⟨n4,_⟩:=cE n3;have:=eF (by decide) n4;rw[bU] at this;exact ic.1 this.2
 .have:=C k hk;obtain⟨n1,n2⟩:=cE this;obtain⟨n2,_⟩:=cE n2;exact⟨eF (by decide) n1,not_true (eF (by decide) n2)⟩
 .have:=O k hk;obtain⟨n1,n2⟩:=cE this;obtain⟨n2,_⟩:=cE n2;exact⟨eF (by decide) n1,not_true (eF (by decide) n2)⟩
 .have:=Z j hj;unfold jJ at this;obtain⟨n1,_⟩:=cE this;have:=eF (by decide) n1;rw[bU] at this;exact⟨ic.1 this.1,ic.1 this.2⟩
end Go.Proofs.YthpkmilhiganjaaGreat
namespace Go.Proofs.YthpkmilhiganjaaGreat
open Go Go.Fi
variable[av]
def mK(row:List Bool)(w p:List Int)(m0:Int):Nat->Int
 |0=>m0
 |k+1=>if nth row k then (if nth w k+nth p k<mK row w p m0 k then nth w k+nth p k else mK row w p m0 k) else mK row w p m0 k
@[simp]theorem zds(row:List Bool)(w p:List Int)(m0:Int):mK row w p m0 0=m0:=rfl
end Go.Proofs.YthpkmilhiganjaaGreat
namespace Go.Proofs.YthpkmilhiganjaaGreat
open Go Go.Fi
noncomputable instance instLD19:av:=LD
def D4(l:List Int):Nat->Int
 |0=>0
 |k+1=>D4 l k+nth l k
@[simp]theorem zdc(l:List Int):D4 l 0=0:=rfl
end Go.Proofs.YthpkmilhiganjaaGreat
namespace Go.Proofs.YthpkmilhiganjaaGreat
open Go Go.Fi
variable[av]
def prio(x:Rd)(i:Nat):Nat:=(nth x.os i).2.2.2.toNat
def D5(x:Rd):Nat->Int
 |0=>0
 |k+1=>D5 x k+bw (prio x k)
@[simp]theorem zdd(x:Rd):D5 x 0=0:=rfl
structure zcv(x:Rd)(plan:List Int):Prop where
 len:plan.length=x.os.length
 at_:∀k,k<plan.length->nth plan k=-1\/(0<=nth plan k/\nth plan k<(x.ab.length:Int))
def iA(l:List Int):List AV:=(ints l).map (AV.w false false)
@[simp]theorem LK(l:List Int):(iA l).length=l.length:=by simp[iA]
@[simp]theorem zde(l:List Int)(i:Nat)(h:i<l.length):lh (iA l) i=.w false false (.int .i64 (nth l i)):=by
 unfold iA;rw[Ge _ _ _ (by simpa using h),Oi l i h]
@[simp]theorem LO(l:List Int)(i:Nat)(v:Int):(iA l).set i (.w false false (.int .i64 v))=iA (l.set i v):=by
 simp[iA,ints,List.map_set]
@[simp]theorem zdv(l:List Int)(n:Nat):AV.lt.ltL n (iA l)=true:=qv n false false (ints l)
@[simp]theorem zdf{D:List Nat}{h:ak}{n n':Nat}(l:List Int):gZ D h n n' (iA l) (iA l)=True:=eq_true (oM false false _)
@[simp high] theorem zdg(h:ak)(d:Nat)(l:List Int):(iA l).mapM (frz h d)=some (ints l):=wY h d false false (ints l)
@[simp]theorem tC:∀l:List Int,fA (ints l)=true
 |[]=>rfl
 |x::r=>by have:=tC r;simpa[ints,fA,flat] using this
@[simp high] theorem zdh(h:ak)(d:Nat)(l:List Int):(iA l).all (dQ h d)=true:=tU h d false false (ints l) (tC l)
@[simp]theorem rL(a b:List Int):iA a++iA b=iA (a++b):=by simp[iA,ints]
def bM(f:Nat->Int)(d:Int)(n j:Nat):List Int:=(List.range j).map f++List.replicate (n-j) d
@[simp]theorem tP(f:Nat->Int)(d:Int)(n j:Nat)(h:j<=n):(bM f d n j).length=n:=by simp[bM];omega
theorem LP(f:Nat->Int)(d:Int)(n j:Nat)(h:j<n):(bM f d n j).set j (f j)=bM f d n (j+1):=by
 unfold bM;rw[List.set_append,ar (by simp),fI,pO,uU,show n-j=(n-(j+1))+1 by omega,CY,List.set_cons_zero,jN,ou,List.append_assoc];rfl
theorem LR(f:Nat->Int)(d:Int)(n:Nat):iA (bM f d n 0)=List.replicate n (.w false false (.int .i64 d)):=by simp[iA,ints,bM]
theorem LS(f:Nat->Int)(d:Int)(n:Nat):bM f d n n=(List.range n).map f:=by simp[bM]
def cH(l:List (List Int)):List AV:=l.map λx=>AV.w true false (.sl x.length (ints x))
@[simp]theorem zdi(l:List (List Int)):(cH l).length=l.length:=by simp[cH]
theorem vb(l:List (List Int)):cH l=(l.map λx=>PV.sl x.length (ints x)).map (AV.w true false):=by simp[cH,Function.comp_def]
@[simp]theorem zdj{D:List Nat}{h:ak}{n n':Nat}(l:List (List Int)):gZ D h n n' (cH l) (cH l)=True:=by rw[vb];exact eq_true (oM true false _)
def nV(l:List (List Int)):List PV:=l.map λx=>PV.sl x.length (ints x)
@[simp high] theorem zdk(h:ak)(d:Nat)(l:List (List Int)):(cH l).mapM (frz h d)=some (nV l):=by rw[vb];exact wY h d true false _
@[simp high] theorem zdl(h:ak)(d:Nat)(l:List (List Int)):(cH l).all (dQ h d)=true:=by
 unfold cH;rw[List.all_map,eh];intro x _
 cases d<;>rfl
@[simp]theorem zdm(l:List (List Int)):(nV l).length=l.length:=by simp[nV]
def zcx(x:Rd)(i j:Nat):Int:=
 if j<x.ab.length/\nth (nth x.fit i) j=true then nth (nth x.wt i) j else if j=x.ab.length+i then bw (prio x i) else 1000000000000000
def zcy(x:Rd)(i:Nat):List Int:=(List.range (x.ab.length+x.os.length)).map (zcx x i)
def zcz(x:Rd)(n:Nat):List (List Int):=(List.range n).map (zcy x)
end Go.Proofs.YthpkmilhiganjaaGreat
namespace Go.Proofs.YthpkmilhiganjaaGreat
open Go Go.Fi
abbrev FS:=List Int×List Bool
def fh(x:Rd)(most:Int)(i k:Nat)(sn:List Bool):Bool:=!nth (nth x.fit i) k || nth sn k || decide (most<nth (nth x.wt i) k)
def bW(rc:Nat->FS->Bool×FS)(x:Rd)(most:Int)(i:Nat):Nat->FS->Bool×FS
 |0,s=>(false,s)
 |m+1,s=>
  let k:=x.ab.length-(m+1)
  if fh x most i k s.2 then bW rc x most i m s
  else if nth s.1 k<0 then (true,s.1.set k i,s.2.set k true)
  else if (rc (nth s.1 k).toNat (s.1,s.2.set k true)).1 then (true,(rc (nth s.1 k).toNat (s.1,s.2.set k true)).2.1.set k i,(rc (nth s.1 k).toNat (s.1,s.2.set k true)).2.2)
  else bW rc x most i m (rc (nth s.1 k).toNat (s.1,s.2.set k true)).2
def bL(x:Rd)(most:Int):Nat->Nat->FS->Bool×FS
 |0,_,s=>(false,s)
 |f+1,i,s=>bW (bL x most f) x most i x.ab.length s
def bl(sn:List Bool):Nat:=sn.countP λb=>!b
structure cq(x:Rd)(s:FS):Prop where
 l1:s.1.length=x.ab.length
 l2:s.2.length=x.ab.length
 rg:∀k,k<x.ab.length->nth s.1 k=-1\/(0<=nth s.1 k/\nth s.1 k<(x.os.length:Int))
theorem kO{α:Type}[Inhabited α](l:List α)(i j:Nat)(v:α)(h:i<l.length):nth (l.set i v) j=if i=j then v else nth l j:=by
 unfold nth;simp only[bS,CZ];split
 .rename_i e;subst e;simp[h]
 .rfl
theorem lV:∀(l:List Bool)(k:Nat),k<l.length->nth l k=false->bl (l.set k true)+1=bl l
 |[],k,h,_=>absurd h (by simp)
 |b::r,0,_,h=>by
  have:b=false:=h;subst this;simp[bl,List.countP_cons]
 |b::r,k+1,h,hb=>by
  have:=lV r k (by simpa using h) hb;simp only[bl,List.set_cons_succ,List.countP_cons] at this ⊢;omega
theorem r4{x:Rd}{most:Int}{i k:Nat}{sn:List Bool}(h:¬fh x most i k sn=true):nth (nth x.fit i) k=true/\nth sn k=false/\nth (nth x.wt i) k<=most:=by
 simp only[fh,mW,gH,decide_eq_true_eq,not_or] at h;obtain⟨⟨h1,h2⟩,h3⟩:=h;exact⟨by simpa using h1,by simpa using h2,by omega⟩
structure pw(x:Rd)(s t:FS):Prop where
 ok:cq x t
 un:bl t.2<=bl s.2
theorem cq.seen{x:Rd}{s:FS}(h:cq x s)(k:Nat):cq x (s.1,s.2.set k true):=⟨h.l1,by simpa using h.l2,h.rg⟩
theorem cq.own{x:Rd}{s:FS}(h:cq x s){i k:Nat}(hi:i<x.os.length)(hk:k<x.ab.length):cq x (s.1.set k i,s.2):=
 ⟨by simpa using h.l1,h.l2,λj hj=>by
   show nth (s.1.set k i) j=-1\/_;rw[show nth (s.1.set k (i:Int)) j=if k=j then (i:Int) else nth s.1 j from kO _ _ _ _ (by rw[h.l1];exact hk)];split
   .exact .inr ⟨by omega,by omega⟩
   .exact h.rg j hj⟩
theorem sf{x:Rd}{most:Int}{i:Nat}(hi:i<x.os.length)(rc:Nat->FS->Bool×FS)(B:Nat)(b9:∀j s,j<x.os.length->cq x s->bl s.2<B->pw x s (rc j s).2):∀(m:Nat)(s:FS),m<=x.ab.length->cq x s->bl s.2<=B->pw x s (bW rc x most i m s).2
 |0,s,_,h,_=>⟨h,aE _⟩
 |m+1,s,hm,h,hu=>by
  unfold bW;simp only[]
  have hk:x.ab.length-(m+1)<x.ab.length:=by omega
  generalize x.ab.length-(m+1)=k at hk;split
  .exact sf hi rc B b9 m s (by omega) h hu
  .rename_i hs;obtain⟨_,h2,_⟩:=r4 hs;have bo:=lV s.2 k (by rw[h.l2];exact hk) h2;split
   .exact⟨⟨by simpa using h.l1,by simpa using h.l2,(h.own (i:=i) hi hk).rg⟩,by show bl (s.2.set k true)<=_;omega⟩
   .rename_i hn;have hr:=(h.rg k hk).resolve_left (by omega);have hg:=b9 (nth s.1 k).toNat (s.1,s.2.set k true) (by omega) (h.seen k) (by show bl (s.2.set k true)<_;omega);have cg:bl (rc (nth s.1 k).toNat (s.1,s.2.set k true)).2.2<=bl (s.2.set k true):=hg.un;split
    .exact⟨hg.ok.own hi hk,by show bl (rc (nth s.1 k).toNat (s.1,s.2.set k true)).2.2<=_;omega⟩
    .have:=sf (most:=most) hi rc B b9 m (rc (nth s.1 k).toNat (s.1,s.2.set k true)).2 (by omega) hg.ok (by omega);exact⟨this.ok,by have:=this.un;omega⟩
theorem kP{x:Rd}{most:Int}:∀(f:Nat)(i:Nat)(s:FS),i<x.os.length->cq x s->bl s.2<f->pw x s (bL x most f i s).2
 |0,_,_,_,_,h=>absurd h (by omega)
 |f+1,i,s,hi,h,hu=>sf hi _ f (λj s hj hs hu=>kP f j s hj hs hu) _ s (aE _) h (by omega)
def bd(x:Rd)(most:Int):Nat->List Int×Int
 |0=>(List.replicate x.ab.length (-1),0)
 |i+1=>
  ((bL x most (x.ab.length+1) i ((bd x most i).1,List.replicate x.ab.length false)).2.1,
    if (bL x most (x.ab.length+1) i ((bd x most i).1,List.replicate x.ab.length false)).1 then (bd x most i).2+1 else (bd x most i).2)
def bZ(tk:List Int)(n:Nat):Nat->List Int
 |0=>List.replicate n (-1)
 |k+1=>if 0<=nth tk k then (bZ tk n k).set (nth tk k).toNat k else bZ tk n k
def cM(x:Rd)(most:Int):List Int×Int:=(bZ (bd x most x.os.length).1 x.os.length x.ab.length,(bd x most x.os.length).2)
theorem ml(n:Nat):bl (List.replicate n false)=n:=by simp[bl,List.countP_replicate]
theorem mz(x:Rd)(most:Int):∀i,i<=x.os.length->cq x ((bd x most i).1,List.replicate x.ab.length false)/\0<=(bd x most i).2/\(bd x most i).2<=i
 |0,_=>⟨⟨by simp[bd],by simp,λk hk=>.inl (by simp[bd,nth,bS,hk])⟩,by simp[bd],by simp[bd]⟩
 |i+1,h=>by
  obtain⟨h1,h2,h3⟩:=mz x most i (by omega);have hg:=kP (x:=x) (most:=most) (x.ab.length+1) i _ (by omega) h1 (by show bl (List.replicate x.ab.length false)<_;rw[ml];omega);refine⟨⟨hg.ok.l1,by simp,hg.ok.rg⟩,?_,?_⟩
  .simp only[bd];split<;>omega
  .simp only[bd];split<;>omega
theorem kG(tk:List Int)(n:Nat):∀k,(bZ tk n k).length=n
 |0=>by simp[bZ]
 |k+1=>by
  unfold bZ;split
  .rw[oB];exact kG tk n k
  .exact kG tk n k
structure ScS where
 sl:List Int
 ah:List Int
 least:Int
 next:Int
def nvS(C:Nat->Nat->Int)(u v:List Int)(i j:Nat):Int:=C i j-nth u i-nth v j
def p0(C:Nat->Nat->Int)(u v:List Int)(sn:List Bool)(i:Nat)(at_:Int)(sl ah:List Int):Nat->ScS
 |0=>⟨sl,ah,10000000000000000,-1⟩
 |k+1=>
  let s:=p0 C u v sn i at_ sl ah k
  if nth sn k then s
  else
   let s1:ScS:=if nvS C u v i k<nth s.sl k then ⟨s.sl.set k (nvS C u v i k),s.ah.set k at_,s.least,s.next⟩ else s
   if nth s1.sl k<s1.least then ⟨s1.sl,s1.ah,nth s1.sl k,k⟩ else s1
def hH(sn:List Bool)(ow:List Int)(d:Int)(u v sl:List Int):Nat->List Int×List Int×List Int
 |0=>(u,v,sl)
 |k+1=>
  let s:=hH sn ow d u v sl k
  if nth sn k then (s.1.set (nth ow k).toNat (nth s.1 (nth ow k).toNat+d),s.2.1.set k (nth s.2.1 k-d),s.2.2)
  else (s.1,s.2.1,s.2.2.set k (nth s.2.2 k-d))
structure Ws where
 u:List Int
 v:List Int
 sl:List Int
 ah:List Int
 sn:List Bool
 at_:Int
 i:Nat
def bF(C:Nat->Nat->Int)(m:Nat)(w:Ws):ScS:=p0 C w.u w.v w.sn w.i w.at_ w.sl w.ah m
def tw(C:Nat->Nat->Int)(m:Nat)(ow:List Int)(row:Nat)(w:Ws):List Int×List Int×List Int:=
 hH w.sn ow (bF C m w).least (w.u.set row (nth w.u row+(bF C m w).least)) w.v (bF C m w).sl m
def D7(C:Nat->Nat->Int)(m:Nat)(ow:List Int)(row:Nat)(w:Ws):Ws:=
 ⟨(tw C m ow row w).1,(tw C m ow row w).2.1,(tw C m ow row w).2.2,(bF C m w).ah,w.sn.set (bF C m w).next.toNat true,(bF C m w).next,(nth ow (bF C m w).next.toNat).toNat⟩
def D8(C:Nat->Nat->Int)(m:Nat)(ow:List Int)(row:Nat):Nat->Ws->Ws
 |0,w=>w
 |f+1,w=>if nth ow (bF C m w).next.toNat<0 then D7 C m ow row w else D8 C m ow row f (D7 C m ow row w)
def D9(ah:List Int)(row:Nat):Nat->Int->List Int->List Int
 |0,_,ow=>ow
 |f+1,at_,ow=>if at_<0 then ow else D9 ah row f (nth ah at_.toNat) (ow.set at_.toNat (if nth ah at_.toNat<0 then (row:Int) else nth ow (nth ah at_.toNat).toNat))
structure Hs where
 u:List Int
 v:List Int
 ow:List Int
def ws0(m:Nat)(s:Hs)(row:Nat):Ws:=⟨s.u,s.v,List.replicate m 10000000000000000,List.replicate m (-1),List.replicate m false,-1,row⟩
def qc(C:Nat->Nat->Int)(m:Nat)(s:Hs)(row:Nat):Ws:=D8 C m s.ow row (m+1) (ws0 m s row)
def zc0(C:Nat->Nat->Int)(m:Nat)(s:Hs)(row:Nat):Hs:=
 ⟨(qc C m s row).u,(qc C m s row).v,D9 (qc C m s row).ah row (m+1) (qc C m s row).at_ s.ow⟩
def E2(C:Nat->Nat->Int)(n m:Nat):Nat->Hs
 |0=>⟨List.replicate n 0,List.replicate m 0,List.replicate m (-1)⟩
 |r+1=>zc0 C m (E2 C n m r) r
structure eU(C:Nat->Nat->Int)(u v:List Int)(sn:List Bool)(i:Nat)(at_:Int)(sl ah:List Int)(k:Nat)(s:ScS):Prop where
 l1:s.sl.length=sl.length
 l2:s.ah.length=ah.length
 esl:∀j,nth s.sl j=if j<k/\nth sn j=false/\nvS C u v i j<nth sl j then nvS C u v i j else nth sl j
 eah:∀j,nth s.ah j=if j<k/\nth sn j=false/\nvS C u v i j<nth sl j then at_ else nth ah j
 lo:∀j,j<k->nth sn j=false->s.least<=nth s.sl j
 nx:(s.next=-1/\s.least=10000000000000000)\/(0<=s.next/\s.next<(k:Int)/\nth sn s.next.toNat=false/\s.least=nth s.sl s.next.toNat)
structure zdw(sn:List Bool)(ow:List Int)(d:Int)(u v sl:List Int)(k:Nat)(t:List Int×List Int×List Int):Prop where
 l1:t.1.length=u.length
 l2:t.2.1.length=v.length
 l3:t.2.2.length=sl.length
 ut:∀l:Nat,(∃j,j<k/\nth sn j=true/\nth ow j=(l:Int))->nth t.1 l=nth u l+d
 uf:∀l:Nat,(¬∃j,j<k/\nth sn j=true/\nth ow j=(l:Int))->nth t.1 l=nth u l
 ev:∀j,nth t.2.1 j=if j<k/\nth sn j=true then nth v j-d else nth v j
 esl:∀j,nth t.2.2 j=if j<k/\nth sn j=false then nth sl j-d else nth sl j
structure Hp(C:Nat->Nat->Int)(n c:Nat):Prop where
 nn:n<=8
 cc:c<=8
 pr:∀i,i<n->0<=C i (c+i)/\C i (c+i)<=1000000000000
 ot:∀i l,i<n->l<n->l≠i->C i (c+l)=1000000000000000
 cr:∀i j,i<n->j<c->C i j=1000000000000000\/(0<=C i j/\C i j<=1000000000000)
theorem Hp.real{C:Nat->Nat->Int}{n c:Nat}(h:Hp C n c){i j:Nat}(hi:i<n)(hj:j<c+n)(hb:C i j<1000000000000000):j<c\/j=c+i:=by
 by_cases hc:j<c
 .exact .inl hc
 .obtain⟨l,rfl⟩:∃l,j=c+l:=⟨j-c,by omega⟩;by_cases hl:l=i
  .exact .inr (by omega)
  .rw[h.ot i l hi (by omega) hl] at hb;omega
structure MI(C:Nat->Nat->Int)(n c r:Nat)(u v ow:List Int):Prop where
 lu:u.length=n
 lv:v.length=c+n
 lo:ow.length=c+n
 hu:∀l,l<n->0<=nth u l
 hv:∀j,j<c+n->nth v j<=0
 hvz:∀j,j<c+n->nth ow j=-1->nth v j=0
 hvp:∀l,l<n->nth v (c+l)=0
 hf:∀l j,l<n->j<c+n->nth u l+nth v j<=C l j
 how:∀j,j<c+n->nth ow j=-1\/(0<=nth ow j/\nth ow j<(r:Int))
 dL:∀j k,j<c+n->k<c+n->0<=nth ow j->nth ow j=nth ow k->j=k
 ht:∀j,j<c+n->0<=nth ow j->nth u (nth ow j).toNat+nth v j=C (nth ow j).toNat j
 zc1:∀l,l<r->∃j,j<c+n/\nth ow j=(l:Int)
section
variable{C:Nat->Nat->Int}{n c row:Nat}{u v ow:List Int}
theorem MI.ub(m:MI C n c row u v ow)(h:Hp C n c){l:Nat}(hl:l<n):nth u l<=1000000000000:=by
 have h1:=m.hf l (c+l) hl (by omega);have h2:=m.hvp l hl;have h3:=h.pr l hl;omega
theorem MI.own(m:MI C n c row u v ow)(h:Hp C n c)(hr:row<=n){j:Nat}(hj:j<c+n)(ho:0<=nth ow j):j<c\/j=c+(nth ow j).toNat:=by
 rcases m.how j hj with h1|⟨_,h2⟩
 .omega
 .refine h.real (by omega) hj ?_;have h3:=m.ht j hj ho;have h4:=m.ub h (l:=(nth ow j).toNat) (by omega);have h5:=m.hv j hj;omega
end
def Tv(m row:Nat)(ow:List Int)(w:Ws)(l:Nat):Prop:=l=row\/∃j,j<m/\nth w.sn j=true/\nth ow j=(l:Int)
def Via(m row:Nat)(ow:List Int)(w:Ws)(j:Nat)(p:Nat->Prop):Prop:=
 (nth w.ah j=-1/\p row)\/(0<=nth w.ah j/\nth w.ah j<(m:Int)/\nth w.sn (nth w.ah j).toNat=true/\p (nth ow (nth w.ah j).toNat).toNat)
structure GI(C:Nat->Nat->Int)(n c row:Nat)(ow:List Int)(w:Ws):Prop where
 mi:MI C n c row w.u w.v ow
 ls:w.sl.length=c+n
 la:w.ah.length=c+n
 ln:w.sn.length=c+n
 hs:∀j,j<c+n->nth w.sn j=true->0<=nth ow j/\j<c
 hat:(w.at_=-1/\w.i=row/\∀j,j<c+n->nth w.sn j=false)\/(0<=w.at_/\w.at_<((c+n:Nat):Int)/\nth w.sn w.at_.toNat=true/\nth ow w.at_.toNat=(w.i:Int))
 h1:∀j,j<c+n->nth w.sn j=false->∀l,Tv (c+n) row ow w l->l≠w.i->nth w.sl j<=C l j-nth w.u l-nth w.v j
 h2:∀j,j<c+n->nth w.sn j=false->(nth w.sl j=10000000000000000/\w.at_=-1)\/Via (c+n) row ow w j λl=>nth w.sl j=C l j-nth w.u l-nth w.v j
 pth:∀j,j<c+n->nth w.sn j=true->Via (c+n) row ow w j λl=>nth w.u l+nth w.v j=C l j
 rk:∃rk:Nat->Nat,(∀j,j<c+n->nth w.sn j=true->rk j+bl w.sn<c+n)/\∀j,j<c+n->nth w.sn j=true->0<=nth w.ah j->rk (nth w.ah j).toNat<rk j
structure zdy(C:Nat->Nat->Int)(n c row:Nat)(ow:List Int)(w:Ws)(s:ScS):Prop where
 ok:eU C w.u w.v w.sn w.i w.at_ w.sl w.ah (c+n) s
 nx0:0<=s.next
 nx1:s.next<((c+n:Nat):Int)
 nx2:nth w.sn s.next.toNat=false
 d0:0<=s.least
 d1:s.least<=1000000000000
 dn:s.least=nth s.sl s.next.toNat
 lo:∀j,j<c+n->nth w.sn j=false->∀l,Tv (c+n) row ow w l->nth s.sl j<=C l j-nth w.u l-nth w.v j
 via:∀j,j<c+n->nth w.sn j=false->(nth s.ah j=-1/\nth s.sl j=C row j-nth w.u row-nth w.v j)\/(0<=nth s.ah j/\nth s.ah j<((c+n:Nat):Int)/\nth w.sn (nth s.ah j).toNat=true/\nth s.sl j=C (nth ow (nth s.ah j).toNat).toNat j-nth w.u (nth ow (nth s.ah j).toNat).toNat-nth w.v j)
 old:∀j,nth w.sn j=true->nth s.ah j=nth w.ah j
 car:s.next.toNat<c\/nth ow s.next.toNat=-1
structure zdz(C:Nat->Nat->Int)(n c row:Nat)(ow:List Int)(w:Ws):Prop where
 mi:MI C n c row w.u w.v ow
 la:w.ah.length=c+n
 a0:0<=w.at_
 a1:w.at_<((c+n:Nat):Int)
 a2:nth ow w.at_.toNat=-1
 a3:nth w.sn w.at_.toNat=true
 hs:∀j,j<c+n->nth w.sn j=true->(j:Int)≠w.at_->0<=nth ow j
 pth:∀j,j<c+n->nth w.sn j=true->Via (c+n) row ow w j λl=>nth w.u l+nth w.v j=C l j
 rk:∃rk:Nat->Nat,(∀j,j<c+n->nth w.sn j=true->rk j<c+n)/\(∀j,j<c+n->nth w.sn j=true->0<=nth w.ah j->rk (nth w.ah j).toNat<rk j)/\∀j,j<c+n->nth w.sn j=true->rk j<=rk w.at_.toNat
section
variable{C:Nat->Nat->Int}{n c row:Nat}{ow:List Int}{w:Ws}
structure zd0(C:Nat->Nat->Int)(n c row:Nat)(ow:List Int)(w:Ws)(s:ScS)(t:List Int×List Int×List Int):Prop where
 l1:t.1.length=n
 l2:t.2.1.length=c+n
 l3:t.2.2.length=c+n
 uT:∀l,Tv (c+n) row ow w l->nth t.1 l=nth w.u l+s.least
 uF:∀l,¬Tv (c+n) row ow w l->nth t.1 l=nth w.u l
 vT:∀j,j<c+n->nth w.sn j=true->nth t.2.1 j=nth w.v j-s.least
 vF:∀j,nth w.sn j=false->nth t.2.1 j=nth w.v j
 sF:∀j,j<c+n->nth w.sn j=false->nth t.2.2 j=nth s.sl j-s.least
structure Rnd(C:Nat->Nat->Int)(n c row:Nat)(ow:List Int)(w w':Ws):Prop where
 a0:0<=w'.at_
 a1:w'.at_<((c+n:Nat):Int)
 new:nth w.sn w'.at_.toNat=false
 sn:w'.sn=w.sn.set w'.at_.toNat true
 la:w'.ah.length=c+n
 pth:∀j,j<c+n->nth w'.sn j=true->Via (c+n) row ow w' j λl=>nth w'.u l+nth w'.v j=C l j
 rk:∃rk:Nat->Nat,(∀j,j<c+n->nth w'.sn j=true->rk j+bl w'.sn<c+n)/\(∀j,j<c+n->nth w'.sn j=true->0<=nth w'.ah j->rk (nth w'.ah j).toNat<rk j)/\∀j,j<c+n->nth w'.sn j=true->rk j<=rk w'.at_.toNat
end
theorem mC{α:Type}[Inhabited α](m:Nat)(a:α)(j:Nat)(h:j<m):nth (List.replicate m a) j=a:=by
 simp[nth,bS,h]
structure AI(C:Nat->Nat->Int)(n c row:Nat)(u v ow:List Int)(sn:List Bool)(rk:Nat->Nat)(at_:Nat)(ow1:List Int):Prop where
 lo:ow1.length=c+n
 how:∀j,j<c+n->j≠at_->nth ow1 j=-1\/(0<=nth ow1 j/\nth ow1 j<(row:Int))
 dL:∀j k,j<c+n->k<c+n->j≠at_->k≠at_->0<=nth ow1 j->nth ow1 j=nth ow1 k->j=k
 ht:∀j,j<c+n->j≠at_->0<=nth ow1 j->nth u (nth ow1 j).toNat+nth v j=C (nth ow1 j).toNat j
 zc1:∀l,l<row->∃j,j<c+n/\j≠at_/\nth ow1 j=(l:Int)
 hz:∀j,j<c+n->j≠at_->nth ow1 j=-1->nth ow j=-1
 same:∀j,j<c+n->nth sn j=true->rk j<rk at_->nth ow1 j=nth ow j
structure zd2(C:Nat->Nat->Int)(n m row:Nat)(ow:List Int)(w:Ws):Prop where
 hin:w.i<n
 lu:w.u.length=n
 lv:w.v.length=m
 ls:w.sl.length=m
 la:w.ah.length=m
 ln:w.sn.length=m
 nv:∀k,k<m->inI .i64 (C w.i k-nth w.u w.i)/\inI .i64 (C w.i k-nth w.u w.i-nth w.v k)
 sk:∀k,k<=m->(p0 C w.u w.v w.sn w.i w.at_ w.sl w.ah k).sl.length=m/\(p0 C w.u w.v w.sn w.i w.at_ w.sl w.ah k).ah.length=m
 ur:inI .i64 (nth w.u row+(bF C m w).least)
 tk:∀k,k<=m->(hH w.sn ow (bF C m w).least (w.u.set row (nth w.u row+(bF C m w).least)) w.v (bF C m w).sl k).1.length=n/\(hH w.sn ow (bF C m w).least (w.u.set row (nth w.u row+(bF C m w).least)) w.v (bF C m w).sl k).2.1.length=m /\
  (hH w.sn ow (bF C m w).least (w.u.set row (nth w.u row+(bF C m w).least)) w.v (bF C m w).sl k).2.2.length=m
 ts:∀k,k<m->nth w.sn k=true->∃l:Nat,nth ow k=l/\l<n/\inI .i64 (nth (hH w.sn ow (bF C m w).least (w.u.set row (nth w.u row+(bF C m w).least)) w.v (bF C m w).sl k).1 l+(bF C m w).least) /\
  inI .i64 (nth (hH w.sn ow (bF C m w).least (w.u.set row (nth w.u row+(bF C m w).least)) w.v (bF C m w).sl k).2.1 k-(bF C m w).least)
 tf:∀k,k<m->nth w.sn k=false->inI .i64 (nth (hH w.sn ow (bF C m w).least (w.u.set row (nth w.u row+(bF C m w).least)) w.v (bF C m w).sl k).2.2 k-(bF C m w).least)
 nx:∃a:Nat,(bF C m w).next=a/\a<m
end Go.Proofs.YthpkmilhiganjaaGreat
namespace Go.Proofs.YthpkmilhiganjaaGreat
open Go Go.Fi
variable[av]
def bA(l:List Bool):List AV:=(oe l).map (AV.w false false)
@[simp]theorem zdn(l:List Bool):(bA l).length=l.length:=by simp[bA]
@[simp]theorem zdo(l:List Bool)(i:Nat)(h:i<l.length):lh (bA l) i=.w false false (.bool (nth l i)):=by
 unfold bA;rw[Ge _ _ _ (by simpa using h),OE l i h]
@[simp]theorem zdp(l:List Bool)(i:Nat)(v:Bool):(bA l).set i (.w false false (.bool v))=bA (l.set i v):=by
 simp[bA,oe,List.map_set]
@[simp]theorem zd3(l:List Bool)(n:Nat):AV.lt.ltL n (bA l)=true:=qv n false false (oe l)
theorem LW(n:Nat)(b:Bool):bA (List.replicate n b)=List.replicate n (.w false false (.bool b)):=by simp[bA,oe]
def ez:List AV:=[.ptr 0 1 0,.ptr 1 1 0,.ptr 4 1 0,.ptr 5 1 0]
def mH(x:Rd)(most:Int)(s:FS):ak:=
 [(6,bA s.2),(3,iA s.1),(0,[.w false false x.pv]),(1,[.w false false (.int .i64 most)]),(4,[.msl 3 x.ab.length 1 0 x.ab.length]),(5,[.fn 119 ez])]
theorem wu(x:Rd)(ok:kW x)(most:Int):∀(f i:Nat)(s:FS)(K:AV->ak->Nat->Prop),i<x.os.length->cq x s->bl s.2<f->K (.w false false (.bool (bL x most f i s).1)) (mH x most (bL x most f i s).2) 7->bm ⟨7,none⟩ Tz.prog (Tryz.f119.body.getD .skip) ⟨dR 0 ([.w false false (.int .i64 i),.msl 6 x.ab.length 1 0 x.ab.length]++ez),mH x most s,7,Tryz.f119.ntmps⟩ (fp Tz.prog Tryz.f119.results.toList K)
 |0,_,_,_,_,_,h,_=>absurd h (by omega)
 |f+1,i,s,K,hi,hs,hu,hK=>by
  have ih:=wu x ok most f
  have hgo:=λj s hj hs hu=>kP (x:=x) (most:=most) f j s hj hs hu
  have eR:bL x most (f+1) i s=bW (bL x most f) x most i (x.ab.length-0) s:=rfl;rw[eR] at hK
  have eL:∀(k:Nat)(s:FS),k<x.ab.length->bW (bL x most f) x most i (x.ab.length-k) s =
   if fh x most i k s.2 then bW (bL x most f) x most i (x.ab.length-(k+1)) s
   else if nth s.1 k<0 then (true,s.1.set k i,s.2.set k true)
   else if (bL x most f (nth s.1 k).toNat (s.1,s.2.set k true)).1 then (true,(bL x most f (nth s.1 k).toNat (s.1,s.2.set k true)).2.1.set k i,(bL x most f (nth s.1 k).toNat (s.1,s.2.set k true)).2.2)
   else bW (bL x most f) x most i (x.ab.length-(k+1)) (bL x most f (nth s.1 k).toNat (s.1,s.2.set k true)).2:=λk s hk=>by
   rw[show x.ab.length-k=(x.ab.length-(k+1))+1 by omega]
   conv=>lhs;unfold bW
   simp only[];rw[show x.ab.length-(x.ab.length-(k+1)+1)=k by omega]
  have eN:∀s:FS,bW (bL x most f) x most i (x.ab.length-x.ab.length) s=(false,s):=λs=>by rw[uU];rfl
  generalize hFL:bW (bL x most f) x most i=FL at hK eL eN;generalize hR:FL (x.ab.length-0) s=R at hK;clear eR hFL;have c7:=ok.lf;have b7:=ok.lw;have h':=ok.fr i hi;have a4:=ok.wr i hi
  have a5:i<x.fit.length:=by omega
  have ay:i<x.wt.length:=by omega
  have hx:=ok.lc;have kk:=keep (And.intro ih (And.intro hgo (And.intro eL (And.intro eN (And.intro hK (And.intro h' (And.intro a4 (And.intro hx ok))))))));have kR:=keep hR;have ks:=keep hs;have ku:=keep hu;clear ih hgo eL eN hK hR hs hu c7 b7 h' a4 ok hx;have hb:Tryz.f119.body=some _:=rfl;rw[hb];clear hb;simp only[gk,Tryz.ntmps119,Tryz.results119];unfold mH ez Rd.pv
  repeat' first|(with_reducible first|apply ai|apply af|intro _)|(simp[*,hi,a5])
  refine bQ (λ(y:Nat×FS)=>y.1<=x.ab.length/\cq x y.2/\bl y.2.2<f+1/\FL (x.ab.length-y.1) y.2=R) [0,1,2,3,4,5,17,18] (λ(y:Nat×FS)=>[(19,.w false false (.int .i64 y.1))]) [0,1,4,5] (λ(y:Nat×FS)=>[(6,bA y.2.2),(3,iA y.2.1)]) (λ(y:Nat×FS)=>x.ab.length-y.1) (λ(t:FS)=>R=(false,t)) [] (λ(t:FS)=>[]) [0,1,4,5] (λ(t:FS)=>[(6,bA t.2),(3,iA t.1)]) ((0,s)) ⟨aK _,ks,ku,kR⟩ (by simp) (by simp) (λy hk=>?_) (λt hf=>?_)
  .obtain⟨k,s'⟩:=y;obtain⟨hk,hs,hu,hj⟩:=hk;dsimp only at hk hs hu hj ⊢;obtain⟨tk,sn⟩:=s';dsimp only at hk hs hu hj ⊢;clear kR ks ku;obtain⟨ih,hgo,eL,eN,hK,h',a4,hx,ok⟩:=kk;by_cases h8:k<x.ab.length
   .have hq:k<(nth x.fit i).length:=by omega
    have b6:k<(nth x.wt i).length:=by omega
    have a':k<sn.length:=by have:=hs.l2;dsimp only at this;omega
    have bg:k<tk.length:=by have:=hs.l1;dsimp only at this;omega
    have bi:tk.length=x.ab.length:=hs.l1;have a8:sn.length=x.ab.length:=hs.l2;have hh:inI .i64 ((k:Int)+1):=aG (by omega) (by omega)
    have hz:k+1<=x.ab.length:=by omega
    have cm:x.ab.length-(k+1)<x.ab.length-k:=by omega
    rw[eL k _ h8] at hj;dsimp only at hj;by_cases a6:fh x most i k sn=true
    .rw[aB a6] at hj;have kj:=keep hj;have ks:=keep hs;have ku:=keep hu;clear hj hs hu ih hgo eL eN hK h' a4 hx ok
     cases hb:nth (nth x.fit i) k with
     |false=>
      clear a6
      repeat' first|(with_reducible first|apply ai|apply aF|apply au|apply aL|apply af|refine aQ (id:=4) 23 mixed (by decide +kernel) ?_|apply al|intro _)|(simp[*,h8,hq,hb,a5,hi,hh])
      all_goals first
       |omega
       |assumption
       |(refine nx (k+1,(tk,sn)) ?_ ?_;(· exact⟨hz,ks,ku,kj⟩);(refine aD ?_ ?_<;>first|trivial|(simp[*];done)))
     |true=>
      cases a7:nth sn k with
      |true=>
       clear a6
       repeat' first|(with_reducible first|apply ai|apply aF|apply au|apply aL|apply af|refine aQ (id:=4) 23 mixed (by decide +kernel) ?_|apply al|intro _)|(simp[*,h8,hq,hb,a5,hi,hh,a7,a',a8])
       all_goals first
        |omega
        |assumption
        |(refine nx (k+1,(tk,sn)) ?_ ?_;(· exact⟨hz,ks,ku,kj⟩);(refine aD ?_ ?_<;>first|trivial|(simp[*];done)))
      |false=>
       have hw:most<nth (nth x.wt i) k:=by simpa[fh,hb,a7] using a6
       clear a6
       repeat' first|(with_reducible first|apply ai|apply aF|apply au|apply aL|apply af|refine aQ (id:=4) 23 mixed (by decide +kernel) ?_|apply al|intro _)|(simp[*,h8,hq,b6,hb,a5,ay,hi,hh,a7,a',a8,hw])
       all_goals first
        |omega
        |assumption
        |(refine nx (k+1,(tk,sn)) ?_ ?_;(· exact⟨hz,ks,ku,kj⟩);(refine aD ?_ ?_<;>first|trivial|(simp[*];done)))
    .rw[ar a6] at hj;obtain⟨hb,a7,hw⟩:=r4 a6
     have bp:¬most<nth (nth x.wt i) k:=by omega
     clear a6 hw;by_cases ht:nth tk k<0
     .rw[aB ht] at hj;subst hj;have kK:=keep hK;unfold mH ez Rd.pv at kK;dsimp only at kK;clear hs hu ih hgo eL eN hK h' a4 hx ok
      repeat' first|(with_reducible first|apply ai|apply aF|apply au|apply az|apply af|refine aQ (id:=4) 23 mixed (by decide +kernel) ?_|refine aQ (id:=6) 14 mixed (by decide +kernel) ?_|apply al|intro _)|(simp[*,h8,hq,b6,hb,a5,ay,hi,hh,a7,a',bi,a8,bp,ht,bg])
      all_goals first
       |omega
       |assumption
       |(simp[dC,eX,gz,oneOf];exact kK)
     .rw[ar ht] at hj;have hr:0<=nth tk k/\nth tk k<(x.os.length:Int):=(hs.rg k h8).resolve_left (by dsimp only;omega);obtain⟨j,bc⟩:∃j:Nat,nth tk k=j:=⟨(nth tk k).toNat,by omega⟩
      have bf:j<x.os.length:=by omega
      rw[bc] at hj;simp only[bT] at hj;have bo:=lV sn k a' a7;have b':=hs.seen k;have hg:=hgo j (tk,sn.set k true) bf b' (by dsimp only;omega)
      have ihj:=λK=>ih j (tk,sn.set k true) K bf b' (by dsimp only;omega)
      generalize bL x most f j (tk,sn.set k true)=RR at hj hg ihj;obtain⟨b,tk2,sn2⟩:=RR;have h9:=hg.ok;have aw:=hg.un;dsimp only at hj h9 aw ihj;have ag:tk2.length=x.ab.length:=h9.l1;have ao:sn2.length=x.ab.length:=h9.l2
      have aa:k<tk2.length:=by omega
      have cd:¬((j:Nat):Int)<0:=by omega
      have bk:bl sn2<f+1:=by omega
      unfold mH at ihj;dsimp only at ihj;unfold Rd.pv at ihj;have kih:=keep ihj;have kj:=keep hj;have kg:=keep (And.intro h9 bk);have kK:=keep hK;clear hs hu ih hgo eL eN hK h' a4 hx ok hj hr bo b' hg ihj h9 aw ht bk
      repeat' first|(with_reducible first|refine xj (id:=6) 12 119 mixed (by decide +kernel) (by decide +kernel) Tz.func119 (by kernel_rfl) (show Tryz.f119.body=some (Tryz.f119.body.getD .skip) from rfl) rfl ?_|apply ai|apply aF|apply au|apply af|refine aQ (id:=4) 23 mixed (by decide +kernel) ?_|apply al|intro _)|(simp[*,h8,hq,b6,hb,a5,ay,hi,hh,a7,a',bi,a8,bp,cd,bc,bg])
      all_goals try first|omega|assumption
      refine xi ez rfl (di (by kernel_rfl)) (by simp) rfl ?_;refine kih _ ?_
      cases b with
      |true=>
       have hj:(true,tk2.set k (i:Int),sn2)=R:=kj;subst hj;unfold mH ez Rd.pv at kK;dsimp only at kK
       repeat' first|(with_reducible first|apply ai|apply az|apply af|apply al|intro _)|(simp[*,h8,hq,a5,hi,ag,ao,aa,hh])
       all_goals first
        |omega
        |assumption
        |(simp[dC,eX,gz,oneOf];exact kK)
      |false=>
       have hj:aN (FL (x.ab.length-(k+1)) (tk2,sn2)=R):=kj;clear kj kK
       repeat' first|(with_reducible first|apply au|apply af|apply al|intro _)|(simp[*,h8,hq,a5,hi,ag,ao,aa,hh])
       all_goals first
        |omega
        |assumption
        |(refine nx (k+1,(tk2,sn2)) ?_ ?_;(· exact⟨hz,kg.1,kg.2,hj⟩);(refine aD ?_ ?_<;>first|trivial|(simp[*,ez];done)))
   .have b4:k=x.ab.length:=by omega
    subst b4;rw[eN] at hj
    have hq:¬x.ab.length<(nth x.fit i).length:=by omega
    have kj:=keep hj;clear hs hu ih hgo eL eN hK h' a4 hx ok hj
    repeat' first|(with_reducible first|apply ai|apply aL|apply af|apply al|intro _)|(simp[*,h8,hq])
    all_goals first
     |omega
     |(refine aZ (tk,sn) ?_ ?_;(· exact kj.symm);(refine aD ?_ ?_<;>first|trivial|(simp[*];done)))
  .subst hf;obtain⟨ih,hgo,eL,eN,hK,h',a4,hx,ok⟩:=kk;have kK:=keep hK;unfold mH ez Rd.pv at kK;dsimp only at kK;clear kR ih hgo eL eN hK h' a4 hx ok
   repeat' first|(with_reducible first|apply ai|apply az|apply af|intro _)|(simp[*])
   all_goals first
    |(simp[dC,eX,gz,oneOf];exact kK)
theorem LZ(n:Nat)(h:n<4294967296):aC Tz.prog 154 [.int .u64 1,.int .u64 n] (.tup [.int .u64 0,.int .u64 n]) true:=by
 have h1:(n:Int) / 4294967296=0:=by omega
 have h2:(n:Int)<4294967296:=by omega
 have h3:inI .u64 (n:Int):=by constructor<;>simp[IntKind.min,IntKind.max,IntKind.bits,IntKind.signed]<;>omega
 have h0:inI .u64 0:=by constructor<;>simp[IntKind.min,IntKind.max,IntKind.bits,IntKind.signed]
 refine rcK Tz.func154 ?_;simp only[Tryz.results154,Tryz.ntmps154]
 repeat' first|(with_reducible first|apply ai|apply az|apply af|intro _)|(simp[*,h1,h2,h3,h0])
 all_goals exact h0
theorem zc2(n:Nat)(h:n<4294967296):aC Tz.prog 118 [.int .u64 1,.int .u64 n] (.tup [.int .u64 0,.int .u64 n]) true:=by
 have c:=LZ n h;refine rcK Tz.func118 ?_;simp only[Tryz.results118,Tryz.ntmps118]
 repeat' first|(with_reducible first|apply ai|apply au|apply az|apply af|apply al|refine And.intro ?_ ?_|refine cw (c) ?_|intro _)|(simp[*])|(refine ae (c) ?_ ?_;(· (simp[*];done)))
theorem wv:∀(r c:List AV)(o:Nat),o+r.length<=c.length->∀j,(setAt c o r)[j]?=if o<=j/\j<o+r.length then r[j-o]? else c[j]?
 |[],c,o,_,j=>by
  unfold setAt;rw[ar (by simp)]
 |a::r,c,o,h,j=>by
  unfold setAt;rw[wv r (c.set o a) (o+1) (by simp at h ⊢;omega) j];simp only[eI] at h ⊢;by_cases h1:o=j
  .subst h1;rw[ar (by omega),aB (by omega),uU];simp only[xV];rw[List.getElem?_set_self (by omega)]
  .by_cases h2:o+1<=j/\j<o+1+r.length
   .rw[aB h2,aB (by omega),show j-o=(j-(o+1))+1 by omega,uK]
   .rw[ar h2,ar (by omega),List.getElem?_set_ne h1]
theorem sC(v:Int)(n m j:Nat)(h:m<=n):(iA (bM (λ_=>v) 0 n m))[j]?=if j<m then some (AV.w false false (.int .i64 v)) else if j<n then some (AV.w false false (.int .i64 0)) else none:=by
 unfold iA ints bM;simp only[ou,qW,List.map_replicate,IU,fI,pO,gD,SJ];split
 .rename_i hj;rw[sI hj];rfl
 .split
  .rw[aB (by omega)]
  .rw[ar (by omega)]
theorem Mk(v:Int)(n m k:Nat)(h1:m+k<=n)(h2:k<=m):setAt (iA (bM (λ_=>v) 0 n m)) m ((iA (bM (λ_=>v) 0 n m)).take k)=iA (bM (λ_=>v) 0 n (m+k)):=by
 have hl:((iA (bM (λ_=>v) 0 n m)).take k).length=k:=by simp[bM];omega
 refine uQ λj=>?_
 have a8:(iA (bM (λ_=>v) 0 n m)).length=n:=by rw[LK,tP _ _ _ _ (by omega)]
 rw[wv _ _ _ (by rw[hl,a8];omega),hl,sC _ _ _ _ (by omega),sC _ _ _ _ h1,jk,sC _ _ _ _ (by omega)];by_cases ha:m<=j/\j<m+k
 .rw[aB ha,aB (by omega),aB (by omega),aB (by omega)]
 .rw[ar ha];by_cases hb:j<m
  .rw[aB hb,aB (by omega)]
  .rw[ar hb,ar (show ¬j<m+k by omega)]
@[simp]theorem zd4(c:Nat)(l:List Int):AV.sh.shL c (iA l)=iA l:=by
 unfold iA
 induction ints l with
 |nil=>rfl
 |cons x l ih=>simp only[mV,AV.sh.shL,AV.sh,ih]
theorem MC(l:List Int):AV.frs.j1 (iA l)=true:=by
 unfold iA ints
 induction l with
 |nil=>rfl
 |cons x l ih=>simpa[AV.frs.j1,AV.frs,flat] using ih
theorem zd(v:Int)(n:Nat)(h:n<100000):nI Tz.prog 81 [.sl 1 [.int .i64 v],.int .i64 n] [iA (List.replicate n v)] (.msl 0 n 1 0 n):=by
 have c:=zc2 n (by omega)
 have h3:inI .u64 (n:Int):=by constructor<;>simp[IntKind.min,IntKind.max,IntKind.bits,IntKind.signed]<;>omega
 have ax:inI .u64 1:=by constructor<;>simp[IntKind.min,IntKind.max,IntKind.bits,IntKind.signed]
 have h4:¬(n:Int)<0:=by omega
 have h5:¬(9223372036854775807:Int)<(n:Int):=by omega
 have h6:inI .i64 (n:Int):=aG (by omega) (by omega)
 have h7:(n:Int)<=1000000000:=by omega
 have hE:=MC (List.replicate n v);refine xg 0 [] Tz.func81 (by kernel_rfl) rfl (di (by kernel_rfl)) (by simp) (by simpa using hE) ?_;simp only[Tryz.results81,Tryz.ntmps81];clear hE
 rcases jL n with h0|h0
 .subst h0;have bh:inI .u64 0:=h3;have bb:inI .i64 0:=h6;clear h3 h4 h5 h6 h7
  repeat' first|(with_reducible first|apply ai|apply au|apply af|apply al|refine And.intro ?_ ?_|refine cw (c) ?_|intro _)|(simp[*,bh,ax,bb])|(refine ae (c) ?_ ?_;(· (simp[*];done)))
  all_goals try first|exact bh|exact bb|exact ax
  clear c;refine df 1 (λ(m:Nat)=>m=0) [7] (λ(m:Nat)=>[(8,.w false false (.int .i64 0))]) [] (λ(m:Nat)=>[(0,[])]) (λ(m:Nat)=>0) (λ(_u:Unit)=>True) [7] (λ(_u:Unit)=>[]) [] (λ(_u:Unit)=>[(0,[])]) (0) rfl (aO [] (by simp) (by simp)) (λm hk=>?_) (λ_u hf=>?_)
  .subst hk
   repeat' first|(with_reducible first|apply ai|apply aL|apply af|apply al|intro _)|(simp[*])
   all_goals (refine aZ () ?_ ?_;(· trivial);(refine aD ?_ ?_<;>first|trivial|(simp[*];done)))
  .repeat' first|(with_reducible first|apply ai|apply az|apply af|intro _)|(simp[*])
   exact oM false false []
 .have aq:min 1 n=1:=by omega
  have e1:(List.replicate n (AV.w false false (.int .i64 0))).set 0 (.w false false (.int .i64 v))=iA (bM (λ_=>v) 0 n 1):=by
   have:=LP (λ_=>v) 0 n 0 h0;rw[<-this,<-LO,LR]
  repeat' first|(with_reducible first|apply ai|apply au|apply af|apply al|refine And.intro ?_ ?_|refine cw (c) ?_|intro _)|(simp[*,h3,ax,h4,h5,h6,h7,aq])|(refine ae (c) ?_ ?_;(· (simp[*];done)))
  all_goals try omega
  clear c aq h4 h5;refine df 1 (λ(m:Nat)=>m<=n/\1<=m) [7] (λ(m:Nat)=>[(8,.w false false (.int .i64 m))]) [] (λ(m:Nat)=>[(0,iA (bM (λ_=>v) 0 n m))]) (λ(m:Nat)=>n-m) (λ(_u:Unit)=>True) [7] (λ(_u:Unit)=>[]) [] (λ(_u:Unit)=>[(0,iA (List.replicate n v))]) (1) ⟨h0,aE _⟩ (aO [] (by simp[e1]) (by simp[e1])) (λm hk=>?_) (λ_u hf=>?_)
  .clear e1;obtain⟨hk,cj⟩:=hk;by_cases h8:m<n
   .have hl:(bM (λ_=>v) 0 n m).length=n:=tP _ _ _ _ hk;obtain⟨kk,c4⟩:∃kk,min m (n-m)=kk:=⟨_,rfl⟩
    have c5:kk<=m:=by omega
    have bj:m+kk<=n:=by omega
    have c6:¬kk=n:=by omega
    have b5:kk<=n:=by omega
    have c3:1<=kk:=by omega
    have c8:dj ((iA (bM (λ_=>v) 0 n m)).take kk)=true:=by
     unfold iA;rw[<-Jb];refine tV false false _ (eh.2 λy hy=>?_);obtain⟨z,_,rfl⟩:=dW.1 (List.mem_of_mem_take hy);rfl
    have c9:=Mk v n m kk bj c5;have hh:inI .i64 ((m:Int)+(kk:Int)):=aG (by omega) (by omega);have cf:m+kk<=n/\1<=m+kk:=⟨bj,by omega⟩;clear h3 ax h6 h7 h0
    repeat' first|(with_reducible first|apply ai|apply iV|apply au|apply af|refine iX (id:=9) [0,1,2,3,4,5,6] [7,8,9] [[.slot 7],[],[],[],[],[],[]] [[.slot 7],[],[]] mixed (by decide +kernel) ?_|apply al|refine And.intro ?_ ?_|intro _)|(simp[*,h8,hl,c4,c6,c8,hh,c9,b5])
    all_goals first
     |omega
     |assumption
     |exact pT.2 rfl
     |(refine nx (m+kk) ?_ ?_;(· exact cf);(refine aD ?_ ?_<;>first|trivial|(simp[*];done)))
   .have b4:m=n:=by omega
    subst b4
    have e2:bM (λ_=>v) 0 m m=List.replicate m v:=by
     rw[LS]
     refine uQ λj=>?_
     simp only[gD,SJ];split
     .rename_i hj;rw[sI hj];rfl
     .rename_i hj;rw[IX (by simp;omega)];rfl
    repeat' first|(with_reducible first|apply ai|apply aL|apply af|apply al|intro _)|(simp[*,h8])
    all_goals first
     |omega
     |(refine aZ () ?_ ?_;(· trivial);(refine aD ?_ ?_<;>first|trivial|(simp[*,e2];done)))
  .clear e1
   repeat' first|(with_reducible first|apply ai|apply az|apply af|intro _)|(simp[*])
end Go.Proofs.YthpkmilhiganjaaGreat
