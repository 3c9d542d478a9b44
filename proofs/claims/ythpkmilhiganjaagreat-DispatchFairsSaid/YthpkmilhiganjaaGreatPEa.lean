/- Lemmas. -/
import Derived.Test.YthpkmilhiganjaaGreatPDa
import Derived.Test.YthpkmilhiganjaaGreatPDb
import Derived.Test.YthpkmilhiganjaaGreatPLg
import Derived.Test.YthpkmilhiganjaaGreatPLf
import Derived.Test.YthpkmilhiganjaaGreatPLd
set_option linter.all false
set_option maxHeartbeats 32000000
set_option maxRecDepth 100000
namespace Go.Proofs.YthpkmilhiganjaaGreat
open Go Go.Fi
noncomputable instance instLD14:bE:=LD
theorem fh{α:Type}[Inhabited α]{E:Nat->α->Int}:∀{l:List α}{k:Nat},(gG E l k).2=0->∀j,j<l.length->E (k+j) (nth l j)=0
 |[],k,_,j,hj=>absurd hj ae
 |x::r,k,h,j,hj=>by
  unfold gG at h;by_cases he:E k x=0
  .rw[cu he] at h
   cases j with
   |zero=>exact he
   |succ j=>
    have:=fh h j (by simpa using hj);rw[show k+(j+1)=k+1+j by omega];exact this
  simp_all
theorem ft{α:Type}[Inhabited α]{nm:α->ByteArray}{mr:α->Int}{l:List α}:∀{r:List α}{k:Nat},(gu nm mr l r k).2=0->∀j,j<r.length->iF nm mr l (k+j) (nth r j)=0
 |[],k,_,j,hj=>absurd hj ae
 |x::r,k,h,j,hj=>by
  unfold gu at h;by_cases he:iF nm mr l k x=0
  .rw[cu he] at h
   cases j with
   |zero=>exact he
   |succ j=>
    have:=ft h j (by simpa using hj);rw[show k+(j+1)=k+1+j by omega];exact this
  simp_all
theorem bF{e:Int}{r:List Int}(h:eo (e::r)=0):e=0/\eo r=0:=by
 unfold eo at h;omega
theorem rE{b:Bool}{e:Int}(he:e≠0)(h:da b e=0):b=true:=by
 unfold da at h;simp_all
theorem bK{n lo hi:Int}:cj n lo hi=true↔lo<=n/\n<=hi:=by simp[cj]
theorem not_true{b:Bool}(h:(!b)=true):b=false:=by cases b<;>simp_all
structure LS(x:Rd):Prop where
 lc:x.bD.length<=8
 lo:x.os.length<=8
 lw:x.wt.length=x.os.length
 lz:x.zs.length<=64
 lf:x.fit.length=x.os.length
 fr:∀i,i<x.os.length->(nth x.fit i).length=x.bD.length
 wr:∀i,i<x.os.length->(nth x.wt i).length=x.bD.length
 wn:∀i,i<x.os.length->∀k,k<x.bD.length->0<=nth (nth x.wt i) k/\nth (nth x.wt i) k<=100000
 sc:∀k,k<x.bD.length->1<=(nth x.bD k).2.1/\(nth x.bD k).2.1<=8
 so:∀i,i<x.os.length->1<=(nth x.os i).2.1/\(nth x.os i).2.1<=8
 pr:∀i,i<x.os.length->0<=(nth x.os i).2.2.2/\(nth x.os i).2.2.2<=6
 nc:∀k,k<x.bD.length->gl (nth x.bD k).1=true/\((x.bD.take k).any λy=>decide (y.1=(nth x.bD k).1))=false
 no:∀k,k<x.os.length->gl (nth x.os k).1=true/\((x.os.take k).any λy=>decide (y.1=(nth x.os k).1))=false
 zr:∀j,j<x.zs.length->(0<=(nth x.zs j).1/\(nth x.zs j).1<=(x.os.length:Int)-1)/\(0<=(nth x.zs j).2/\(nth x.zs j).2<=(x.bD.length:Int)-1)
end Go.Proofs.YthpkmilhiganjaaGreat
namespace Go.Proofs.YthpkmilhiganjaaGreat
open Go Go.Fi
variable[bE]
def mK(row:List Bool)(w p:List Int)(m0:Int):Nat->Int
 |0=>m0
 |k+1=>if nth row k then (if nth w k+nth p k<mK row w p m0 k then nth w k+nth p k else mK row w p m0 k) else mK row w p m0 k
@[simp]theorem LW(row:List Bool)(w p:List Int)(m0:Int):mK row w p m0 0=m0:=rfl
end Go.Proofs.YthpkmilhiganjaaGreat
namespace Go.Proofs.YthpkmilhiganjaaGreat
open Go Go.Fi
noncomputable instance instLD19:bE:=LD
def m6(l:List Int):Nat->Int
 |0=>0
 |k+1=>m6 l k+nth l k
@[simp]theorem E3(l:List Int):m6 l 0=0:=rfl
end Go.Proofs.YthpkmilhiganjaaGreat
namespace Go.Proofs.YthpkmilhiganjaaGreat
open Go Go.Fi
variable[bE]
def prio(x:Rd)(i:Nat):Nat:=(nth x.os i).2.2.2.toNat
def nU(x:Rd):Nat->Int
 |0=>0
 |k+1=>nU x k+jj (prio x k)
@[simp]theorem FL(x:Rd):nU x 0=0:=rfl
structure CO(x:Rd)(plan:List Int):Prop where
 len:plan.length=x.os.length
 at_:∀k,k<plan.length->nth plan k=-1\/(0<=nth plan k/\nth plan k<(x.bD.length:Int))
def iA(l:List Int):List AV:=(ints l).map (AV.w false false)
@[simp]theorem F2(l:List Int):(iA l).length=l.length:=by simp[iA]
@[simp]theorem F3(l:List Int)(i:Nat)(h:i<l.length):jF (iA l) i=.w false false (.int .i64 (nth l i)):=by
 unfold iA;rw[Ot _ _ _ av,OO l i h]
@[simp]theorem F4(l:List Int)(i:Nat)(v:Int):(iA l).set i (.w false false (.int .i64 v))=iA (l.set i v):=by
 simp[iA,ints,List.map_set]
@[simp]theorem F5{D:List Nat}{h:bz}{n n':Nat}(l:List Int):gF D h n n' (iA l) (iA l)=True:=eq_true (tZ false false _)
@[simp]theorem eA:∀l:List Int,gA (ints l)=true
 |[]=>rfl
 |x::r=>by have:=eA r;trivial
@[simp]theorem rL(a b:List Int):iA a++iA b=iA (a++b):=by simp[iA,ints]
def C3(x:Rd)(i j:Nat):Int:=
 if j<x.bD.length/\nth (nth x.fit i) j=true then nth (nth x.wt i) j else if j=x.bD.length+i then jj (prio x i) else 1000000000000000
def C4(x:Rd)(i:Nat):List Int:=(List.range (x.bD.length+x.os.length)).map (C3 x i)
def C5(x:Rd)(n:Nat):List (List Int):=(List.range n).map (C4 x)
@[simp]theorem C6(c:Nat)(l:List Int):AV.sh.shL c (iA l)=iA l:=by
 unfold iA
 induction ints l with
 |nil=>rfl
 |cons x l ih=>simp only[jr,AV.sh.shL,AV.sh,ih]
theorem eB(l:List Int):AV.frs.j4 (iA l)=true:=by
 unfold iA ints
 induction l with
 |nil=>rfl
 |cons x l ih=>trivial
def pI(M:List (Int×Int)):List (PV×PV):=M.map λp=>(.int .i64 p.1,.int .i64 p.2)
def mI(M:List (Int×Int)):List AV:=[gz (pI M)]
def bo:List (Int×Int)->Int->Option Int
 |[],_=>none
 |p::r,k=>if k=p.1 then some p.2 else bo r k
def bC:List (Int×Int)->Int->Int->List (Int×Int)
 |[],k,v=>[(k,v)]
 |p::r,k,v=>if k=p.1 then (k,v)::r else p::bC r k v
theorem r4:[gz []]=mI []:=rfl
@[simp]theorem F6(M:List (Int×Int)):(mI M).length=1:=rfl
@[simp]theorem Mk(M:List (Int×Int))(n:Nat):AV.lt.ltL n (mI M)=true:=rfl
@[simp]theorem HR{D:List Nat}{h:bz}{n n':Nat}(M:List (Int×Int)):gF D h n n' (mI M) (mI M)=True:=eq_true ⟨Px _ _ _,trivial⟩
theorem hH(M:List (Int×Int)):fI (mI M)=some (pI M):=yL _
theorem nV(M:List (Int×Int))(k:Int):okM (.int .i64) (.int .i64 k) (pI M)=true:=by
 simp[okM,okK,isLit,pI,gm]
theorem sf(M:List (Int×Int))(k:Int):ll (pI M) (.int .i64 k)=(bo M k).map (PV.int .i64):=by
 induction M with
 |nil=>rfl
 |cons p r ih=>
  have e:eqK (.int .i64 k) (.int .i64 p.1)=decide (k=p.1):=by simp[eqK]
  show (if eqK (.int .i64 k) (.int .i64 p.1)=true then some (PV.int .i64 p.2) else ll (pI r) (.int .i64 k))=_;rw[e];simp only[bo,decide_eq_true_eq]
  grind
theorem sC(M:List (Int×Int))(k:Int)(v:Int):iO (pI M) (.int .i64 k) (.int .i64 v)=pI (bC M k v):=by
 induction M with
 |nil=>rfl
 |cons p r ih=>
  have e:eqK (.int .i64 k) (.int .i64 p.1)=decide (k=p.1):=by simp[eqK]
  show (if eqK (.int .i64 k) (.int .i64 p.1)=true then (PV.int .i64 k,PV.int .i64 v)::pI r else (PV.int .i64 p.1,PV.int .i64 p.2)::iO (pI r) (.int .i64 k) (.int .i64 v))=_;rw[e];simp only[bC,decide_eq_true_eq];split
  .rfl
  .rw[ih];rfl
theorem cM{P:Program}{t:TypeId}(hm:lq P t=some (.int .i64,.int .i64 0))(M:List (Int×Int))(o f:Bool)(k:Int)(c:Bool):lkV P t (some (mI M)) (.w o f (.int .i64 k)) c=some (True,xN c (bo M k),[]):=by
 unfold lkV;simp only[jk,hH,hm,nV,sf]
 cases c<;>cases bo M k<;>rfl
@[simp]theorem IC(h:bz)(id:Nat)(M:List (Int×Int))(z:PV)(o f o' f':Bool)(k:Int)(v:Int):sA h id (some (mI M)) (some (.int .i64,z)) (.w o f (.int .i64 k)) (.w o' f' (.int .i64 v))=some (True,dm h id (mI (bC M k v))):=by
 unfold sA;simp only[jk,hH,nV,isLit,and_self,sC];rfl
theorem C8:lq Tz.prog 157=some (.int .i64,.int .i64 0):=aj
def lK(ex:List Int)(k:Nat):Bool:=!(ex.any λy=>decide ((k:Int)=y))
def bM(ex:List Int)(n:Nat):List Nat:=(List.range n).filter (lK ex)
def bw(ex:List Int)(k:Nat):Nat:=(bM ex k).length
def br(ex:List Int)(n:Nat):List (Int×Int):=(bM ex n).map λk:Nat=>((k:Int),(bw ex k:Int))
theorem ic(ex:List Int)(n:Nat):bM ex (n+1)=if lK ex n then bM ex n++[n] else bM ex n:=by
 unfold bM;rw[List.range_succ,List.filter_append]
 cases h:lK ex n<;>simp[h]
theorem sO(ex:List Int)(n k:Nat)(h:k∈bM ex n):k<n:=by
 unfold bM at h;simp_all
theorem kg:∀(M:List (Int×Int))(k v:Int),(∀p∈M,p.1≠k)->bC M k v=M++[(k,v)]
 |[],_,_,_=>rfl
 |p::r,k,v,h=>by
  unfold bC;rw[bN (λe=>h p iZ e.symm),kg r k v λq hq=>h q (eY _ hq)];rfl
theorem km(ex:List Int)(n:Nat):bC (br ex n) (n:Int) (bw ex n:Int)=br ex n++[((n:Int),(bw ex n:Int))]:=by
 refine kg _ _ _ λp hp=>?_
 obtain⟨k,hk,rfl⟩:=ja.1 hp;have:=sO ex n k hk;omega
theorem ku(ex:List Int)(n:Nat):br ex (n+1)=if lK ex n then bC (br ex n) (n:Int) (bw ex n:Int) else br ex n:=by
 rw[km];unfold br;rw[ic]
 cases lK ex n<;>simp
theorem kx:∀(M N:List (Int×Int))(k:Int),bo (M++N) k=(bo M k).or (bo N k)
 |[],N,k=>by simp[bo]
 |p::r,N,k=>by
  simp only[lP,bo];split
  .rfl
  .exact kx r N k
theorem cp(ex:List Int)(v:Int):∀n,bo (br ex n) v=if 0<=v/\v<(n:Int)/\lK ex v.toNat=true then some (bw ex v.toNat:Int) else none
 |0=>by
  rw[bN ab];rfl
 |n+1=>by
  have ih:=cp ex v n;rw[ku]
  cases hk:lK ex n with
  |false=>
   grind
  |true=>
   simp only[cz];rw[km,kx,ih];by_cases hn:v=(n:Int)
   .subst hn;rw[bN ab,cu ⟨ab,ab,by rw[Int.toNat_natCast];exact hk⟩];simp[bo]
   .have e:bo [((n:Int),(bw ex n:Int))] v=none:=by simp[bo,hn]
    rw[e]
    grind
def cA(l:List PV):List AV:=l.map (AV.w false false)
@[simp]theorem eC(l:List PV):(cA l).length=l.length:=by simp[cA]
@[simp]theorem MC(l:List PV)(n:Nat):AV.lt.ltL n (cA l)=true:=GF n false false l
@[simp]theorem Li{D:List Nat}{h:bz}{n n':Nat}(l:List PV):gF D h n n' (cA l) (cA l)=True:=eq_true (tZ false false _)
@[simp high] theorem Lj(h:bz)(d:Nat)(l:List PV):(cA l).mapM (frz h d)=some l:=GD h d false false l
theorem eE(a b:List PV):cA (a++b)=cA a++cA b:=by simp[cA]
theorem sR(l:List Car)(c:Car):cA (di (l++[c]))=cA (di l)++[.w false false (.str c.1),.w false false (.int .i64 c.2.1),.w false false (.bool c.2.2)]:=by
 unfold di;rw[JG,eE];rfl
theorem sW(l:List Ord)(c:Ord):cA (dh (l++[c]))=cA (dh l)++[.w false false (.str c.1),.w false false (.int .i64 c.2.1),.w false false (.bool c.2.2.1),.w false false (.int .i64 c.2.2.2)]:=by
 unfold dh;rw[JG,eE];rfl
theorem sZ(l:List Par)(c:Par):cA (dc (l++[c]))=cA (dc l)++[.w false false (.int .i64 c.1),.w false false (.int .i64 c.2)]:=by
 unfold dc;rw[JG,eE];rfl
theorem kz(l:List Car):(cA (di l)).length=l.length*3:=by rw[eC];simp
theorem kB(l:List Ord):(cA (dh l)).length=l.length*4:=by rw[eC];simp
theorem kC(l:List Par):(cA (dc l)).length=l.length*2:=by rw[eC];simp
theorem kF:∀l:List Car,gA (di l)=true
 |[]=>rfl
 |x::r=>by have:=kF r;trivial
theorem kG:∀l:List Ord,gA (dh l)=true
 |[]=>rfl
 |x::r=>by have:=kG r;trivial
theorem kH:∀l:List Par,gA (dc l)=true
 |[]=>rfl
 |x::r=>by have:=kH r;trivial
@[simp high] theorem LC(h:bz)(d:Nat)(l:List Car):(cA (di l)).all (eh h d)=true:=rz h d false false _ (kF l)
@[simp high] theorem LK(h:bz)(d:Nat)(l:List Ord):(cA (dh l)).all (eh h d)=true:=rz h d false false _ (kG l)
@[simp high] theorem LO(h:bz)(d:Nat)(l:List Par):(cA (dc l)).all (eh h d)=true:=rz h d false false _ (kH l)
end Go.Proofs.YthpkmilhiganjaaGreat
namespace Go.Proofs.YthpkmilhiganjaaGreat
open Go Go.Fi
noncomputable instance instLD23:bE:=LD
noncomputable instance MO:bE:=LD
theorem bt{α:Type}[Inhabited α]{l:List α}{k:Nat}(h:k<l.length):nth l k∈l:=by
 have:nth l k=l[k]:=by simp[nth,dT,h]
 rw[this];simp
def bm:PV:=.agg [.sl 0 [],.sl 0 [],.sl 0 [],.sl 0 []]
abbrev FS:=List Int×List Bool
def cN(sn:List Bool):Nat:=sn.countP λb=>!b
structure D4(x:Rd)(s:FS):Prop where
 l1:s.1.length=x.bD.length
 l2:s.2.length=x.bD.length
 rg:∀k,k<x.bD.length->nth s.1 k=-1\/(0<=nth s.1 k/\nth s.1 k<(x.os.length:Int))
structure MS(x:Rd)(s t:FS):Prop where
 ok:D4 x t
 un:cN t.2<=cN s.2
def eW(tk:List Int)(n:Nat):Nat->List Int
 |0=>List.replicate n (-1)
 |k+1=>if 0<=nth tk k then (eW tk n k).set (nth tk k).toNat k else eW tk n k
structure ScS where
 sl:List Int
 ah:List Int
 least:Int
 next:Int
def nvS(C:Nat->Nat->Int)(u v:List Int)(i j:Nat):Int:=C i j-nth u i-nth v j
def dS(C:Nat->Nat->Int)(u v:List Int)(sn:List Bool)(i:Nat)(at_:Int)(sl ah:List Int):Nat->ScS
 |0=>⟨sl,ah,10000000000000000,-1⟩
 |k+1=>
  let s:=dS C u v sn i at_ sl ah k
  if nth sn k then s
  else
   let s1:ScS:=if nvS C u v i k<nth s.sl k then ⟨s.sl.set k (nvS C u v i k),s.ah.set k at_,s.least,s.next⟩ else s
   if nth s1.sl k<s1.least then ⟨s1.sl,s1.ah,nth s1.sl k,k⟩ else s1
def bO(sn:List Bool)(ow:List Int)(d:Int)(u v sl:List Int):Nat->List Int×List Int×List Int
 |0=>(u,v,sl)
 |k+1=>
  let s:=bO sn ow d u v sl k
  if nth sn k then (s.1.set (nth ow k).toNat (nth s.1 (nth ow k).toNat+d),s.2.1.set k (nth s.2.1 k-d),s.2.2)
  else (s.1,s.2.1,s.2.2.set k (nth s.2.2 k-d))
structure Ws where
 u:List Int
 v:List Int
 sl:List Int
 ah:List Int
 sn:List Bool
 at_:Int
 i:Nat
def ba(C:Nat->Nat->Int)(m:Nat)(w:Ws):ScS:=dS C w.u w.v w.sn w.i w.at_ w.sl w.ah m
def eZ(C:Nat->Nat->Int)(m:Nat)(ow:List Int)(row:Nat)(w:Ws):List Int×List Int×List Int:=
 bO w.sn ow (ba C m w).least (w.u.set row (nth w.u row+(ba C m w).least)) w.v (ba C m w).sl m
def n5(C:Nat->Nat->Int)(m:Nat)(ow:List Int)(row:Nat)(w:Ws):Ws:=
 ⟨(eZ C m ow row w).1,(eZ C m ow row w).2.1,(eZ C m ow row w).2.2,(ba C m w).ah,w.sn.set (ba C m w).next.toNat true,(ba C m w).next,(nth ow (ba C m w).next.toNat).toNat⟩
def oc(C:Nat->Nat->Int)(m:Nat)(ow:List Int)(row:Nat):Nat->Ws->Ws
 |0,w=>w
 |f+1,w=>if nth ow (ba C m w).next.toNat<0 then n5 C m ow row w else oc C m ow row f (n5 C m ow row w)
def po(ah:List Int)(row:Nat):Nat->Int->List Int->List Int
 |0,_,ow=>ow
 |f+1,at_,ow=>if at_<0 then ow else po ah row f (nth ah at_.toNat) (ow.set at_.toNat (if nth ah at_.toNat<0 then (row:Int) else nth ow (nth ah at_.toNat).toNat))
structure Hs where
 u:List Int
 v:List Int
 ow:List Int
def ws0(m:Nat)(s:Hs)(row:Nat):Ws:=⟨s.u,s.v,List.replicate m 10000000000000000,List.replicate m (-1),List.replicate m false,-1,row⟩
def dX(C:Nat->Nat->Int)(m:Nat)(s:Hs)(row:Nat):Ws:=oc C m s.ow row (m+1) (ws0 m s row)
def dI(C:Nat->Nat->Int)(m:Nat)(s:Hs)(row:Nat):Hs:=
 ⟨(dX C m s row).u,(dX C m s row).v,po (dX C m s row).ah row (m+1) (dX C m s row).at_ s.ow⟩
def pw(C:Nat->Nat->Int)(n m:Nat):Nat->Hs
 |0=>⟨List.replicate n 0,List.replicate m 0,List.replicate m (-1)⟩
 |r+1=>dI C m (pw C n m r) r
structure fV(C:Nat->Nat->Int)(u v:List Int)(sn:List Bool)(i:Nat)(at_:Int)(sl ah:List Int)(k:Nat)(s:ScS):Prop where
 l1:s.sl.length=sl.length
 l2:s.ah.length=ah.length
 esl:∀j,nth s.sl j=if j<k/\nth sn j=false/\nvS C u v i j<nth sl j then nvS C u v i j else nth sl j
 eah:∀j,nth s.ah j=if j<k/\nth sn j=false/\nvS C u v i j<nth sl j then at_ else nth ah j
 lo:∀j,j<k->nth sn j=false->s.least<=nth s.sl j
 nx:(s.next=-1/\s.least=10000000000000000)\/(0<=s.next/\s.next<(k:Int)/\nth sn s.next.toNat=false/\s.least=nth s.sl s.next.toNat)
structure OK(sn:List Bool)(ow:List Int)(d:Int)(u v sl:List Int)(k:Nat)(t:List Int×List Int×List Int):Prop where
 l1:t.1.length=u.length
 l2:t.2.1.length=v.length
 l3:t.2.2.length=sl.length
 ut:∀l:Nat,(∃j,j<k/\nth sn j=true/\nth ow j=(l:Int))->nth t.1 l=nth u l+d
 uf:∀l:Nat,(¬∃j,j<k/\nth sn j=true/\nth ow j=(l:Int))->nth t.1 l=nth u l
 ev:∀j,nth t.2.1 j=if j<k/\nth sn j=true then nth v j-d else nth v j
 esl:∀j,nth t.2.2 j=if j<k/\nth sn j=false then nth sl j-d else nth sl j
structure Hp(C:Nat->Nat->Int)(n c:Nat):Prop where
 nn:n<=8
 cc:c<=8
 pr:∀i,i<n->0<=C i (c+i)/\C i (c+i)<=1000000000000
 ot:∀i l,i<n->l<n->l≠i->C i (c+l)=1000000000000000
 cr:∀i j,i<n->j<c->C i j=1000000000000000\/(0<=C i j/\C i j<=1000000000000)
theorem Hp.bd{C:Nat->Nat->Int}{n c:Nat}(h:Hp C n c){i j:Nat}(hi:i<n)(hj:j<c+n):0<=C i j/\C i j<=1000000000000000:=by
 by_cases hc:j<c
 .rcases h.cr i j hi hc with h|h<;>omega
 .obtain⟨l,rfl⟩:∃l,j=c+l:=⟨j-c,ab⟩;by_cases hl:l=i
  .subst hl;have:=h.pr l hi;omega
  .rw[h.ot i l hi ab hl];omega
structure MI(C:Nat->Nat->Int)(n c r:Nat)(u v ow:List Int):Prop where
 lu:u.length=n
 lv:v.length=c+n
 lo:ow.length=c+n
 hu:∀l,l<n->0<=nth u l
 hv:∀j,j<c+n->nth v j<=0
 hvz:∀j,j<c+n->nth ow j=-1->nth v j=0
 hvp:∀l,l<n->nth v (c+l)=0
 hf:∀l j,l<n->j<c+n->nth u l+nth v j<=C l j
 how:∀j,j<c+n->nth ow j=-1\/(0<=nth ow j/\nth ow j<(r:Int))
 jI:∀j k,j<c+n->k<c+n->0<=nth ow j->nth ow j=nth ow k->j=k
 ht:∀j,j<c+n->0<=nth ow j->nth u (nth ow j).toNat+nth v j=C (nth ow j).toNat j
 D6:∀l,l<r->∃j,j<c+n/\nth ow j=(l:Int)
section
variable{C:Nat->Nat->Int}{n c row:Nat}{u v ow:List Int}
end
def Tv(m row:Nat)(ow:List Int)(w:Ws)(l:Nat):Prop:=l=row\/∃j,j<m/\nth w.sn j=true/\nth ow j=(l:Int)
def Via(m row:Nat)(ow:List Int)(w:Ws)(j:Nat)(p:Nat->Prop):Prop:=
 (nth w.ah j=-1/\p row)\/(0<=nth w.ah j/\nth w.ah j<(m:Int)/\nth w.sn (nth w.ah j).toNat=true/\p (nth ow (nth w.ah j).toNat).toNat)
structure GI(C:Nat->Nat->Int)(n c row:Nat)(ow:List Int)(w:Ws):Prop where
 mi:MI C n c row w.u w.v ow
 ls:w.sl.length=c+n
 la:w.ah.length=c+n
 ln:w.sn.length=c+n
 hs:∀j,j<c+n->nth w.sn j=true->0<=nth ow j/\j<c
 hat:(w.at_=-1/\w.i=row/\∀j,j<c+n->nth w.sn j=false)\/(0<=w.at_/\w.at_<((c+n:Nat):Int)/\nth w.sn w.at_.toNat=true/\nth ow w.at_.toNat=(w.i:Int))
 h1:∀j,j<c+n->nth w.sn j=false->∀l,Tv (c+n) row ow w l->l≠w.i->nth w.sl j<=C l j-nth w.u l-nth w.v j
 h2:∀j,j<c+n->nth w.sn j=false->(nth w.sl j=10000000000000000/\w.at_=-1)\/Via (c+n) row ow w j λl=>nth w.sl j=C l j-nth w.u l-nth w.v j
 pth:∀j,j<c+n->nth w.sn j=true->Via (c+n) row ow w j λl=>nth w.u l+nth w.v j=C l j
 rk:∃rk:Nat->Nat,(∀j,j<c+n->nth w.sn j=true->rk j+cN w.sn<c+n)/\∀j,j<c+n->nth w.sn j=true->0<=nth w.ah j->rk (nth w.ah j).toNat<rk j
structure PC(C:Nat->Nat->Int)(n c row:Nat)(ow:List Int)(w:Ws)(s:ScS):Prop where
 ok:fV C w.u w.v w.sn w.i w.at_ w.sl w.ah (c+n) s
 nx0:0<=s.next
 nx1:s.next<((c+n:Nat):Int)
 nx2:nth w.sn s.next.toNat=false
 d0:0<=s.least
 d1:s.least<=1000000000000
 dn:s.least=nth s.sl s.next.toNat
 lo:∀j,j<c+n->nth w.sn j=false->∀l,Tv (c+n) row ow w l->nth s.sl j<=C l j-nth w.u l-nth w.v j
 via:∀j,j<c+n->nth w.sn j=false->(nth s.ah j=-1/\nth s.sl j=C row j-nth w.u row-nth w.v j)\/(0<=nth s.ah j/\nth s.ah j<((c+n:Nat):Int)/\nth w.sn (nth s.ah j).toNat=true/\nth s.sl j=C (nth ow (nth s.ah j).toNat).toNat j-nth w.u (nth ow (nth s.ah j).toNat).toNat-nth w.v j)
 old:∀j,nth w.sn j=true->nth s.ah j=nth w.ah j
 car:s.next.toNat<c\/nth ow s.next.toNat=-1
structure PE(C:Nat->Nat->Int)(n c row:Nat)(ow:List Int)(w:Ws):Prop where
 mi:MI C n c row w.u w.v ow
 la:w.ah.length=c+n
 a0:0<=w.at_
 a1:w.at_<((c+n:Nat):Int)
 a2:nth ow w.at_.toNat=-1
 a3:nth w.sn w.at_.toNat=true
 hs:∀j,j<c+n->nth w.sn j=true->(j:Int)≠w.at_->0<=nth ow j
 pth:∀j,j<c+n->nth w.sn j=true->Via (c+n) row ow w j λl=>nth w.u l+nth w.v j=C l j
 rk:∃rk:Nat->Nat,(∀j,j<c+n->nth w.sn j=true->rk j<c+n)/\(∀j,j<c+n->nth w.sn j=true->0<=nth w.ah j->rk (nth w.ah j).toNat<rk j)/\∀j,j<c+n->nth w.sn j=true->rk j<=rk w.at_.toNat
section
variable{C:Nat->Nat->Int}{n c row:Nat}{ow:List Int}{w:Ws}
structure PK(C:Nat->Nat->Int)(n c row:Nat)(ow:List Int)(w:Ws)(s:ScS)(t:List Int×List Int×List Int):Prop where
 l1:t.1.length=n
 l2:t.2.1.length=c+n
 l3:t.2.2.length=c+n
 uT:∀l,Tv (c+n) row ow w l->nth t.1 l=nth w.u l+s.least
 uF:∀l,¬Tv (c+n) row ow w l->nth t.1 l=nth w.u l
 vT:∀j,j<c+n->nth w.sn j=true->nth t.2.1 j=nth w.v j-s.least
 vF:∀j,nth w.sn j=false->nth t.2.1 j=nth w.v j
 sF:∀j,j<c+n->nth w.sn j=false->nth t.2.2 j=nth s.sl j-s.least
structure Rnd(C:Nat->Nat->Int)(n c row:Nat)(ow:List Int)(w w':Ws):Prop where
 a0:0<=w'.at_
 a1:w'.at_<((c+n:Nat):Int)
 new:nth w.sn w'.at_.toNat=false
 sn:w'.sn=w.sn.set w'.at_.toNat true
 la:w'.ah.length=c+n
 pth:∀j,j<c+n->nth w'.sn j=true->Via (c+n) row ow w' j λl=>nth w'.u l+nth w'.v j=C l j
 rk:∃rk:Nat->Nat,(∀j,j<c+n->nth w'.sn j=true->rk j+cN w'.sn<c+n)/\(∀j,j<c+n->nth w'.sn j=true->0<=nth w'.ah j->rk (nth w'.ah j).toNat<rk j)/\∀j,j<c+n->nth w'.sn j=true->rk j<=rk w'.at_.toNat
end
structure AI(C:Nat->Nat->Int)(n c row:Nat)(u v ow:List Int)(sn:List Bool)(rk:Nat->Nat)(at_:Nat)(ow1:List Int):Prop where
 lo:ow1.length=c+n
 how:∀j,j<c+n->j≠at_->nth ow1 j=-1\/(0<=nth ow1 j/\nth ow1 j<(row:Int))
 jI:∀j k,j<c+n->k<c+n->j≠at_->k≠at_->0<=nth ow1 j->nth ow1 j=nth ow1 k->j=k
 ht:∀j,j<c+n->j≠at_->0<=nth ow1 j->nth u (nth ow1 j).toNat+nth v j=C (nth ow1 j).toNat j
 D6:∀l,l<row->∃j,j<c+n/\j≠at_/\nth ow1 j=(l:Int)
 hz:∀j,j<c+n->j≠at_->nth ow1 j=-1->nth ow j=-1
 same:∀j,j<c+n->nth sn j=true->rk j<rk at_->nth ow1 j=nth ow j
structure P2(C:Nat->Nat->Int)(n m row:Nat)(ow:List Int)(w:Ws):Prop where
 hin:w.i<n
 lu:w.u.length=n
 lv:w.v.length=m
 ls:w.sl.length=m
 la:w.ah.length=m
 ln:w.sn.length=m
 nv:∀k,k<m->inI .i64 (C w.i k-nth w.u w.i)/\inI .i64 (C w.i k-nth w.u w.i-nth w.v k)
 sk:∀k,k<=m->(dS C w.u w.v w.sn w.i w.at_ w.sl w.ah k).sl.length=m/\(dS C w.u w.v w.sn w.i w.at_ w.sl w.ah k).ah.length=m
 ur:inI .i64 (nth w.u row+(ba C m w).least)
 tk:∀k,k<=m->(bO w.sn ow (ba C m w).least (w.u.set row (nth w.u row+(ba C m w).least)) w.v (ba C m w).sl k).1.length=n/\(bO w.sn ow (ba C m w).least (w.u.set row (nth w.u row+(ba C m w).least)) w.v (ba C m w).sl k).2.1.length=m /\
  (bO w.sn ow (ba C m w).least (w.u.set row (nth w.u row+(ba C m w).least)) w.v (ba C m w).sl k).2.2.length=m
 ts:∀k,k<m->nth w.sn k=true->∃l:Nat,nth ow k=l/\l<n/\inI .i64 (nth (bO w.sn ow (ba C m w).least (w.u.set row (nth w.u row+(ba C m w).least)) w.v (ba C m w).sl k).1 l+(ba C m w).least) /\
  inI .i64 (nth (bO w.sn ow (ba C m w).least (w.u.set row (nth w.u row+(ba C m w).least)) w.v (ba C m w).sl k).2.1 k-(ba C m w).least)
 tf:∀k,k<m->nth w.sn k=false->inI .i64 (nth (bO w.sn ow (ba C m w).least (w.u.set row (nth w.u row+(ba C m w).least)) w.v (ba C m w).sl k).2.2 k-(ba C m w).least)
 nx:∃a:Nat,(ba C m w).next=a/\a<m
end Go.Proofs.YthpkmilhiganjaaGreat
namespace Go.Proofs.YthpkmilhiganjaaGreat
open Go Go.Fi
variable[bE]
end Go.Proofs.YthpkmilhiganjaaGreat
namespace Go.Proofs.YthpkmilhiganjaaGreat
open Go Go.Fi
noncomputable instance instLD37:bE:=LD
def D7(x:Rd)(i j:Nat):Int:=nth (nth (C5 x x.os.length) i) j
noncomputable def D8(x:Rd):Hs:=pw (D7 x) x.os.length (x.bD.length+x.os.length) x.os.length
noncomputable def bR(x:Rd):List Int:=eW (D8 x).ow x.os.length x.bD.length
structure WS(x:Rd)(plan:List Int):Prop extends CO x plan where
 fit:∀k,k<plan.length->nth plan k≠-1->nth (nth x.fit k) (nth plan k).toNat=true
 once:∀k,k<plan.length->nth plan k≠-1->∀j,j<k->nth plan j≠nth plan k
structure zdz(x:Rd)(u v:List Int):Prop where
 u0:∀i,i<x.os.length->0<=nth u i/\nth u i<=1000000000000
 v0:∀k,k<x.bD.length->0<=nth v k/\nth v k<=1000000000000
 pe:∀i,i<x.os.length->nth u i<=jj (prio x i)
 wt:∀i k,i<x.os.length->k<x.bD.length->nth (nth x.fit i) k=true->nth u i<=nth (nth x.wt i) k+nth v k
 no:∀i,i<x.os.length->nth (bR x) i=-1->nth u i=jj (prio x i)
 at_:∀i,i<x.os.length->nth (bR x) i≠-1->∃k,k<x.bD.length/\nth (bR x) i=(k:Int)/\nth (nth x.fit i) k=true/\nth u i=nth (nth x.wt i) k+nth v k
 one:∀i j,i<x.os.length->j<x.os.length->nth (bR x) i≠-1->nth (bR x) i=nth (bR x) j->i=j
 fr:∀k,k<x.bD.length->(∀i,i<x.os.length->nth (bR x) i≠(k:Int))->nth v k=0
theorem kJ{α:Type}[Inhabited α]{E:Nat->α->Int}:∀{l:List α}{k:Nat},(∀j,j<l.length->E (k+j) (nth l j)=0)->gG E l k=(0,0)
 |[],_,_=>rfl
 |y::r,k,h=>by
  unfold gG;have h0:E k y=0:=h 0 ae;rw[cu h0]
  exact kJ λj hj=>by
   have:=h (j+1) ak;rw[show k+(j+1)=k+1+j by omega] at this;exact this
noncomputable instance zd0:bE:=LD
structure Rt(bD:List Car)(os:List Ord)(wt:List (List Int))(zs:List Par):Prop where
 lc:bD.length<=8
 lo:os.length<=8
 lw:wt.length=os.length
 lz:zs.length<=64
 cn:∀c∈bD,gl c.1=true/\cj c.2.1 1 8=true
 cd:bD.Pairwise λa b=>decide (a.1=b.1)=false
 on:∀o∈os,gl o.1=true/\cj o.2.1 1 8=true/\cj o.2.2.2 0 6=true
 od:os.Pairwise λa b=>decide (a.1=b.1)=false
 wr:∀w∈wt,w.length=bD.length/\∀v∈w,cj v 0 100000=true
 zr:∀p∈zs,cj p.1 0 ((os.length:Int)-1)=true/\cj p.2 0 ((bD.length:Int)-1)=true
 zd:zs.Pairwise λa b=>(decide (b.1=a.1)&&decide (b.2=a.2))=false
theorem eF{α:Type}[Inhabited α](l:List α)(k:Nat)(h:k<l.length):nth l k=l[k]:=by
 simp[nth,dT,h]
theorem kK{α:Type}[Inhabited α](R:α->α->Bool)(l:List α):(∀k,k<l.length->((l.take k).any λy=>R y (nth l k))=false)↔l.Pairwise λa b=>R a b=false:=by
 rw[sQ];constructor
 .intro h i j hi hj hr;have:=ye.1 (h j hj) l[i] (by rw[TR];exact⟨i,ab,rfl⟩);rw[eF l j hj] at this;simp_all
 .intro h k hk;rw[ye];intro y hy;rw[TR] at hy;obtain⟨j,hj,rfl⟩:=hy;rw[eF l k hk,h j k ab hk ab];decide
theorem kO{α:Type}[Inhabited α]{nm:α->ByteArray}{mr:α->Int}{l:List α}:∀{r:List α}{k:Nat},(∀j,j<r.length->iF nm mr l (k+j) (nth r j)=0)->gu nm mr l r k=(0,0)
 |[],_,_=>rfl
 |y::r,k,h=>by
  unfold gu;have h0:iF nm mr l k y=0:=h 0 ae;rw[cu h0]
  exact kO λj hj=>by
   have:=h (j+1) ak;rw[show k+(j+1)=k+1+j by omega] at this;exact this
theorem eG{α:Type}[Inhabited α]{p:α->Prop}{l:List α}:(∀k,k<l.length->p (nth l k))↔∀y∈l,p y:=by
 constructor
 .intro h y hy;obtain⟨k,hk,e⟩:=List.mem_iff_getElem.1 hy;have:=h k hk
  rwa [eF l k hk,e] at this
 .intro h k hk;exact h _ (bt hk)
theorem bL{b:Bool}{e:Int}(he:e≠0):da b e=0↔b=true:=⟨rE he,λh=>by rw[h];rfl⟩
theorem eL{a b c:Int}:eo [a,b,c]=0↔a=0/\b=0/\c=0:=by
 constructor
 .intro h;obtain⟨h1,h⟩:=bF h;obtain⟨h2,h⟩:=bF h;exact⟨h1,h2,(bF h).1⟩
 .rintro⟨rfl,rfl,rfl⟩;rfl
theorem kP{a b:Int}:eo [a,b]=0↔a=0/\b=0:=by
 constructor
 .intro h;obtain⟨h1,h⟩:=bF h;exact⟨h1,(bF h).1⟩
 .rintro⟨rfl,rfl⟩;rfl
theorem kQ{α:Type}[Inhabited α](nm:α->ByteArray)(mr:α->Int)(l:List α):(hZ nm mr l).2=0↔(∀y∈l,gl (nm y)=true/\mr y=0)/\l.Pairwise λa b=>decide (nm a=nm b)=false:=by
 rw[<-kK (λa b=>decide (nm a=nm b)) l,<-eG]
 have key:(hZ nm mr l).2=0↔∀j,j<l.length->iF nm mr l j (nth l j)=0:=by
  constructor
  .intro h j hj;have:=ft h j hj
   rwa [dJ] at this
  .intro h;show (gu nm mr l l 0).2=0;rw[kO λj hj=>by rw[dJ];exact h j hj]
 rw[key];constructor
 .intro h;refine⟨λk hk=>?_,λk hk=>?_⟩
  .have:=eL.1 (h k hk);exact⟨(bL af).1 this.1,this.2.2⟩
  .have:=eL.1 (h k hk);exact not_true ((bL af).1 this.2.1)
 .rintro⟨h1,h2⟩ k hk
  refine eL.2 ⟨?_,?_,(h1 k hk).2⟩
  .rw[(h1 k hk).1];rfl
  .rw[h2 k hk];rfl
theorem kV{α:Type}[Inhabited α](E:Nat->α->Int)(l:List α):(gG E l 0).2=0↔∀j,j<l.length->E j (nth l j)=0:=by
 constructor
 .intro h j hj;have:=fh h j hj
  rwa [dJ] at this
 .intro h;rw[kJ λj hj=>by rw[dJ];exact h j hj]
theorem tl(bD:List Car)(os:List Ord)(wt:List (List Int))(zs:List Par):(iV bD os wt zs).2=0↔Rt bD os wt zs:=by
 have hc:=kQ Prod.fst gr bD;have ho:=kQ Prod.fst fQ os;have hw:=kV (λ_=>iG bD.length) wt;have hz:=kV (lN os.length bD.length zs) zs
 have mc:∀c:Car,gr c=0↔cj c.2.1 1 8=true:=λc=>bL af
 have mo:∀o:Ord,fQ o=0↔cj o.2.1 1 8=true/\cj o.2.2.2 0 6=true:=λo=>by
  unfold fQ;rw[bL af,fe]
 have mw:∀w:List Int,iG bD.length w=0↔w.length=bD.length/\∀v∈w,cj v 0 100000=true:=λw=>by
  unfold iG;rw[kP,bL af,bL af,Dc,ye,decide_eq_true_eq]
  grind
 have mz:∀(k:Nat)(p:Par),lN os.length bD.length zs k p=0↔(cj p.1 0 ((os.length:Int)-1)=true/\cj p.2 0 ((bD.length:Int)-1)=true)/\((zs.take k).any λy=>decide (p.1=y.1)&&decide (p.2=y.2))=false:=λk p=>by
  unfold lN;rw[kP,bL af,bL af,fe,Dc]
 have tz:(∀j,j<zs.length->lN os.length bD.length zs j (nth zs j)=0)↔(∀p∈zs,cj p.1 0 ((os.length:Int)-1)=true/\cj p.2 0 ((bD.length:Int)-1)=true)/\zs.Pairwise λa b=>(decide (b.1=a.1)&&decide (b.2=a.2))=false:=by
  rw[<-kK (λa b:Par=>decide (b.1=a.1)&&decide (b.2=a.2)) zs,<-eG]
  grind
 have tw:(∀j,j<wt.length->iG bD.length (nth wt j)=0)↔∀w∈wt,w.length=bD.length/\∀v∈w,cj v 0 100000=true:=by
  rw[eG (p:=λw=>iG bD.length w=0)];simp_all
 rw[tw] at hw;rw[tz] at hz;constructor
 .intro h;unfold iV at h;split at h
  .simp at h
  rename_i g1;split at h
  .trivial
  rename_i g2;split at h
  .simp at h
  rename_i g3;split at h
  .trivial
  rename_i g4;split at h
  .simp at h
  rename_i g5;have h8:=GZ h
  have hg:(gG (λ_=>iG bD.length) wt 0).2=0:=by
   unfold gU at h
   grind
  rw[h8] at h;unfold iU at h;split at h
  .simp at h
  rename_i g6;have a1:=hc.1 (yf.1 g2);have a2:=ho.1 (yf.1 g4);have a3:=hw.1 hg;have a4:=hz.1 h;exact⟨ab,ab,ab,ab,λc hc=>⟨(a1.1 c hc).1,(mc c).1 (a1.1 c hc).2⟩,a1.2,λo ho=>⟨(a2.1 o ho).1,(mo o).1 (a2.1 o ho).2⟩,a2.2,a3,a4.1,a4.2⟩
 .intro h;unfold iV
  rw[bN (by have:=h.lc;omega),bN (by rw[yf];exact hc.2 ⟨λc hc=>⟨(h.cn c hc).1,(mc c).2 (h.cn c hc).2⟩,h.cd⟩),bN (by have:=h.lo;omega),
   bN (by rw[yf];exact ho.2 ⟨λo ho=>⟨(h.on o ho).1,(mo o).2 (h.on o ho).2⟩,h.od⟩),bN (by have:=h.lw;omega)]
  unfold gU;rw[bN (by rw[yf];exact hw.2 h.wr)];unfold iU;rw[bN (by have:=h.lz;omega)];exact hz.2 ⟨h.zr,h.zd⟩
theorem kW(r:Tw.RND):ceR r=0↔Rt r.bD r.os r.wt r.zs:=tl _ _ _ _
end Go.Proofs.YthpkmilhiganjaaGreat
namespace Go.Proofs.YthpkmilhiganjaaGreat
open Go Go.Fi
variable[bE]
theorem k6(s:ByteArray)(hs:s.size<1000000):bX Tz.prog 134 [.str s] (.bool (gl s)) true:=by
 refine rcK Tz.func134 ?_;simp only[Tryz.results134,Tryz.ntmps134]
 repeat' first|(with_reducible first|apply bI|apply cg|apply bV|apply bH|apply bP|refine wT ?_ ?_|refine j0 ?_ ?_|intro _)|simp[*]
 .exact OP ab
 rotate_left
 .rename_i h0;exact GR (by have:=of_decide_eq_true h0;omega)
 rename_i hA hB
 have ha:s.size≠0:=by have:=of_decide_eq_false hA;omega
 refine wV (λk:Nat=>k<=s.size/\mJ s k=true) [0] (λk=>[(3,.w false false (.int .i64 k))]) (λ_=>[]) (λk=>s.size-k)
  (λ_:Unit=>mJ s s.size=true) [0] (λ_=>[]) (λ_=>[]) 0 ⟨cG _,rfl⟩ ae ae (λk hk=>?_) (λ_ hf=>?_)
 .obtain⟨hk,hf⟩:=hk
  repeat' first|(with_reducible first|apply bI|apply dk|apply cg|apply bV|apply dg|apply bH|apply bP|refine And.intro ?_ ?_|refine wT ?_ ?_|refine wS ?_ ?_|refine j0 ?_ ?_|intro _)|simp[*]
  all_goals first
   |exact db ab ab
   |omega
   |(refine nx (k+1) ?_ ?_;(· refine⟨ab,?_⟩;unfold mJ;rw[hf];clear hf;simp[okB,uO] at *;omega);(refine cY ?_ ?_<;>first|trivial|(simp[*];done)))
   |(refine dQ () ?_ ?_;(· rw[show s.size=k by omega];exact hf);(refine cY ?_ ?_<;>first|trivial|simp))
   |(unfold gl;rw[Bn s k (by clear hf;simp[okB,uO] at *;omega) s.size ab];rfl)
 .repeat' first|(with_reducible first|apply bI|apply bV|apply bH|intro _)|simp[*]
  all_goals (rw[GU hf ha];simp;omega)
theorem tu(bD:List Car)(os:List Ord)(wt:List (List Int))(zs:List Par)(i:Nat)(hi:i<bD.length)(hl:bD.length<=1000)(hs:∀x∈bD,x.1.size<1000000):bX Tz.prog 108 [.agg [.sl bD.length (di bD),.sl os.length (dh os),.sl wt.length (dH wt),.sl zs.length (dc zs)],.int .i64 i] (.int .i64 (iF Prod.fst gr bD i (nth bD i))) true:=by
 have c1:=k6 (nth bD i).1 (hs _ (mZ hi));have c2:=m7 (nth bD i).2.1 1 8;generalize hR:iF Prod.fst gr bD i (nth bD i)=R;unfold iF gr at hR;clear hs
 cases hb:gl (nth bD i).1 with
 |false=>
  rw[hb] at c1 hR;have hR:(4:Int)=R:=hR;subst hR;clear hb c2;refine rcK Tz.func108 ?_;simp only[Tryz.results108,Tryz.ntmps108]
  repeat' first|(with_reducible first|apply bI|apply bV|apply bH|apply bP|refine And.intro ?_ ?_|intro _)|simp[*,hi]|(refine bJ (c1) ?_ ?_;· simp[*];done)
  all_goals first|omega
 |true=>
  rw[hb] at c1 hR;clear hb;have hR:eo [da (!((bD.take i).any λy=>decide (y.1=(nth bD i).1))) 5,da (cj (nth bD i).2.1 1 8) 2]=R:=hR;generalize hA:((bD.take i).any λy=>decide (y.1=(nth bD i).1))=A at hR;have kA:dp (((bD.take i).drop 0).any (λy=>decide (y.1=(nth bD i).1))=A):=hA;have kR:=keep hR;clear hA hR;refine rcK Tz.func108 ?_;simp only[Tryz.results108,Tryz.ntmps108]
  repeat' first|(with_reducible first|apply bI|apply cg|apply bH|apply bP|refine And.intro ?_ ?_|intro _)|simp[*,hi]|(refine bJ (c1) ?_ ?_;· simp[*];done)
  all_goals try first|omega|assumption
  refine fH (λ(k:Nat)=>k<=i/\((bD.take i).drop k).any (λy=>decide (y.1=(nth bD i).1))=A) [1,2] (λ(k:Nat)=>[(5,.w false false (.int .i64 k))]) [0] (λ(k:Nat)=>[]) (λ(k:Nat)=>i-k) (λ(_u:Unit)=>A=false) [1,2] (λ(_u:Unit)=>[]) [0] (λ(_u:Unit)=>[]) (0) ⟨cG _,kA⟩ ae ae (λk hk=>?_) (λ_u hf=>?_)
  .obtain⟨hk,hj⟩:=hk;clear c1;by_cases h5:k<i
   .have h9:k<bD.length:=ab
    have h3:k<(bD.take i).length:=by rw[jP];omega
    rw[gb _ k h3,Di] at hj
    have e:nth (bD.take i) k=nth bD k:=by
     simp[nth,dT,lQ,h5]
    rw[e] at hj;have kj:=keep hj;clear hj e h3;by_cases hn:(nth bD k).1=(nth bD i).1
    .have hA:A=true:=by have h:=kj;unfold dp at h;rw[<-h];simp[hn]
     subst hA;have hR:(5:Int)=R:=kR;subst hR;clear kj kR kA
     repeat' first|(with_reducible first|apply bI|apply dk|apply cg|apply bV|apply bH|refine dD (id:=6) 13 mixed ai ?_|apply bP|intro _)|simp[*,h5,h9,hi,hn]
     all_goals first|omega|exact db ab ab
    .have kj2:dp (((bD.take i).drop (k+1)).any (λy=>decide (y.1=(nth bD i).1))=A):=by have h:=kj;simp_all
     clear kj kA
     repeat' first|(with_reducible first|apply bI|apply dk|apply cg|apply bH|refine dD (id:=6) 13 mixed ai ?_|apply bP|refine And.intro ?_ ?_|intro _)|simp[*,h5,h9,hi,hn]
     all_goals first
      |omega
      |exact db ab ab
      |(refine nR _ _ _ _ _ (k+1) _ ?_ ab ?_;(· trivial);(refine cY ?_ ?_<;>first|trivial|simp))
   .have hh:k=i:=ab
    subst hh;have h':dp (A=false):=keep (by rw[<-hj];simp);clear hj kA
    repeat' first|(with_reducible first|apply bI|apply dg|apply bH|apply bP|intro _)|simp[*]
    all_goals first
     |omega
     |(refine dQ () ?_ ?_;(· exact h');(refine cY ?_ ?_<;>first|trivial|simp))
  .subst hf;clear kA c1
   cases hw:cj (nth bD i).2.1 1 8 with
   |true=>
    rw[hw] at c2 kR;have hR:(0:Int)=R:=kR;subst hR;clear kR hw
    repeat' first|(with_reducible first|apply bI|apply cg|apply bV|apply bH|apply bP|refine And.intro ?_ ?_|intro _)|simp[*,hi]|(refine bJ (c2) ?_ ?_;· simp[*];done)
    omega
   |false=>
    rw[hw] at c2 kR;have hR:(2:Int)=R:=kR;subst hR;clear kR hw
    repeat' first|(with_reducible first|apply bI|apply bV|apply bH|apply bP|refine And.intro ?_ ?_|intro _)|simp[*,hi]|(refine bJ (c2) ?_ ?_;· simp[*];done)
    omega
theorem tv(bD:List Car)(os:List Ord)(wt:List (List Int))(zs:List Par)(i:Nat)(hi:i<os.length)(hl:os.length<=1000)(hs:∀x∈os,x.1.size<1000000):bX Tz.prog 109 [.agg [.sl bD.length (di bD),.sl os.length (dh os),.sl wt.length (dH wt),.sl zs.length (dc zs)],.int .i64 i] (.int .i64 (iF Prod.fst fQ os i (nth os i))) true:=by
 have c1:=k6 (nth os i).1 (hs _ (mZ hi));have c2:=m7 (nth os i).2.1 1 8;have c3:=m7 (nth os i).2.2.2 0 6;generalize hR:iF Prod.fst fQ os i (nth os i)=R;unfold iF fQ at hR;clear hs
 cases hb:gl (nth os i).1 with
 |false=>
  rw[hb] at c1 hR;have hR:(4:Int)=R:=hR;subst hR;clear hb c2 c3;refine rcK Tz.func109 ?_;simp only[Tryz.results109,Tryz.ntmps109]
  repeat' first|(with_reducible first|apply bI|apply bV|apply bH|apply bP|refine And.intro ?_ ?_|intro _)|simp[*,hi]|(refine bJ (c1) ?_ ?_;· simp[*];done)
  all_goals first|omega
 |true=>
  rw[hb] at c1 hR;clear hb;have hR:eo [da (!((os.take i).any λy=>decide (y.1=(nth os i).1))) 5,da (cj (nth os i).2.1 1 8&&cj (nth os i).2.2.2 0 6) 2]=R:=hR;generalize hA:((os.take i).any λy=>decide (y.1=(nth os i).1))=A at hR;have kA:dp (((os.take i).drop 0).any (λy=>decide (y.1=(nth os i).1))=A):=hA;have kR:=keep hR;clear hA hR;refine rcK Tz.func109 ?_;simp only[Tryz.results109,Tryz.ntmps109]
  repeat' first|(with_reducible first|apply bI|apply cg|apply bH|apply bP|refine And.intro ?_ ?_|intro _)|simp[*,hi]|(refine bJ (c1) ?_ ?_;· simp[*];done)
  all_goals try first|omega|assumption
  refine fH (λ(k:Nat)=>k<=i/\((os.take i).drop k).any (λy=>decide (y.1=(nth os i).1))=A) [1,2] (λ(k:Nat)=>[(5,.w false false (.int .i64 k))]) [0] (λ(k:Nat)=>[]) (λ(k:Nat)=>i-k) (λ(_u:Unit)=>A=false) [1,2] (λ(_u:Unit)=>[]) [0] (λ(_u:Unit)=>[]) (0) ⟨cG _,kA⟩ ae ae (λk hk=>?_) (λ_u hf=>?_)
  .obtain⟨hk,hj⟩:=hk;clear c1;by_cases h5:k<i
   .have h9:k<os.length:=ab
    have h3:k<(os.take i).length:=by rw[jP];omega
    rw[gb _ k h3,Di] at hj
    have e:nth (os.take i) k=nth os k:=by
     simp[nth,dT,lQ,h5]
    rw[e] at hj;have kj:=keep hj;clear hj e h3;by_cases hn:(nth os k).1=(nth os i).1
    .have hA:A=true:=by have h:=kj;unfold dp at h;rw[<-h];simp[hn]
     subst hA;have hR:(5:Int)=R:=kR;subst hR;clear kj kR kA
     repeat' first|(with_reducible first|apply bI|apply dk|apply cg|apply bV|apply bH|refine dD (id:=6) 13 mixed ai ?_|apply bP|intro _)|simp[*,h5,h9,hi,hn]
     all_goals first|omega|exact db ab ab
    .have kj2:dp (((os.take i).drop (k+1)).any (λy=>decide (y.1=(nth os i).1))=A):=by have h:=kj;simp_all
     clear kj kA
     repeat' first|(with_reducible first|apply bI|apply dk|apply cg|apply bH|refine dD (id:=6) 13 mixed ai ?_|apply bP|refine And.intro ?_ ?_|intro _)|simp[*,h5,h9,hi,hn]
     all_goals first
      |omega
      |exact db ab ab
      |(refine nR _ _ _ _ _ (k+1) _ ?_ ab ?_;(· trivial);(refine cY ?_ ?_<;>first|trivial|simp))
   .have hh:k=i:=ab
    subst hh;have h':dp (A=false):=keep (by rw[<-hj];simp);clear hj kA
    repeat' first|(with_reducible first|apply bI|apply dg|apply bH|apply bP|intro _)|simp[*]
    all_goals first
     |omega
     |(refine dQ () ?_ ?_;(· exact h');(refine cY ?_ ?_<;>first|trivial|simp))
  .subst hf;clear kA c1
   cases hw:cj (nth os i).2.1 1 8 with
   |true=>
    cases hv:cj (nth os i).2.2.2 0 6 with
    |true=>
     rw[hw,hv] at kR;rw[hw] at c2;rw[hv] at c3;have hR:(0:Int)=R:=kR;subst hR;clear kR hw hv
     repeat' first|(with_reducible first|apply bI|apply cg|apply bV|apply bH|apply bP|refine And.intro ?_ ?_|intro _)|simp[*,hi]|(refine bJ (c2) ?_ ?_;· simp[*];done)|(refine bJ (c3) ?_ ?_;· simp[*];done)
     all_goals first|omega
    |false=>
     rw[hw,hv] at kR;rw[hw] at c2;rw[hv] at c3;have hR:(2:Int)=R:=kR;subst hR;clear kR hw hv
     repeat' first|(with_reducible first|apply bI|apply bV|apply bH|apply bP|refine And.intro ?_ ?_|intro _)|simp[*,hi]|(refine bJ (c2) ?_ ?_;· simp[*];done)|(refine bJ (c3) ?_ ?_;· simp[*];done)
     all_goals first|omega
   |false=>
    rw[hw] at c2 kR;have hR:(2:Int)=R:=kR;subst hR;clear kR hw c3
    repeat' first|(with_reducible first|apply bI|apply bV|apply bH|apply bP|refine And.intro ?_ ?_|intro _)|simp[*,hi]|(refine bJ (c2) ?_ ?_;· simp[*];done)
    omega
end Go.Proofs.YthpkmilhiganjaaGreat
