/- Lemmas. -/
import Derived.Test.YthpkmilhiganjaaGreatPEc
import Derived.Test.YthpkmilhiganjaaGreatPEa
import Derived.Test.YthpkmilhiganjaaGreatPLf
set_option linter.all false
set_option maxHeartbeats 32000000
set_option maxRecDepth 100000
namespace Go.Proofs.YthpkmilhiganjaaGreat
open Go Go.Fi
theorem zd7(tk:List Int)(n:Nat):∀c,(∀k,k<c->nth tk k<(n:Int))->(∀j k,j<c->k<c->0<=nth tk j->nth tk j=nth tk k->j=k)->∀i,i<n->(∃k,k<c/\nth tk k=(i:Int)/\nth (fh tk n c) i=(k:Int))\/((∀k,k<c->nth tk k≠(i:Int))/\nth (fh tk n c) i=-1)
 |0,_,_,i,hi=>.inr ⟨λk hk=>absurd hk (by omega),C7 _ _ _ hi⟩
 |c+1,h1,h2,i,hi=>by
  have ih:=zd7 tk n c (λk hk=>h1 k (by omega)) (λj k hj hk=>h2 j k (by omega) (by omega)) i hi;have hc:=h1 c (by omega);unfold fh;by_cases h0:0<=nth tk c
  .rw[aB h0,fb _ _ _ _ (by rw[Ak];omega)];by_cases e:(nth tk c).toNat=i
   .rw[aB e];exact .inl ⟨c,by omega,by omega,rfl⟩
   .rw[ar e]
    rcases ih with ⟨k,hk,e1,e2⟩|⟨e1,e2⟩
    .exact .inl ⟨k,by omega,e1,e2⟩
    .refine .inr ⟨λk hk=>?_,e2⟩;by_cases ag:k=c
     .subst ag;omega
     .exact e1 k (by omega)
  .rw[ar h0]
   rcases ih with ⟨k,hk,e1,e2⟩|⟨e1,e2⟩
   .exact .inl ⟨k,by omega,e1,e2⟩
   .refine .inr ⟨λk hk=>?_,e2⟩;by_cases ag:k=c
    .subst ag;omega
    .exact e1 k (by omega)
structure zg9(x:Rd)(u v:List Int):Prop where
 u0:∀i,i<x.os.length->0<=nth u i/\nth u i<=1000000000000
 v0:∀k,k<x.ab.length->0<=nth v k/\nth v k<=1000000000000
 pe:∀i,i<x.os.length->nth u i<=bw (prio x i)
 wt:∀i k,i<x.os.length->k<x.ab.length->nth (nth x.fit i) k=true->nth u i<=nth (nth x.wt i) k+nth v k
 no:∀i,i<x.os.length->nth (bF x) i=-1->nth u i=bw (prio x i)
 at_:∀i,i<x.os.length->nth (bF x) i≠-1->∃k,k<x.ab.length/\nth (bF x) i=(k:Int)/\nth (nth x.fit i) k=true/\nth u i=nth (nth x.wt i) k+nth v k
 one:∀i j,i<x.os.length->j<x.os.length->nth (bF x) i≠-1->nth (bF x) i=nth (bF x) j->i=j
 fr:∀k,k<x.ab.length->(∀i,i<x.os.length->nth (bF x) i≠(k:Int))->nth v k=0
theorem E2(x:Rd)(ok:ku x):zg9 x (cp x).u (cH x):=by
 have m:=WS x ok;have hp:=EO x ok
 have hv:∀k,k<x.ab.length->nth (cH x) k=-(nth (cp x).v k):=λk hk=>by unfold cH;rw[CN _ _ _ hk]
 have val:=zd7 (cp x).ow x.os.length x.ab.length (λk hk=>by rcases m.how k (by omega) with h|h<;>omega) (λj k hj hk=>m.dL j k (by omega) (by omega))
 have ay:=λl hl=>m.ub hp (l:=l) hl
 have tC:∀i k,i<x.os.length->k<x.ab.length->D3 x i k=if nth (nth x.fit i) k=true then nth (nth x.wt i) k else 1000000000000000:=λi k hi hk=>by
  rw[D9 x i k hi (by omega)];unfold sf;by_cases hf:nth (nth x.fit i) k=true
  .rw[aB ⟨hk,hf⟩,aB hf]
  .rw[ar (λh=>hf h.2),ar (by omega),ar hf]
 have tP:∀i,i<x.os.length->D3 x i (x.ab.length+i)=bw (prio x i):=λi hi=>by
  rw[D9 x i _ hi (by omega)];unfold sf;rw[ar (by omega),aB rfl]
 refine⟨λi hi=>⟨m.hu i hi,ay i hi⟩,λk hk=>zd2 x ok k hk,λi hi=>?_,λi k hi hk hf=>?_,λi hi hn=>?_,λi hi hn=>?_,λi j hi hj hn e=>?_,λk hk b9=>?_⟩
 .have h1:=m.hf i (x.ab.length+i) hi (by omega);rw[tP i hi,m.hvp i hi] at h1;omega
 .have h1:=m.hf i k hi (by omega);rw[tC i k hi hk,aB hf] at h1;rw[hv k hk];omega
 .rcases val i hi with ⟨k,hk,_,e2⟩|⟨e1,_⟩
  .have:nth (bF x) i=(k:Int):=e2;omega
  .obtain⟨j,hj,ej⟩:=m.D7 i hi
   have b7:¬j<x.ab.length:=λh=>e1 j h ej
   have aa:=(m.own hp (aE _) hj (by omega)).resolve_left b7;have ht:=m.ht j hj (by omega);rw[ej] at aa ht;rw[bT] at aa ht;rw[aa,tP i hi,m.hvp i hi] at ht;omega
 .rcases val i hi with ⟨k,hk,e1,e2⟩|⟨_,e2⟩
  .refine⟨k,hk,e2,?_⟩;have ht:=m.ht k (by omega) (by omega);rw[e1,bT,tC i k hi hk] at ht;have h1:=ay i hi;have h2:=m.hv k (by omega);by_cases hf:nth (nth x.fit i) k=true
   .rw[aB hf] at ht;exact⟨hf,by rw[hv k hk];omega⟩
   .rw[ar hf] at ht;omega
  .exact absurd e2 hn
 .rcases val i hi with ⟨k,hk,e1,e2⟩|⟨_,e2⟩
  .rcases val j hj with ⟨l,hl,f1,f2⟩|⟨_,f2⟩
   .have e2:nth (bF x) i=(k:Int):=e2;have f2:nth (bF x) j=(l:Int):=f2
    have:k=l:=by omega
    subst this;omega
   .have e2:nth (bF x) i=(k:Int):=e2;have f2:nth (bF x) j=-1:=f2;omega
  .exact absurd e2 hn
 .rw[hv k hk]
  rcases m.how k (by omega) with h|h
  .rw[m.hvz k (by omega) h];rfl
  .obtain⟨i,hi⟩:∃i:Nat,nth (cp x).ow k=(i:Int):=⟨(nth (cp x).ow k).toNat,by omega⟩
   have ax:i<x.os.length:=by omega
   rcases val i ax with ⟨l,hl,e1,e2⟩|⟨e1,_⟩
   .have:l=k:=m.dL l k (by omega) (by omega) (by omega) (by omega);subst this;exact absurd e2 (b9 i ax)
   .exact absurd hi (e1 k hk)
theorem zdk(row:List Bool)(w p:List Int)(m0 u:Int)(h0:u<=m0):∀n,(∀k,k<n->nth row k=true->u<=nth w k+nth p k)->u<=mK row w p m0 n
 |0,_=>h0
 |n+1,h=>by
  have ih:=zdk row w p m0 u h0 n (λk hk=>h k (by omega));unfold mK;by_cases hr:nth row n=true
  .have:=h n (by omega) hr;rw[aB hr]
   split<;>omega
  .rw[ar hr];exact ih
theorem zd8(x:Rd)(ok:ku x)(i:Nat)(hi:i<x.os.length):nth (rL x) i=nth (cp x).u i:=by
 have b:=E2 x ok;unfold rL;rw[CN _ _ _ hi]
 have h1:nth (cp x).u i<=kH x i (cH x):=zdk _ _ _ _ _ (b.pe i hi) _ λk hk hr=>b.wt i k hi (by rw[ok.fr i hi] at hk;exact hk) hr
 have h2:=zdj (nth x.fit i) (nth x.wt i) (cH x) (bw (prio x i)) (nth x.fit i).length;have h3:mK (nth x.fit i) (nth x.wt i) (cH x) (bw (prio x i)) (nth x.fit i).length=kH x i (cH x):=rfl;rw[h3] at h2;by_cases hn:nth (bF x) i=-1
 .have:=b.no i hi hn;omega
 .obtain⟨k,hk,_,hf,e⟩:=b.at_ i hi hn;have:=h2.2 k (by rw[ok.fr i hi];exact hk) hf;omega
theorem zd9(x:Rd):(bF x).length=x.os.length:=Ak _ _ _
theorem zcu(x:Rd)(ok:ku x):PO x (bF x):=by
 have b:=E2 x ok;have hl:=zd9 x;refine⟨zd4 x ok,λk hk hn=>?_,λk hk hn j hj e=>?_⟩
 .obtain⟨c,_,e1,e2,_⟩:=b.at_ k (by omega) hn;rw[e1,bT];exact e2
 .have:=b.one k j (by omega) (by omega) hn e.symm;omega
theorem zea{α:Type}[Inhabited α]{E:Nat->α->Int}:∀{l:List α}{k:Nat},(∀j,j<l.length->E (k+j) (nth l j)=0)->dk E l k=(0,0)
 |[],_,_=>rfl
 |y::r,k,h=>by
  unfold dk;have h0:E k y=0:=h 0 (by simp);rw[aB h0]
  exact zea λj hj=>by
   have:=h (j+1) (by simpa using hj);rw[show k+(j+1)=k+1+j by omega] at this;exact this
theorem zcv(l:List Int)(f:Nat->Int):∀n,(∀k,k<n->nth l k=f k)->lp l n=cq f n:=λn h=>by
 rw[E1];exact C8 n h
theorem zf1(x:Rd)(ok:ku x):eQ x (bF x)=lp (rL x) x.os.length-lp (cH x) x.ab.length:=by
 have b:=E2 x ok;have r:=zcu x ok;have hl:=zd9 x
 have h1:∀k,k<=x.os.length->eM x (bF x) k=kx x x.os.length-kx x k+lp (rL x) k-l9 (cH x) (bF x) k:=λk=>by
  induction k with
  |zero=>intro _;unfold eM l9;simp
  |succ k ih=>
   intro hk;have ih:=ih (by omega)
   rw[show eM x (bF x) (k+1)=if nth (bF x) k=-1 then eM x (bF x) k else eM x (bF x) k+(C5 x k (nth (bF x) k)-bw (prio x k)) from rfl,
    show l9 (cH x) (bF x) (k+1)=if nth (bF x) k=-1 then l9 (cH x) (bF x) k else l9 (cH x) (bF x) k+nth (cH x) (nth (bF x) k).toNat from rfl,
    show kx x (k+1)=kx x k+bw (prio x k) from rfl,show lp (rL x) (k+1)=lp (rL x) k+nth (rL x) k from rfl,zd8 x ok k (by omega)]
   by_cases hn:nth (bF x) k=-1
   .rw[aB hn,aB hn];have:=b.no k (by omega) hn;omega
   .rw[ar hn,ar hn];obtain⟨c,_,e1,_,e2⟩:=b.at_ k (by omega) hn;unfold C5;rw[e1,bT];omega
 have h2:=zct x (cH x) (bF x) r (bF x).length (aE _)
 have h3:cq (λc=>if ((bF x).take (bF x).length).contains (c:Int) then nth (cH x) c else 0) x.ab.length=lp (cH x) x.ab.length:=by
  rw[E1]
  refine C8 _ λc hc=>?_
  rw[uW];by_cases hm:(c:Int)∈bF x
  .rw[aB (by simpa using hm)]
  .rw[ar (by simpa using hm),b.fr c hc];intro i hi e;refine hm ?_;rw[<-e]
   have aq:i<(bF x).length:=by omega
   have:nth (bF x) i=(bF x)[i]:=by simp[nth,bS,aq]
   rw[this];exact Dh aq
 have h4:=h1 x.os.length (aE _);unfold eQ;rw[hl] at h2 h3 ⊢;rw[h4,h2,h3];omega
end Go.Proofs.YthpkmilhiganjaaGreat
namespace Go.Proofs.YthpkmilhiganjaaGreat
open Go Go.Fi
variable[av]
def pI(M:List (Int×Int)):List (PV×PV):=M.map λp=>(.int .i64 p.1,.int .i64 p.2)
def mI(M:List (Int×Int)):List AV:=[fR (pI M)]
def eF:List (Int×Int)->Int->Option Int
 |[],_=>none
 |p::r,k=>if k=p.1 then some p.2 else eF r k
def C6:List (Int×Int)->Int->Int->List (Int×Int)
 |[],k,v=>[(k,v)]
 |p::r,k,v=>if k=p.1 then (k,v)::r else p::C6 r k v
theorem zf2:[fR []]=mI []:=rfl
@[simp]theorem zhu(M:List (Int×Int)):(mI M).length=1:=rfl
@[simp]theorem zig(M:List (Int×Int))(n:Nat):AV.lt.ltL n (mI M)=true:=rfl
@[simp]theorem zhv{D:List Nat}{h:ak}{n n':Nat}(M:List (Int×Int)):gZ D h n n' (mI M) (mI M)=True:=eq_true ⟨Pj _ _ _,trivial⟩
theorem zeb(M:List (Int×Int)):dZ (mI M)=some (pI M):=yR _
theorem zfc(M:List (Int×Int))(k:Int):okM (.int .i64) (.int .i64 k) (pI M)=true:=by
 simp[okM,okK,isLit,pI,eh]
theorem zf3(M:List (Int×Int))(k:Int):jY (pI M) (.int .i64 k)=(eF M k).map (PV.int .i64):=by
 induction M with
 |nil=>rfl
 |cons p r ih=>
  have e:eqK (.int .i64 k) (.int .i64 p.1)=decide (k=p.1):=by simp[eqK]
  show (if eqK (.int .i64 k) (.int .i64 p.1)=true then some (PV.int .i64 p.2) else jY (pI r) (.int .i64 k))=_;rw[e];simp only[eF,decide_eq_true_eq];split
  .rfl
  .exact ih
theorem zf4(M:List (Int×Int))(k:Int)(v:Int):iv (pI M) (.int .i64 k) (.int .i64 v)=pI (C6 M k v):=by
 induction M with
 |nil=>rfl
 |cons p r ih=>
  have e:eqK (.int .i64 k) (.int .i64 p.1)=decide (k=p.1):=by simp[eqK]
  show (if eqK (.int .i64 k) (.int .i64 p.1)=true then (PV.int .i64 k,PV.int .i64 v)::pI r else (PV.int .i64 p.1,PV.int .i64 p.2)::iv (pI r) (.int .i64 k) (.int .i64 v))=_;rw[e];simp only[C6,decide_eq_true_eq];split
  .rfl
  .rw[ih];rfl
theorem tS{P:Program}{t:TypeId}(hm:jZ P t=some (.int .i64,.int .i64 0))(M:List (Int×Int))(o f:Bool)(k:Int)(c:Bool):lkV P t (some (mI M)) (.w o f (.int .i64 k)) c=some (True,xR c (eF M k),[]):=by
 unfold lkV;simp only[iP,zeb,hm,zfc,zf3]
 cases c<;>cases eF M k<;>rfl
@[simp]theorem zhw(h:ak)(id:Nat)(M:List (Int×Int))(z:PV)(o f o' f':Bool)(k:Int)(v:Int):sD h id (some (mI M)) (some (.int .i64,z)) (.w o f (.int .i64 k)) (.w o' f' (.int .i64 v))=some (True,bP h id (mI (C6 M k v))):=by
 unfold sD;simp only[iP,zeb,zfc,isLit,and_self,zf4];rfl
theorem zhb:jZ Tz.prog 157=some (.int .i64,.int .i64 0):=by kernel_rfl
def a7(ex:List Int)(k:Nat):Bool:=!(ex.any λy=>decide ((k:Int)=y))
def bK(ex:List Int)(n:Nat):List Nat:=(List.range n).filter (a7 ex)
def bl(ex:List Int)(k:Nat):Nat:=(bK ex k).length
def kz(ex:List Int)(n:Nat):List (Int×Int):=(bK ex n).map λk:Nat=>((k:Int),(bl ex k:Int))
theorem mF(ex:List Int)(n:Nat):bK ex (n+1)=if a7 ex n then bK ex n++[n] else bK ex n:=by
 unfold bK;rw[jN,uV]
 cases h:a7 ex n<;>simp[h]
theorem E3(ex:List Int)(n k:Nat)(h:k∈bK ex n):k<n:=by
 unfold bK at h;simpa using (jm.1 h).1
theorem Bd(ex:List Int)(n:Nat):(bK ex n).length<=n:=by
 unfold bK;exact bN (yi _ _) (by simp)
theorem zec:∀(M:List (Int×Int))(k v:Int),(∀p∈M,p.1≠k)->C6 M k v=M++[(k,v)]
 |[],_,_,_=>rfl
 |p::r,k,v,h=>by
  unfold C6;rw[ar (λe=>h p fO e.symm),zec r k v λq hq=>h q (dm _ hq)];rfl
theorem zed(ex:List Int)(n:Nat):C6 (kz ex n) (n:Int) (bl ex n:Int)=kz ex n++[((n:Int),(bl ex n:Int))]:=by
 refine zec _ _ _ λp hp=>?_
 obtain⟨k,hk,rfl⟩:=dW.1 hp;have:=E3 ex n k hk;simp only[ne_eq];omega
theorem zcw(ex:List Int)(n:Nat):kz ex (n+1)=if a7 ex n then C6 (kz ex n) (n:Int) (bl ex n:Int) else kz ex n:=by
 rw[zed];unfold kz;rw[mF]
 cases a7 ex n<;>simp
theorem zee:∀(M N:List (Int×Int))(k:Int),eF (M++N) k=(eF M k).or (eF N k)
 |[],N,k=>by simp[eF]
 |p::r,N,k=>by
  simp only[pP,eF];split
  .rfl
  .exact zee r N k
theorem C1(ex:List Int)(v:Int):∀n,eF (kz ex n) v=if 0<=v/\v<(n:Int)/\a7 ex v.toNat=true then some (bl ex v.toNat:Int) else none
 |0=>by
  rw[ar (by omega)];rfl
 |n+1=>by
  have ih:=C1 ex v n;rw[zcw]
  cases hk:a7 ex n with
  |false=>
   simp only[bI,a9];rw[ih];by_cases h:0<=v/\v<(n:Int)/\a7 ex v.toNat=true
   .rw[aB h,aB ⟨h.1,by omega,h.2.2⟩]
   .rw[ar h,ar]
    rintro⟨h1,h2,h3⟩
    by_cases hn:v=(n:Int)
    .subst hn;rw[bT,hk] at h3;cases h3
    .exact h ⟨h1,by omega,h3⟩
  |true=>
   simp only[aX];rw[zed,zee,ih];by_cases hn:v=(n:Int)
   .subst hn;rw[ar (by omega),aB ⟨by omega,by omega,by rw[bT];exact hk⟩];simp[eF]
   .have e:eF [((n:Int),(bl ex n:Int))] v=none:=by simp[eF,hn]
    rw[e];by_cases h:0<=v/\v<(n:Int)/\a7 ex v.toNat=true
    .rw[aB h,aB ⟨h.1,by omega,h.2.2⟩];rfl
    .rw[ar h,ar]
     .rfl
     rintro⟨h1,h2,h3⟩
     exact h ⟨h1,by omega,h3⟩
def cC(x:Rd)(cs:List Int)(k:Nat):List Car:=(bK cs k).map λj=>nth x.ab j
def bM(x:Rd)(os:List Int)(k:Nat):List Ord:=(bK os k).map λj=>nth x.os j
def kB(x:Rd)(cs:List Int)(i k:Nat):List Int:=(bK cs k).map λj=>nth (nth x.wt i) j
def cm(x:Rd)(os cs:List Int)(k:Nat):List (List Int):=(bK os k).map λi=>kB x cs i x.ab.length
def cL(os cs:List Int)(n c:Nat)(p:Par):List Par:=
 match eF (kz os n) p.1,eF (kz cs c) p.2 with
 |some a,some b=>[(a,b)]
 |_,_=>[]
def cE(x:Rd)(os cs:List Int)(k:Nat):List Par:=(x.zs.take k).flatMap (cL os cs x.os.length x.ab.length)
def cA(l:List PV):List AV:=l.map (AV.w false false)
@[simp]theorem zcx(l:List PV):(cA l).length=l.length:=by simp[cA]
@[simp]theorem zih(l:List PV)(n:Nat):AV.lt.ltL n (cA l)=true:=qv n false false l
@[simp]theorem zhx{D:List Nat}{h:ak}{n n':Nat}(l:List PV):gZ D h n n' (cA l) (cA l)=True:=eq_true (oM false false _)
@[simp high] theorem zhy(h:ak)(d:Nat)(l:List PV):(cA l).mapM (frz h d)=some l:=wY h d false false l
theorem zcy(a b:List PV):cA (a++b)=cA a++cA b:=by simp[cA]
theorem zef(l:List Car)(c:Car):cA (aS (l++[c]))=cA (aS l)++[.w false false (.str c.1),.w false false (.int .i64 c.2.1),.w false false (.bool c.2.2)]:=by
 unfold aS;rw[sX,zcy];rfl
theorem zeg(l:List Ord)(c:Ord):cA (aR (l++[c]))=cA (aR l)++[.w false false (.str c.1),.w false false (.int .i64 c.2.1),.w false false (.bool c.2.2.1),.w false false (.int .i64 c.2.2.2)]:=by
 unfold aR;rw[sX,zcy];rfl
theorem zcz(l:List Par)(c:Par):cA (aT (l++[c]))=cA (aT l)++[.w false false (.int .i64 c.1),.w false false (.int .i64 c.2)]:=by
 unfold aT;rw[sX,zcy];rfl
theorem FL(l:List Car):(cA (aS l)).length=l.length*3:=by rw[zcx];exact Tw.pB (f:=Tw.dt) (s:=3) (λ_=>rfl) l
theorem HR(l:List Ord):(cA (aR l)).length=l.length*4:=by rw[zcx];exact Tw.pB (f:=Tw.cg) (s:=4) (λ_=>rfl) l
theorem D5(l:List Par):(cA (aT l)).length=l.length*2:=by rw[zcx];exact Tw.pB (f:=Tw.cu) (s:=2) (λ_=>rfl) l
theorem zeh:∀l:List Car,fA (aS l)=true
 |[]=>rfl
 |x::r=>by have:=zeh r;simpa[aS,Tw.dt,fA,flat] using this
theorem zei:∀l:List Ord,fA (aR l)=true
 |[]=>rfl
 |x::r=>by have:=zei r;simpa[aR,Tw.cg,fA,flat] using this
theorem zej:∀l:List Par,fA (aT l)=true
 |[]=>rfl
 |x::r=>by have:=zej r;simpa[aT,Tw.cu,fA,flat] using this
@[simp high] theorem zhz(h:ak)(d:Nat)(l:List Car):(cA (aS l)).all (dQ h d)=true:=tU h d false false _ (zeh l)
@[simp high] theorem zh0(h:ak)(d:Nat)(l:List Ord):(cA (aR l)).all (dQ h d)=true:=tU h d false false _ (zei l)
@[simp high] theorem zh1(h:ak)(d:Nat)(l:List Par):(cA (aT l)).all (dQ h d)=true:=tU h d false false _ (zej l)
theorem zc0(l:List (List Int))(r:List Int):cN (l++[r])=cN l++[.w true false (.sl r.length (ints r))]:=by simp[cN]
theorem zc1(l:List (List Int)):m6 l=a8 l:=rfl
def mH(x:Rd)(os cs:List Int):PV:=
 .agg [.sl (cC x cs x.ab.length).length (aS (cC x cs x.ab.length)),.sl (bM x os x.os.length).length (aR (bM x os x.os.length)),
  .sl (cm x os cs x.os.length).length (a8 (cm x os cs x.os.length)),.sl (cE x os cs x.zs.length).length (aT (cE x os cs x.zs.length))]
theorem zek(x:Rd)(ok:ku x)(os cs:List Int)(ho:os.length<100000)(hc:cs.length<100000):aC Tz.prog 87 [x.pv,.sl os.length (ints os),.sl cs.length (ints cs)] (mH x os cs) true:=by
 have kc:∀k:Nat,aC Tz.prog 123 [.sl cs.length (ints cs),.int .i64 k] (.bool (!(a7 cs k))) true:=λk=>by
  have:=oP cs hc k;unfold a7;rw[Jf];exact this
 have ko:∀k:Nat,aC Tz.prog 123 [.sl os.length (ints os),.int .i64 k] (.bool (!(a7 os k))) true:=λk=>by
  have:=oP os ho k;unfold a7;rw[Jf];exact this
 have lc:=ok.lc;have lo:=ok.lo;have lw:=ok.lw;have lz:=ok.lz;have wr:=ok.wr
 have ic:∀k,bl cs k=(cC x cs k).length:=λk=>by simp[cC,bl]
 have io:∀k,bl os k=(bM x os k).length:=λk=>by simp[bM,bl]
 have sC:∀k,cC x cs (k+1)=if a7 cs k then cC x cs k++[nth x.ab k] else cC x cs k:=λk=>by
  unfold cC;rw[mF];cases a7 cs k<;>simp
 have sO:∀k,bM x os (k+1)=if a7 os k then bM x os k++[nth x.os k] else bM x os k:=λk=>by
  unfold bM;rw[mF];cases a7 os k<;>simp
 have sR:∀i k,kB x cs i (k+1)=if a7 cs k then kB x cs i k++[nth (nth x.wt i) k] else kB x cs i k:=λi k=>by
  unfold kB;rw[mF];cases a7 cs k<;>simp
 have sW:∀k,cm x os cs (k+1)=if a7 os k then cm x os cs k++[kB x cs k x.ab.length] else cm x os cs k:=λk=>by
  unfold cm;rw[mF];cases a7 os k<;>simp
 have sZ:∀k,k<x.zs.length->cE x os cs (k+1)=cE x os cs k++cL os cs x.os.length x.ab.length (nth x.zs k):=λk hk=>by
  unfold cE;rw[sV hk,sX]
  have:x.zs[k]=nth x.zs k:=by simp[nth,bS,hk]
  rw[this];simp
 have lwL:∀k,(cm x os cs k).length=(bM x os k).length:=λk=>by simp[cm,bM]
 have lkc:∀k,k<x.ab.length->eF (kz cs x.ab.length) k=if a7 cs k then some (bl cs k:Int) else none:=λk hk=>by
  rw[C1];rw[bT]
  cases a7 cs k with
  |true=>rw[aB ⟨by omega,by omega,rfl⟩];rfl
  |false=>rw[ar (by rintro⟨_,_,h⟩;cases h)];rfl
 have mC:=zcw cs;have mO:=zcw os;have z1:kz cs 0=[]:=rfl;have z2:kz os 0=[]:=rfl;have z3:cC x cs 0=[]:=rfl;have z4:bM x os 0=[]:=rfl;have z5:cm x os cs 0=[]:=rfl;have z6:cE x os cs 0=[]:=rfl
 have z7:∀i,kB x cs i 0=[]:=λi=>rfl
 have bC:∀k,(cC x cs k).length<=k:=λk=>by rw[<-ic];exact Bd cs k
 have bO:∀k,(bM x os k).length<=k:=λk=>by rw[<-io];exact Bd os k
 have bR:∀i k,(kB x cs i k).length<=k:=λi k=>by simp[kB];exact Bd cs k
 have bZ:∀k,(cE x os cs k).length<=k:=λk=>by
  unfold cE
  have key:∀l:List Par,(l.flatMap (cL os cs x.os.length x.ab.length)).length<=l.length:=λl=>by
   induction l with
   |nil=>simp
   |cons p l ih=>
    rw[il,jO,eI]
    have:(cL os cs x.os.length x.ab.length p).length<=1:=by
     unfold cL;split<;>simp
    omega
  exact bN (key _) (by simp;omega)
 have eP:∀p,cL os cs x.os.length x.ab.length p=match eF (kz os x.os.length) p.1,eF (kz cs x.ab.length) p.2 with
  |some a,some b=>[(a,b)]
  |_,_=>[]:=λ_=>rfl
 unfold mH;rw[<-zc1];generalize cC x cs=LC at *;generalize bM x os=LO at *;generalize kB x cs=LR at *;generalize cm x os cs=LW at *;generalize cE x os cs=LZ at *;generalize cL os cs x.os.length x.ab.length=LP at *;generalize kz cs=MC at *;generalize kz os=MO at *;generalize bl cs=IC at *;generalize bl os=IO at *;have q1:=keep (And.intro kc (And.intro ic (And.intro sC (And.intro mC bC))));have q2:=keep (And.intro ko (And.intro io (And.intro sO (And.intro mO bO))));have q3:=keep (And.intro sR (And.intro sW (And.intro bR (And.intro lkc (And.intro wr (And.intro lw lwL))))));have q4:=keep (And.intro sZ (And.intro eP bZ));have q5:=keep (And.intro lc (And.intro lo lz));have k1:=keep z1;have k2:=keep z2;have k3:=keep z3;have k4:=keep z4;have k5:=keep z5;have k6:=keep z6;have k7:=keep z7;clear kc ic sC mC ko io sO mO sR sW lkc wr lw lwL sZ eP lc lo lz z1 z2 z3 z4 z5 z6 z7 ok bC bO bR bZ;unfold Rd.pv;have mt:=zhb;refine rcK Tz.func87 ?_;simp only[Tryz.results87,Tryz.ntmps87]
 repeat' first|(with_reducible first|apply ai|apply af|intro _)|(simp[*,zf2,mt])
 have e0:cA (aS [])=[]:=rfl;refine df 5 (λ(k:Nat)=>k<=x.ab.length) [0,1,2,6,7,8,9,31,32] (λ(k:Nat)=>[(33,.w false false (.int .i64 k))]) [0,2] (λ(k:Nat)=>[(3,mI (MC k)),(4,cA (aS (LC k))),(1,[.msl 4 ((LC k).length*3) 3 0 (LC k).length,.w true true (.sl 0 []),.w true true (.sl 0 []),.w true true (.sl 0 [])])]) (λ(k:Nat)=>x.ab.length-k) (λ(_u:Unit)=>True) [0,1,6,7,8,9] (λ(_u:Unit)=>[]) [0,2] (λ(_u:Unit)=>[(3,mI (MC x.ab.length)),(4,cA (aS (LC x.ab.length))),(1,[.msl 4 ((LC x.ab.length).length*3) 3 0 (LC x.ab.length).length,.w true true (.sl 0 []),.w true true (.sl 0 []),.w true true (.sl 0 [])])]) (0) (aK _) (aO [] (by simp[show MC 0=[] from k1,show LC 0=[] from k3,e0]) (by simp[show MC 0=[] from k1,show LC 0=[] from k3,e0])) (λk hk=>?_) (λ_u hf=>?_)
 .clear e0;by_cases h5:k<x.ab.length
  .obtain⟨kc,ic,sC,mC,bC⟩:=q1;have h8:x.ab.length<=8:=q5.1;have c:=kc k;have e1:=ic k;have e2:=sC k;have e3:=mC k;have b:=bC k;have h':inI .i64 ((k:Int)+1):=aG (by omega) (by omega)
   have hz:k+1<=x.ab.length:=by omega
   have a6:(LC k).length+1<=1000000000:=by omega
   have h9:=FL (LC k);clear kc ic sC mC bC q2 q3 q4 q5 k1 k2 k3 k4 k5 k6 k7 h8
   cases hf:a7 cs k with
   |true=>
    rw[hf] at c e2 e3;simp only[fJ,aX] at c e2 e3;rw[e1] at e3;have e4:=zef (LC k) (nth x.ab k);rw[<-e2] at e4
    have e5:(LC (k+1)).length=(LC k).length+1:=by rw[e2];simp
    clear e1 e2 hf
    repeat' first|(with_reducible first|apply ai|apply aF|apply au|apply af|apply al|refine And.intro ?_ ?_|refine cw (c) ?_|intro _)|(simp[*,h5,h',tS mt,mt,Tw.dt,h9])|(refine ae (c) ?_ ?_;(· (simp[*];done)))
    all_goals first
     |omega
     |assumption
     |(refine nx (k+1) ?_ ?_;(· exact hz);(refine aO [] ?_ ?_<;>first|trivial|(simp[*,e3,e4,e5,fe];done)))
   |false=>
    rw[hf] at c e2 e3;simp only[gm,bI,a9] at c e2 e3;clear e1 hf
    repeat' first|(with_reducible first|apply ai|apply aF|apply au|apply af|apply al|refine And.intro ?_ ?_|refine cw (c) ?_|intro _)|(simp[*,h5,h',tS mt,mt,Tw.dt,h9])|(refine ae (c) ?_ ?_;(· (simp[*];done)))
    all_goals first
     |omega
     |assumption
     |(refine nx (k+1) ?_ ?_;(· exact hz);(refine aO [] ?_ ?_<;>first|trivial|(simp[*,e3,e2];done)))
  .have hh:k=x.ab.length:=by omega
   subst hh;clear q1 q2 q3 q4 q5 k1 k2 k3 k4 k5 k6 k7
   repeat' first|(with_reducible first|apply ai|apply aL|apply af|apply al|intro _)|(simp[*,h5])
   all_goals first
    |omega
    |(refine aZ () ?_ ?_;(· trivial);(refine aD ?_ ?_<;>first|trivial|(simp[*];done)))
 .clear e0 k1 k3 q1
  repeat' first|(with_reducible first|apply ai|apply af|intro _)|(simp[*,mt])
  have e0:cA (aR [])=[]:=rfl;have e00:cN []=[]:=rfl;refine df 7 (λ(k:Nat)=>k<=x.os.length) [0,1,6,7,8,9,58,59] (λ(k:Nat)=>[(60,.w false false (.int .i64 k))]) [0,3,4] (λ(k:Nat)=>[(2,mI (MO k)),(5,cA (aR (LO k))),(6,cN (LW k)),(1,[.msl 4 ((LC x.ab.length).length*3) 3 0 (LC x.ab.length).length,.msl 5 ((LO k).length*4) 4 0 (LO k).length,.msl 6 (LW k).length 1 0 (LW k).length,.w true true (.sl 0 [])])]) (λ(k:Nat)=>x.os.length-k) (λ(_u:Unit)=>True) [0,6,7,8,9] (λ(_u:Unit)=>[]) [0,3,4] (λ(_u:Unit)=>[(2,mI (MO x.os.length)),(5,cA (aR (LO x.os.length))),(6,cN (LW x.os.length)),(1,[.msl 4 ((LC x.ab.length).length*3) 3 0 (LC x.ab.length).length,.msl 5 ((LO x.os.length).length*4) 4 0 (LO x.os.length).length,.msl 6 (LW x.os.length).length 1 0 (LW x.os.length).length,.w true true (.sl 0 [])])]) (0) (aK _) (aO [] (by simp[show MO 0=[] from k2,show LO 0=[] from k4,show LW 0=[] from k5,e0,e00]) (by simp[show MO 0=[] from k2,show LO 0=[] from k4,show LW 0=[] from k5,e0,e00])) (λk hk=>?_) (λ_u hf=>?_)
  .clear e0 e00;by_cases h5:k<x.os.length
   .obtain⟨kc,ic,sC,mC,bC⟩:=q2;obtain⟨sR,sW,bR,lkc,wr,lw,lwL⟩:=q3;have h8:x.os.length<=8:=q5.2.1;have b6:x.ab.length<=8:=q5.1;have c:=kc k;have e1:=ic k;have e2:=sC k;have e3:=mC k;have b:=bC k;have w2:=sW k;have h':inI .i64 ((k:Int)+1):=aG (by omega) (by omega)
    have hz:k+1<=x.os.length:=by omega
    have a6:(LO k).length+1<=1000000000:=by omega
    have hl9w:(LW k).length+1<=1000000000:=by rw[lwL];exact a6
    have h9:=HR (LO k)
    have ao:k<x.wt.length:=by omega
    have hx:=wr k h5
    cases hf:a7 os k with
    |true=>
     rw[hf] at c e2 e3 w2;simp only[fJ,aX] at c e2 e3 w2;rw[e1] at e3;have e4:=zeg (LO k) (nth x.os k);rw[<-e2] at e4
     have e5:(LO (k+1)).length=(LO k).length+1:=by rw[e2];simp
     have e6:=zc0 (LW k) (LR k x.ab.length);rw[<-w2] at e6
     have e7:(LW (k+1)).length=(LW k).length+1:=by rw[w2];simp
     have q6:=keep (And.intro sR (And.intro bR (And.intro lkc hx)));have z7:LR k 0=[]:=k7 k;clear e1 e2 w2 hf kc ic sC mC bC sR sW bR lkc wr lw lwL hx q4 q5 k2 k4 k5 k6 k7 h8
     repeat' first|(with_reducible first|apply ai|apply aF|apply au|apply af|apply al|refine And.intro ?_ ?_|refine cw (c) ?_|intro _)|(simp[*,h5,h',tS mt,mt,Tw.cg,h9,ao])|(refine ae (c) ?_ ?_;(· (simp[*];done)))
     all_goals try first|omega|assumption
     have e00:iA []=[]:=rfl;refine df 10 (λ(j:Nat)=>j<=x.ab.length) [0,1,6,7,8,9,58,59,60,86,87] (λ(j:Nat)=>[(14,.msl 9 (LR k j).length 1 0 (LR k j).length),(88,.w false false (.int .i64 j))]) [0,1,2,3,4,5,6] (λ(j:Nat)=>[(9,iA (LR k j))]) (λ(j:Nat)=>x.ab.length-j) (λ(_u:Unit)=>True) [0,1,6,7,8,9,58,59,60] (λ(_u:Unit)=>[(14,.msl 9 (LR k x.ab.length).length 1 0 (LR k x.ab.length).length)]) [0,1,2,3,4,5,6] (λ(_u:Unit)=>[(9,iA (LR k x.ab.length))]) (0) (aK _) (aO [] (by simp[z7,e00]) (by simp[z7,e00])) (λj hk=>?_) (λ_u hf=>?_)
     .clear z7 e00 e3 e4 e5 e6 e7 c;obtain⟨sR,bR,lkc,hx⟩:=q6;by_cases a4:j<x.ab.length
      .have a5:j<(nth x.wt k).length:=by omega
       have s1:=sR k j;have b1:=bR k j;have l1:=lkc j a4;have aw:inI .i64 ((j:Int)+1):=aG (by omega) (by omega)
       have b4:j+1<=x.ab.length:=by omega
       have bh:(LR k j).length+1<=1000000000:=by omega
       clear sR bR lkc hx h9 a6 hl9w
       cases hg:a7 cs j with
       |true=>
        rw[hg] at s1 l1;simp only[aX] at s1 l1
        have s2:iA (LR k (j+1))=iA (LR k j)++[.w false false (.int .i64 (nth (nth x.wt k) j))]:=by rw[s1,<-RR];rfl
        have s3:(LR k (j+1)).length=(LR k j).length+1:=by rw[s1];simp
        clear s1 hg
        repeat' first|(with_reducible first|apply ai|apply aF|apply au|apply af|apply al|intro _)|(simp[*,a4,aw,tS mt,mt,ao,a5,l1])
        all_goals first
         |omega
         |assumption
         |(refine nx (j+1) ?_ ?_;(· exact b4);(refine aO [] ?_ ?_<;>first|trivial|(simp[*,s2,s3];done)))
       |false=>
        rw[hg] at s1 l1;simp only[bI,a9] at s1 l1;clear hg
        repeat' first|(with_reducible first|apply ai|apply aF|apply au|apply af|apply al|intro _)|(simp[*,a4,aw,tS mt,mt,ao,a5,l1])
        all_goals first
         |omega
         |assumption
         |(refine nx (j+1) ?_ ?_;(· exact b4);(refine aO [] ?_ ?_<;>first|trivial|(simp[*,s1];done)))
      .have hh:j=x.ab.length:=by omega
       subst hh
       have a5:¬x.ab.length<(nth x.wt k).length:=by omega
       clear sR bR lkc hx
       repeat' first|(with_reducible first|apply ai|apply aL|apply af|apply al|intro _)|(simp[*,a4,a5])
       all_goals first
        |omega
        |(refine aZ () ?_ ?_;(· trivial);(refine aO [] ?_ ?_<;>first|trivial|(simp[*];done)))
     .clear z7 e00 q6 c
      repeat' first|(with_reducible first|apply af|intro _)|(simp[*,h',mt])
      all_goals first
       |omega
       |assumption
       |(refine nx (k+1) ?_ ?_;(· exact hz);(refine aO [9] ?_ ?_<;>first|trivial|(simp[*,e3,e4,e5,e6,e7,fe];done)))
    |false=>
     rw[hf] at c e2 e3 w2;simp only[gm,bI,a9] at c e2 e3 w2;clear e1 hf kc ic sC mC bC sR sW bR lkc wr lw lwL hx q4 q5 k2 k4 k5 k6 k7 h8 b6
     repeat' first|(with_reducible first|apply ai|apply aF|apply au|apply aL|apply af|apply al|refine And.intro ?_ ?_|refine cw (c) ?_|intro _)|(simp[*,h5,h',tS mt,mt,Tw.cg,h9])|(refine ae (c) ?_ ?_;(· (simp[*];done)))
     all_goals first
      |omega
      |assumption
      |(refine nx (k+1) ?_ ?_;(· exact hz);(refine aO [] ?_ ?_<;>first|trivial|(simp[*,e3,e2,w2];done)))
   .have hh:k=x.os.length:=by omega
    subst hh;clear q2 q3 q4 q5 k2 k4 k5 k6 k7
    repeat' first|(with_reducible first|apply ai|apply aL|apply af|apply al|intro _)|(simp[*,h5])
    all_goals first
     |omega
     |(refine aZ () ?_ ?_;(· trivial);(refine aD ?_ ?_<;>first|trivial|(simp[*];done)))
  .clear e0 e00 q2 q3 k2 k4 k5 k7
   repeat' first|(with_reducible first|apply ai|apply af|intro _)|(simp[*,mt])
   have e0:cA (aT [])=[]:=rfl;refine df 8 (λ(k:Nat)=>k<=x.zs.length) [6,7,8,9,116,117] (λ(k:Nat)=>[(118,.w false false (.int .i64 k))]) [0,2,3,4,5,6] (λ(k:Nat)=>[(7,cA (aT (LZ k))),(1,[.msl 4 ((LC x.ab.length).length*3) 3 0 (LC x.ab.length).length,.msl 5 ((LO x.os.length).length*4) 4 0 (LO x.os.length).length,.msl 6 (LW x.os.length).length 1 0 (LW x.os.length).length,.msl 7 ((LZ k).length*2) 2 0 (LZ k).length])]) (λ(k:Nat)=>x.zs.length-k) (λ(_u:Unit)=>True) [6,7] (λ(_u:Unit)=>[]) [0,4,5,6] (λ(_u:Unit)=>[(7,cA (aT (LZ x.zs.length))),(1,[.msl 4 ((LC x.ab.length).length*3) 3 0 (LC x.ab.length).length,.msl 5 ((LO x.os.length).length*4) 4 0 (LO x.os.length).length,.msl 6 (LW x.os.length).length 1 0 (LW x.os.length).length,.msl 7 ((LZ x.zs.length).length*2) 2 0 (LZ x.zs.length).length])]) (0) (aK _) (aO [] (by simp[show LZ 0=[] from k6,e0]) (by simp[show LZ 0=[] from k6,e0])) (λk hk=>?_) (λ_u hf=>?_)
   .clear e0 k6;by_cases h5:k<x.zs.length
    .obtain⟨sZ,eP,bZ⟩:=q4;have b5:x.zs.length<=64:=q5.2.2;have s1:=sZ k h5;rw[eP] at s1;have b:=bZ k;have h':inI .i64 ((k:Int)+1):=aG (by omega) (by omega)
     have hz:k+1<=x.zs.length:=by omega
     have a6:(LZ k).length+1<=1000000000:=by omega
     have h9:=D5 (LZ k);clear sZ eP bZ b5 q5
     cases ha:eF (MO x.os.length) (nth x.zs k).1 with
     |none=>
      rw[ha] at s1;simp only[oo] at s1
      cases hb:eF (MC x.ab.length) (nth x.zs k).2 with
      |none=>
       repeat' first|(with_reducible first|apply ai|apply aF|apply au|apply af|apply al|refine And.intro ?_ ?_|intro _)|(simp[*,h5,h',tS mt,mt,ha,hb,h9,Tw.cu])
       all_goals first
        |omega
        |assumption
        |(refine nx (k+1) ?_ ?_;(· exact hz);(refine aO [] ?_ ?_<;>first|trivial|(simp[*,s1];done)))
      |some b'=>
       repeat' first|(with_reducible first|apply ai|apply aF|apply au|apply af|apply al|refine And.intro ?_ ?_|intro _)|(simp[*,h5,h',tS mt,mt,ha,hb,h9,Tw.cu])
       all_goals first
        |omega
        |assumption
        |(refine nx (k+1) ?_ ?_;(· exact hz);(refine aO [] ?_ ?_<;>first|trivial|(simp[*,s1];done)))
     |some a'=>
      rw[ha] at s1
      cases hb:eF (MC x.ab.length) (nth x.zs k).2 with
      |none=>
       rw[hb] at s1;simp only[oo] at s1
       repeat' first|(with_reducible first|apply ai|apply aF|apply au|apply af|apply al|refine And.intro ?_ ?_|intro _)|(simp[*,h5,h',tS mt,mt,ha,hb,h9,Tw.cu])
       all_goals first
        |omega
        |assumption
        |(refine nx (k+1) ?_ ?_;(· exact hz);(refine aO [] ?_ ?_<;>first|trivial|(simp[*,s1];done)))
      |some b'=>
       rw[hb] at s1;simp only[] at s1;have s2:=zcz (LZ k) (a',b');rw[<-s1] at s2
       have s3:(LZ (k+1)).length=(LZ k).length+1:=by rw[s1];simp
       clear s1
       repeat' first|(with_reducible first|apply ai|apply aF|apply au|apply af|apply al|refine And.intro ?_ ?_|intro _)|(simp[*,h5,h',tS mt,mt,ha,hb,h9,Tw.cu])
       all_goals first
        |omega
        |assumption
        |(refine nx (k+1) ?_ ?_;(· exact hz);(refine aO [] ?_ ?_<;>first|trivial|(simp[*,s2,s3,fe];done)))
    .have hh:k=x.zs.length:=by omega
     subst hh;clear q4 q5
     repeat' first|(with_reducible first|apply ai|apply aL|apply af|apply al|intro _)|(simp[*,h5])
     all_goals first
      |omega
      |(refine aZ () ?_ ?_;(· trivial);(refine aD ?_ ?_<;>first|trivial|(simp[*];done)))
   .clear e0 k6 q4 q5;have h1:=FL (LC x.ab.length);have h2:=HR (LO x.os.length);have h3:=D5 (LZ x.zs.length)
    repeat' first|(with_reducible first|apply ai|apply az|apply af|intro _)|(simp[*,h1,h2,h3])
end Go.Proofs.YthpkmilhiganjaaGreat
namespace Go.Proofs.YthpkmilhiganjaaGreat
open Go Go.Fi
noncomputable instance zik:av:=LD
theorem Bm{α:Type}[Inhabited α]{l:List α}{k:Nat}(h:k<l.length):nth l k∈l:=by
 have:nth l k=l[k]:=by simp[nth,bS,h]
 rw[this];exact Dh h
noncomputable def bL(r:Tw.RND)(h:ceR r=0)(os cs:List Int):Tw.RND where
 ab:=cC (aj r) cs (aj r).ab.length
 os:=bM (aj r) os (aj r).os.length
 wt:=cm (aj r) os cs (aj r).os.length
 zs:=cE (aj r) os cs (aj r).zs.length
 dB:=by
  have ok:=oc r h;have f:=r.dB
  have bC:(cC (aj r) cs (aj r).ab.length).length<=(aj r).ab.length:=by simpa[cC] using Bd cs (aj r).ab.length
  have bO:(bM (aj r) os (aj r).os.length).length<=(aj r).os.length:=by simpa[bM] using Bd os (aj r).os.length
  have bW:(cm (aj r) os cs (aj r).os.length).length<=(aj r).os.length:=by simpa[cm] using Bd os (aj r).os.length
  have bZ:(cE (aj r) os cs (aj r).zs.length).length<=(aj r).zs.length:=by
   unfold cE
   have key:∀l:List Par,(l.flatMap (cL os cs (aj r).os.length (aj r).ab.length)).length<=l.length:=λl=>by
    induction l with
    |nil=>simp
    |cons p l ih=>
     rw[il,jO,eI]
     have:(cL os cs (aj r).os.length (aj r).ab.length p).length<=1:=by
      unfold cL;split<;>simp
     omega
   exact bN (key _) (by simp)
  have lc:=ok.lc;have lo:=ok.lo;have lz:=ok.lz;refine⟨λc hc=>?_,λo ho=>?_,λw hw=>?_,by omega,by omega,by omega,by omega⟩
  .obtain⟨k,hk,rfl⟩:=dW.1 hc;exact f.1 _ (Bm (E3 _ _ _ hk))
  .obtain⟨k,hk,rfl⟩:=dW.1 ho;exact f.2.1 _ (Bm (E3 _ _ _ hk))
  .obtain⟨k,hk,rfl⟩:=dW.1 hw
   have:(kB (aj r) cs k (aj r).ab.length).length<=(aj r).ab.length:=by simpa[kB] using Bd cs (aj r).ab.length
   omega
theorem zc2(r:Tw.RND)(h:ceR r=0)(os cs:List Int):Tw.aM (bL r h os cs)=mH (aj r) os cs:=rfl
def mE:PV:=.agg [.sl 0 [],.sl 0 [],.sl 0 [],.sl 0 []]
theorem zel(r:Tw.RND)(h:ceR r=0)(car:Int)(hc:aU car 0 ((r.ab.length:Int)-1)=true):aC Tz.prog 42 [Tw.aM r,.int .i64 car] (.tup [mH (aj r) [] [car],.int .i64 0]) false:=by
 have c1:=dI r;rw[gr r h] at c1;have ok:=oc r h;have c2:=tX (aj r) (by have:=ok.lc;omega) car;have e:(aj r).ab.length=r.ab.length:=rfl;rw[e,hc,show ba true 6=0 from rfl] at c2;have c3:=zek (aj r) ok [] [car] (by simp) (by simp);have c3:aC Tz.prog 87 [(aj r).pv,.sl 0 [],.sl 1 [.int .i64 car]] (mH (aj r) [] [car]) true:=c3;unfold mH at *;clear e hc ok h;generalize hy:aS (cC (aj r) [car] (aj r).ab.length)=q1 at *;generalize (cC (aj r) [car] (aj r).ab.length).length=n1 at *;generalize hy:aR (bM (aj r) [] (aj r).os.length)=q2 at *;generalize (bM (aj r) [] (aj r).os.length).length=n2 at *;generalize hy:a8 (cm (aj r) [] [car] (aj r).os.length)=q3 at *;generalize (cm (aj r) [] [car] (aj r).os.length).length=n3 at *;generalize hy:aT (cE (aj r) [] [car] (aj r).zs.length)=q4 at *;generalize (cE (aj r) [] [car] (aj r).zs.length).length=n4 at *;generalize aj r=x at *;clear hy;unfold Rd.pv at *;unfold Tw.aM at *;generalize r.cz=p1 at *;generalize r.osP=p2 at *;generalize r.cT=p3 at *;generalize r.zsP=p4 at *;refine rcK Tz.func42 ?_;simp only[Tryz.results42,Tryz.ntmps42]
 repeat' first|(with_reducible first|apply ai|apply au|apply az|apply af|apply al|refine And.intro ?_ ?_|refine cw (c1) ?_|refine cw (c2) ?_|refine cw (c3) ?_|intro _)|(simp[*])|(refine ae (c1) ?_ ?_;(· (simp[*];done)))|(refine ae (c2) ?_ ?_;(· (simp[*];done)))|(refine ae (c3) ?_ ?_;(· (simp[*];done)))
theorem zem(r:Tw.RND)(h:ceR r=0)(car:Int)(hc:aU car 0 ((r.ab.length:Int)-1)=false):aC Tz.prog 42 [Tw.aM r,.int .i64 car] (.tup [mE,.int .i64 6]) false:=by
 have c1:=dI r;rw[gr r h] at c1;have ok:=oc r h;have c2:=tX (aj r) (by have:=ok.lc;omega) car;have e:(aj r).ab.length=r.ab.length:=rfl;rw[e,hc,show ba false 6=6 from rfl] at c2;unfold mE;generalize aj r=x at *;unfold Rd.pv at *;unfold Tw.aM at *;generalize r.cz=p1 at *;generalize r.osP=p2 at *;generalize r.cT=p3 at *;generalize r.zsP=p4 at *;clear ok e hc;refine rcK Tz.func42 ?_;simp only[Tryz.results42,Tryz.ntmps42]
 repeat' first|(with_reducible first|apply ai|apply az|apply af|apply al|refine And.intro ?_ ?_|refine cw (c1) ?_|refine cw (c2) ?_|intro _)|(simp[*])|(refine ae (c1) ?_ ?_;(· (simp[*];done)))|(refine ae (c2) ?_ ?_;(· (simp[*];done)))
theorem zf5(r:Tw.RND)(h:ceR r≠0)(car:Int):aC Tz.prog 42 [Tw.aM r,.int .i64 car] (.tup [mE,.int .i64 (ceR r)]) false:=by
 have c1:=dI r;rw[k8 r h] at c1;unfold mE;generalize ceR r=e at *;unfold Tw.aM at *;generalize r.cz=p1 at *;generalize r.osP=p2 at *;generalize r.cT=p3 at *;generalize r.zsP=p4 at *;refine rcK Tz.func42 ?_;simp only[Tryz.results42,Tryz.ntmps42]
 repeat' first|(with_reducible first|apply ai|apply au|apply az|apply af|apply al|refine And.intro ?_ ?_|refine cw (c1) ?_|intro _)|(simp[*])|(refine ae (c1) ?_ ?_;(· (simp[*];done)))
end Go.Proofs.YthpkmilhiganjaaGreat
