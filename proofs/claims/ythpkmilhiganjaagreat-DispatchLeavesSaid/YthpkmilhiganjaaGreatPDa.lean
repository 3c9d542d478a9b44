/- Lemmas. -/
import Derived.Test.YthpkmilhiganjaaGreatPWg
import Derived.Test.YthpkmilhiganjaaGreatPLg
import Derived.Test.YthpkmilhiganjaaGreatPLf
set_option linter.all false
set_option maxHeartbeats 32000000
set_option maxRecDepth 100000
namespace Go.Proofs.YthpkmilhiganjaaGreat
open Go Go.Fi
variable[av]
def ba(ok:Bool)(e:Int):Int:=if ok then 0 else e
theorem dG(ok:Bool)(e:Int):aC Tz.prog 71 [.bool ok,.int .i64 e] (.int .i64 (ba ok e)) true:=by
 refine rcK Tz.func71 ?_;simp only[Tryz.results71,Tryz.ntmps71]
 repeat' first|(with_reducible first|apply ai|apply au|apply az|apply af|apply al|refine qu ?_ ?_|intro _)|(simp[*])
 all_goals simp_all[ba]
theorem mixed:Tz.prog.follows .mixedOrders=true:=by kernel_rfl
def aU(n lo hi:Int):Bool:=decide (lo<=n)&&decide (n<=hi)
theorem fL(n lo hi:Int):aC Tz.prog 72 [.int .i64 n,.int .i64 lo,.int .i64 hi] (.bool (aU n lo hi)) true:=by
 refine rcK Tz.func72 ?_;simp only[Tryz.results72,Tryz.ntmps72]
 repeat' first|(with_reducible first|apply ai|apply az|apply af|refine wR ?_ ?_|intro _)|(simp[*,aU])
theorem ma(n lo hi:Int):aC Tz.prog 75 [.int .i64 n,.int .i64 lo,.int .i64 hi] (.bool (aU n lo hi)) true:=by
 refine rcK Tz.func75 ?_;simp only[Tryz.results75,Tryz.ntmps75]
 repeat' first|(with_reducible first|apply ai|apply az|apply af|refine wR ?_ ?_|intro _)|(simp[*,aU])
def ints(l:List Int):List PV:=l.map (.int .i64)
@[simp]theorem Oh(l:List Int):(ints l).length=l.length:=by simp[ints]
@[simp]theorem Oi(l:List Int)(k:Nat)(h:k<l.length):dA (ints l) k=.int .i64 (nth l k):=tO _ l k h
def cX:List Int->Int
 |[]=>0
 |e::r=>if e=0 then cX r else e
theorem dg{α:Type}[Inhabited α](l:List α)(k:Nat)(h:k<l.length):l.drop k=nth l k::l.drop (k+1):=by
 rw[SE h];simp[nth,bS,da h]
theorem xc(l:List Int)(h:l.length<1000):aC Tz.prog 70 [.sl l.length (ints l)] (.int .i64 (cX l)) true:=by
 refine rcK Tz.func70 ?_;simp only[Tryz.results70,Tryz.ntmps70]
 repeat' first|(with_reducible first|apply ai|apply af|intro _)|(simp[*])
 refine wV (λk:Nat=>k<=l.length/\cX (l.drop k)=cX l) [5,6] (λk=>[(7,.w false false (.int .i64 k))]) (λ_=>[]) (λk=>l.length-k)
  (λ_:Unit=>cX l=0) [] (λ_=>[]) (λ_=>[]) 0 ⟨aK _,rfl⟩ (by simp) (by simp) (λk hk=>?_) (λ_ hf=>?_)
 .obtain⟨hk,hf⟩:=hk
  repeat' first|(with_reducible first|apply ai|apply aF|apply au|apply az|apply aL|apply af|apply al|refine And.intro ?_ ?_|refine kZ ?_ ?_|refine fz ?_ ?_|intro _)|(simp[*,cX])
  all_goals first
   |exact aG (by omega) (by omega)
   |omega
   |(rw[<-hf,dg l k (by omega)];simp_all[cX];done)
   |(refine nx (k+1) ?_ ?_;(· refine⟨by omega,?_⟩;rw[<-hf,dg l k (by omega)];simp_all[cX]);(refine aD ?_ ?_<;>first|trivial|(simp[*];done)))
   |(refine aZ () ?_ ?_;(· rw[<-hf,uR (by omega)];rfl);(refine aD ?_ ?_<;>first|trivial|(simp[*];done)))
 .repeat' first|(with_reducible first|apply ai|apply az|apply af|intro _)|(simp[*])
theorem jV(a b:Int):aC Tz.prog 70 [.sl 2 [.int .i64 a,.int .i64 b]] (.int .i64 (cX [a,b])) true:=xc [a,b] (di rfl)
theorem GC(a b c:Int):aC Tz.prog 70 [.sl 3 [.int .i64 a,.int .i64 b,.int .i64 c]] (.int .i64 (cX [a,b,c])) true:=xc [a,b,c] (di rfl)
theorem Yo(a b c d e f:Int):aC Tz.prog 70 [.sl 6 [.int .i64 a,.int .i64 b,.int .i64 c,.int .i64 d,.int .i64 e,.int .i64 f]] (.int .i64 (cX [a,b,c,d,e,f])) true:=xc [a,b,c,d,e,f] (di rfl)
def uH(c:Nat):Bool:=decide ((97:Int)<=c)&&decide ((c:Int)<=122) || decide ((65:Int)<=c)&&decide ((c:Int)<=90)
def okB(k c:Nat):Bool:=uH c || !(decide (k=0))&&(decide (c=45) || decide ((48:Int)<=c)&&decide ((c:Int)<=57))
def lI(s:ByteArray):Nat->Bool
 |0=>true
 |k+1=>lI s k&&okB k (uh s k)
theorem Bn(s:ByteArray)(k:Nat)(h:okB k (uh s k)=false):∀n,k<n->lI s n=false
 |0,hn=>by omega
 |n+1,hn=>by
  unfold lI;by_cases e:k=n
  .subst e;simp[h]
  .rw[Bn s k h n (by omega)];rfl
def fF(s:ByteArray):Bool:=lI s s.size&&decide (s.size≠0)&&decide (s.size<=12)
theorem GD{s:ByteArray}(h:s.size=0):fF s=false:=by simp[fF,h]
theorem Oj{s:ByteArray}(h:12<s.size):fF s=false:=by simp[fF];intros;omega
theorem GF{s:ByteArray}(h:lI s s.size=true)(h0:s.size≠0):fF s=decide (s.size<=12):=by simp[fF,h,h0]
theorem GG(s:ByteArray)(hs:s.size<1000000):aC Tz.prog 130 [.str s] (.bool (fF s)) true:=by
 refine rcK Tz.func130 ?_;simp only[Tryz.results130,Tryz.ntmps130]
 repeat' first|(with_reducible first|apply ai|apply af|intro _)|(simp[*])
 refine wV (λk:Nat=>k<=s.size/\lI s k=true) [0,7,8] (λk=>[(9,.w false false (.int .i64 k))]) (λ_=>[]) (λk=>s.size-k)
  (λ_:Unit=>lI s s.size=true) [0] (λ_=>[]) (λ_=>[]) 0 ⟨aK _,rfl⟩ (by simp) (by simp) (λk hk=>?_) (λ_ hf=>?_)
 .obtain⟨hk,hf⟩:=hk
  repeat' first|(with_reducible first|apply ai|apply aF|apply au|apply az|apply aL|apply af|apply al|refine And.intro ?_ ?_|refine wS ?_ ?_|refine wR ?_ ?_|refine fz ?_ ?_|intro _)|(simp[*])
  all_goals first
   |exact aG (by omega) (by omega)
   |omega
   |(refine nx (k+1) ?_ ?_;(· refine⟨by omega,?_⟩;unfold lI;rw[hf];clear hf;simp[okB,uH] at *;omega);(refine aD ?_ ?_<;>first|trivial|(simp[*];done)))
   |(refine aZ () ?_ ?_;(· rw[show s.size=k by omega];exact hf);(refine aD ?_ ?_<;>first|trivial|(simp[*];done)))
   |(unfold fF;rw[Bn s k (by clear hf;simp[okB,uH] at *;omega) s.size (by omega)];rfl)
 .repeat' first|(with_reducible first|apply ai|apply az|apply af|refine wS ?_ ?_|intro _)|(simp[*])
  .rename_i h0
   have hh:s≠{ data:=#[] }:=by simpa using h0
   rw[GF hf (λh=>hh ((Gf s).2 h))];simp;omega
  .rename_i h0;rw[GD ((Gf s).1 (by have h1:s = { data:=#[] }:=by simpa using h0
                                   exact h1))]
abbrev Car:=ByteArray×Int×Bool
abbrev Ord:=ByteArray×Int×Bool×Int
abbrev Par:=Int×Int
def aS(l:List Car):List PV:=l.flatMap Tw.dt
@[simp]theorem Yp(l:List Car):(aS l).length=l.length*3:=tN Tw.dt 3 (λ_=>rfl) l
@[simp]theorem Yq(l:List Car)(k:Nat)(h:k<l.length):((aS l).drop (k*3)).take 3=Tw.dt (nth l k):=wU Tw.dt 3 (λ_=>rfl) l k h
@[simp]theorem Yr(l:List Car)(k:Nat)(h:k<l.length):dA (aS l) (k*3)=.str (nth l k).1:=lZ Tw.dt 3 (λ_=>rfl) l k 0 h (by omega)
@[simp]theorem Ys(l:List Car)(k:Nat)(h:k<l.length):dA (aS l) (k*3+1)=.int .i64 (nth l k).2.1:=lZ Tw.dt 3 (λ_=>rfl) l k 1 h (by omega)
@[simp]theorem Yt(l:List Car)(k:Nat)(h:k<l.length):dA (aS l) (k*3+2)=.bool (nth l k).2.2:=lZ Tw.dt 3 (λ_=>rfl) l k 2 h (by omega)
def aR(l:List Ord):List PV:=l.flatMap Tw.cg
@[simp]theorem Yu(l:List Ord):(aR l).length=l.length*4:=tN Tw.cg 4 (λ_=>rfl) l
@[simp]theorem Yv(l:List Ord)(k:Nat)(h:k<l.length):((aR l).drop (k*4)).take 4=Tw.cg (nth l k):=wU Tw.cg 4 (λ_=>rfl) l k h
@[simp]theorem Yw(l:List Ord)(k:Nat)(h:k<l.length):dA (aR l) (k*4)=.str (nth l k).1:=lZ Tw.cg 4 (λ_=>rfl) l k 0 h (by omega)
@[simp]theorem Yx(l:List Ord)(k:Nat)(h:k<l.length):dA (aR l) (k*4+1)=.int .i64 (nth l k).2.1:=lZ Tw.cg 4 (λ_=>rfl) l k 1 h (by omega)
@[simp]theorem Yy(l:List Ord)(k:Nat)(h:k<l.length):dA (aR l) (k*4+2)=.bool (nth l k).2.2.1:=lZ Tw.cg 4 (λ_=>rfl) l k 2 h (by omega)
@[simp]theorem Yz(l:List Ord)(k:Nat)(h:k<l.length):dA (aR l) (k*4+3)=.int .i64 (nth l k).2.2.2:=lZ Tw.cg 4 (λ_=>rfl) l k 3 h (by omega)
def aT(l:List Par):List PV:=l.flatMap Tw.cu
@[simp]theorem YA(l:List Par):(aT l).length=l.length*2:=tN Tw.cu 2 (λ_=>rfl) l
@[simp]theorem YB(l:List Par)(k:Nat)(h:k<l.length):((aT l).drop (k*2)).take 2=Tw.cu (nth l k):=wU Tw.cu 2 (λ_=>rfl) l k h
@[simp]theorem YC(l:List Par)(k:Nat)(h:k<l.length):dA (aT l) (k*2)=.int .i64 (nth l k).1:=lZ Tw.cu 2 (λ_=>rfl) l k 0 h (by omega)
@[simp]theorem YD(l:List Par)(k:Nat)(h:k<l.length):dA (aT l) (k*2+1)=.int .i64 (nth l k).2:=lZ Tw.cu 2 (λ_=>rfl) l k 1 h (by omega)
theorem Bo(n:Int):aC Tz.prog 102 [.int .i64 n] (.bool (aU n 1 8)) true:=by
 refine rcK Tz.func102 ?_;simp only[Tryz.results102,Tryz.ntmps102]
 repeat' first|(with_reducible first|apply ai|apply az|apply af|refine And.intro ?_ ?_|refine cw (fL _ _ _) ?_|intro _)|(simp[*])|(refine ae (fL _ _ _) ?_ ?_;(· (simp[*];done)))
theorem Bp(x:Car):aC Tz.prog 100 [.agg (Tw.dt x)] (.str x.1) true:=by
 unfold Tw.dt;refine rcK Tz.func100 ?_;simp only[Tryz.results100,Tryz.ntmps100]
 repeat' first|(with_reducible first|apply ai|apply az|apply af|intro _)|(simp[*])
theorem Bq(x:Ord):aC Tz.prog 104 [.agg (Tw.cg x)] (.str x.1) true:=by
 unfold Tw.cg;refine rcK Tz.func104 ?_;simp only[Tryz.results104,Tryz.ntmps104]
 repeat' first|(with_reducible first|apply ai|apply az|apply af|intro _)|(simp[*])
def fG(x:Car):Int:=ba (aU x.2.1 1 8) 2
theorem Ok(i:Int)(x:Car):aC Tz.prog 101 [.int .i64 i,.agg (Tw.dt x)] (.int .i64 (fG x)) true:=by
 unfold Tw.dt fG;refine rcK Tz.func101 ?_;simp only[Tryz.results101,Tryz.ntmps101]
 repeat' first|(with_reducible first|apply ai|apply az|apply af|refine And.intro ?_ ?_|refine cw (Bo _) ?_|refine cw (dG _ _) ?_|intro _)|(simp[*])|(refine ae (Bo _) ?_ ?_;(· (simp[*];done)))|(refine ae (dG _ _) ?_ ?_;(· (simp[*];done)))
def eH(x:Ord):Int:=ba (aU x.2.1 1 8&&aU x.2.2.2 0 6) 2
theorem Ol(i:Int)(x:Ord):aC Tz.prog 105 [.int .i64 i,.agg (Tw.cg x)] (.int .i64 (eH x)) true:=by
 unfold Tw.cg eH;have c1:=Bo x.2.1;generalize aU x.2.1 1 8=b at c1 ⊢
 cases b with
 |true=>
  refine rcK Tz.func105 ?_;simp only[Tryz.results105,Tryz.ntmps105]
  repeat' first|(with_reducible first|apply ai|apply az|apply af|refine And.intro ?_ ?_|refine cw (c1) ?_|refine cw (fL _ _ _) ?_|refine cw (dG _ _) ?_|intro _)|(simp[*])|(refine ae (c1) ?_ ?_;(· (simp[*];done)))|(refine ae (fL _ _ _) ?_ ?_;(· (simp[*];done)))|(refine ae (dG _ _) ?_ ?_;(· (simp[*];done)))
 |false=>
  refine rcK Tz.func105 ?_;simp only[Tryz.results105,Tryz.ntmps105]
  repeat' first|(with_reducible first|apply ai|apply az|apply af|refine And.intro ?_ ?_|refine cw (c1) ?_|refine cw (dG _ _) ?_|intro _)|(simp[*])|(refine ae (c1) ?_ ?_;(· (simp[*];done)))|(refine ae (fL _ _ _) ?_ ?_;(· (simp[*];done)))|(refine ae (dG _ _) ?_ ?_;(· (simp[*];done)))
theorem Om(x:Int):aC Tz.prog 106 [.int .i64 x] (.bool (!aU x 0 100000)) true:=by
 refine rcK Tz.func106 ?_;simp only[Tryz.results106,Tryz.ntmps106]
 repeat' first|(with_reducible first|apply ai|apply az|apply af|refine And.intro ?_ ?_|refine cw (fL _ _ _) ?_|intro _)|(simp[*])|(refine ae (fL _ _ _) ?_ ?_;(· (simp[*];done)))
def aN(p:Prop):Prop:=p
theorem keep{p:Prop}(h:p):aN p:=h
def fH{α:Type}(p:α->Bool):List α->Nat->Int
 |[],_=>-1
 |x::r,i=>if p x=true then (i:Int) else fH p r (i+1)
def idxOf{α:Type}(p:α->Bool)(l:List α):Int:=fH p l 0
theorem GH{α:Type}(p:α->Bool):∀(l:List α)(i:Nat),decide (0<=fH p l i)=l.any p
 |[],i=>rfl
 |x::r,i=>by
  unfold fH
  cases h:p x with
  |true=>simp[h]
  |false=>simp[h];have:=GH p r (i+1);simpa using this
theorem rA{α:Type}(p:α->Bool)(l:List α):decide (0<=idxOf p l)=l.any p:=GH p l 0
theorem On(l:List Int)(hl:l.length<100000)(g:FuncId)(aH:List PV)(p:Int->Bool)(h:∀x,aC Tz.prog g (.int .i64 x::aH) (.bool (p x)) true):aC Tz.prog 124 [.sl l.length (ints l),.fn g aH] (.int .i64 (idxOf p l)) true:=by
 generalize hR:idxOf p l=R;have kR:aN (fH p l 0=R):=keep hR;clear hR;refine rcK Tz.func124 ?_;simp only[Tryz.results124,Tryz.ntmps124]
 repeat' first|(with_reducible first|apply ai|apply af|intro _)|(simp[*])
 refine bQ (λ(k:Nat)=>k<=l.length/\fH p (l.drop k) k=R) [0,1,7] (λ(k:Nat)=>[(8,.w false false (.int .i64 k))]) [] (λ(k:Nat)=>[]) (λ(k:Nat)=>l.length-k) (λ(_u:Unit)=>R=-1) [] (λ(_u:Unit)=>[]) [] (λ(_u:Unit)=>[]) (0) ⟨aK _,kR⟩ (by simp) (by simp) (λk hk=>?_) (λ_u hf=>?_)
 .obtain⟨hk,hj⟩:=hk;by_cases h5:k<l.length
  .have c1:=h (nth l k);have h8:=hj;rw[dg l k h5] at h8;unfold fH at h8;have kj:=keep h8;clear hj h8 h
   repeat' first|(with_reducible first|apply ai|apply aF|apply au|apply az|apply af|apply al|refine And.intro ?_ ?_|refine qu ?_ ?_|refine cw (c1) ?_|intro _)|(simp[*,h5])|(refine ae (c1) ?_ ?_;(· (simp[*];done)))
   all_goals first
    |exact aG (by omega) (by omega)
    |omega
    |(rename_i hp;rw[aB hp] at kj;exact kj)
    |(rename_i hp;rw[ar (by rw[hp];decide)] at kj;(refine nx (k+1) ?_ ?_;(· exact⟨by omega,kj⟩);(refine aD ?_ ?_<;>first|trivial|(simp[*];done))))
    |skip
  .have h9:k=l.length:=by omega
   subst h9
   repeat' first|(with_reducible first|apply ai|apply aL|apply af|apply al|intro _)|(simp[*])
   all_goals (refine aZ () ?_ ?_;(· rw[<-hj,fg];rfl);(refine aD ?_ ?_<;>first|trivial|(simp[*];done)))
 .subst hf
  repeat' first|(with_reducible first|apply ai|apply az|apply af|intro _)|(simp[*])
theorem Oo(l:List Int)(hl:l.length<100000)(g:FuncId)(aH:List PV)(p:Int->Bool)(h:∀x,aC Tz.prog g (.int .i64 x::aH) (.bool (p x)) true):aC Tz.prog 93 [.sl l.length (ints l),.fn g aH] (.bool (l.any p)) true:=by
 have c1:=On l hl g aH p h;have h:=rA p l;generalize idxOf p l=i at *;rw[<-h];clear h;refine rcK Tz.func93 ?_;simp only[Tryz.results93,Tryz.ntmps93]
 repeat' first|(with_reducible first|apply ai|apply az|apply af|refine And.intro ?_ ?_|refine cw (c1) ?_|intro _)|(simp[*])|(refine ae (c1) ?_ ?_;(· (simp[*];done)))
theorem Oq(l:List Car)(hl:l.length<100000)(g:FuncId)(aH:List PV)(p:Car->Bool)(h:∀x,aC Tz.prog g (.agg (Tw.dt x)::aH) (.bool (p x)) true):aC Tz.prog 167 [.sl l.length (aS l),.fn g aH] (.int .i64 (idxOf p l)) true:=by
 generalize hR:idxOf p l=R;have kR:aN (fH p l 0=R):=keep hR;clear hR;refine rcK Tz.func167 ?_;simp only[Tryz.results167,Tryz.ntmps167]
 repeat' first|(with_reducible first|apply ai|apply af|intro _)|(simp[*])
 refine bQ (λ(k:Nat)=>k<=l.length/\fH p (l.drop k) k=R) [0,1,7] (λ(k:Nat)=>[(8,.w false false (.int .i64 k))]) [] (λ(k:Nat)=>[]) (λ(k:Nat)=>l.length-k) (λ(_u:Unit)=>R=-1) [] (λ(_u:Unit)=>[]) [] (λ(_u:Unit)=>[]) (0) ⟨aK _,kR⟩ (by simp) (by simp) (λk hk=>?_) (λ_u hf=>?_)
 .obtain⟨hk,hj⟩:=hk;by_cases h5:k<l.length
  .have c1:=h (nth l k);have h8:=hj;rw[dg l k h5] at h8;unfold fH at h8;have kj:=keep h8;clear hj h8 h
   repeat' first|(with_reducible first|apply ai|apply aF|apply au|apply az|apply af|apply al|refine And.intro ?_ ?_|refine qu ?_ ?_|refine cw (c1) ?_|intro _)|(simp[*,h5])|(refine ae (c1) ?_ ?_;(· (simp[*];done)))
   all_goals first
    |exact aG (by omega) (by omega)
    |omega
    |(rename_i hp;rw[aB hp] at kj;exact kj)
    |(rename_i hp;rw[ar (by rw[hp];decide)] at kj;(refine nx (k+1) ?_ ?_;(· exact⟨by omega,kj⟩);(refine aD ?_ ?_<;>first|trivial|(simp[*];done))))
    |skip
  .have h9:k=l.length:=by omega
   subst h9
   repeat' first|(with_reducible first|apply ai|apply aL|apply af|apply al|intro _)|(simp[*])
   all_goals (refine aZ () ?_ ?_;(· rw[<-hj,fg];rfl);(refine aD ?_ ?_<;>first|trivial|(simp[*];done)))
 .subst hf
  repeat' first|(with_reducible first|apply ai|apply az|apply af|intro _)|(simp[*])
theorem Ot(l:List Car)(hl:l.length<100000)(g:FuncId)(aH:List PV)(p:Car->Bool)(h:∀x,aC Tz.prog g (.agg (Tw.dt x)::aH) (.bool (p x)) true):aC Tz.prog 128 [.sl l.length (aS l),.fn g aH] (.bool (l.any p)) true:=by
 have c1:=Oq l hl g aH p h;have h:=rA p l;generalize idxOf p l=i at *;rw[<-h];clear h;refine rcK Tz.func128 ?_;simp only[Tryz.results128,Tryz.ntmps128]
 repeat' first|(with_reducible first|apply ai|apply az|apply af|refine And.intro ?_ ?_|refine cw (c1) ?_|intro _)|(simp[*])|(refine ae (c1) ?_ ?_;(· (simp[*];done)))
theorem Ou(l:List Ord)(hl:l.length<100000)(g:FuncId)(aH:List PV)(p:Ord->Bool)(h:∀x,aC Tz.prog g (.agg (Tw.cg x)::aH) (.bool (p x)) true):aC Tz.prog 168 [.sl l.length (aR l),.fn g aH] (.int .i64 (idxOf p l)) true:=by
 generalize hR:idxOf p l=R;have kR:aN (fH p l 0=R):=keep hR;clear hR;refine rcK Tz.func168 ?_;simp only[Tryz.results168,Tryz.ntmps168]
 repeat' first|(with_reducible first|apply ai|apply af|intro _)|(simp[*])
 refine bQ (λ(k:Nat)=>k<=l.length/\fH p (l.drop k) k=R) [0,1,7] (λ(k:Nat)=>[(8,.w false false (.int .i64 k))]) [] (λ(k:Nat)=>[]) (λ(k:Nat)=>l.length-k) (λ(_u:Unit)=>R=-1) [] (λ(_u:Unit)=>[]) [] (λ(_u:Unit)=>[]) (0) ⟨aK _,kR⟩ (by simp) (by simp) (λk hk=>?_) (λ_u hf=>?_)
 .obtain⟨hk,hj⟩:=hk;by_cases h5:k<l.length
  .have c1:=h (nth l k);have h8:=hj;rw[dg l k h5] at h8;unfold fH at h8;have kj:=keep h8;clear hj h8 h
   repeat' first|(with_reducible first|apply ai|apply aF|apply au|apply az|apply af|apply al|refine And.intro ?_ ?_|refine qu ?_ ?_|refine cw (c1) ?_|intro _)|(simp[*,h5])|(refine ae (c1) ?_ ?_;(· (simp[*];done)))
   all_goals first
    |exact aG (by omega) (by omega)
    |omega
    |(rename_i hp;rw[aB hp] at kj;exact kj)
    |(rename_i hp;rw[ar (by rw[hp];decide)] at kj;(refine nx (k+1) ?_ ?_;(· exact⟨by omega,kj⟩);(refine aD ?_ ?_<;>first|trivial|(simp[*];done))))
    |skip
  .have h9:k=l.length:=by omega
   subst h9
   repeat' first|(with_reducible first|apply ai|apply aL|apply af|apply al|intro _)|(simp[*])
   all_goals (refine aZ () ?_ ?_;(· rw[<-hj,fg];rfl);(refine aD ?_ ?_<;>first|trivial|(simp[*];done)))
 .subst hf
  repeat' first|(with_reducible first|apply ai|apply az|apply af|intro _)|(simp[*])
theorem Ov(l:List Ord)(hl:l.length<100000)(g:FuncId)(aH:List PV)(p:Ord->Bool)(h:∀x,aC Tz.prog g (.agg (Tw.cg x)::aH) (.bool (p x)) true):aC Tz.prog 131 [.sl l.length (aR l),.fn g aH] (.bool (l.any p)) true:=by
 have c1:=Ou l hl g aH p h;have h:=rA p l;generalize idxOf p l=i at *;rw[<-h];clear h;refine rcK Tz.func131 ?_;simp only[Tryz.results131,Tryz.ntmps131]
 repeat' first|(with_reducible first|apply ai|apply az|apply af|refine And.intro ?_ ?_|refine cw (c1) ?_|intro _)|(simp[*])|(refine ae (c1) ?_ ?_;(· (simp[*];done)))
theorem Ow(x y:Car):aC Tz.prog 129 [.agg (Tw.dt y),.ip [.fn 100 []] 0,.ip (Tw.dt x) 0] (.bool (decide (y.1=x.1))) true:=by
 have c1:=Bp y;have c2:=Bp x;unfold Tw.dt at *;refine rcK Tz.func129 ?_;simp only[Tryz.results129,Tryz.ntmps129]
 repeat' first|(with_reducible first|apply ai|apply az|apply af|refine aQ (id:=1) 8 mixed (by decide +kernel) ?_|refine And.intro ?_ ?_|refine cw (c1) ?_|refine cw (c2) ?_|intro _)|(simp[*])|(refine ae (c1) ?_ ?_;(· (simp[*];done)))|(refine ae (c2) ?_ ?_;(· (simp[*];done)))
theorem Ox(x y:Ord):aC Tz.prog 132 [.agg (Tw.cg y),.ip [.fn 104 []] 0,.ip (Tw.cg x) 0] (.bool (decide (y.1=x.1))) true:=by
 have c1:=Bq y;have c2:=Bq x;unfold Tw.cg at *;refine rcK Tz.func132 ?_;simp only[Tryz.results132,Tryz.ntmps132]
 repeat' first|(with_reducible first|apply ai|apply az|apply af|refine aQ (id:=1) 8 mixed (by decide +kernel) ?_|refine And.intro ?_ ?_|refine cw (c1) ?_|refine cw (c2) ?_|intro _)|(simp[*])|(refine ae (c1) ?_ ?_;(· (simp[*];done)))|(refine ae (c2) ?_ ?_;(· (simp[*];done)))
def g7{α:Type}(nm:α->ByteArray)(mr:α->Int)(l:List α)(k:Nat)(x:α):Int:=cX [ba (fF (nm x)) 4,ba (!(l.take k).any (λy=>decide (nm y=nm x))) 5,mr x]
def fq{α:Type}(nm:α->ByteArray)(mr:α->Int)(l:List α):List α->Nat->Int×Int
 |[],_=>(0,0)
 |x::r,k=>if g7 nm mr l k x=0 then fq nm mr l r (k+1) else (k,g7 nm mr l k x)
def gC{α:Type}(nm:α->ByteArray)(mr:α->Int)(l:List α):Int×Int:=fq nm mr l l 0
@[simp]theorem YE(l:List Car)(k:Nat):(aS l).take (k*3)=aS (l.take k):=by
 induction l generalizing k with
 |nil=>simp[aS]
 |cons x r ih=>
  cases k with
  |zero=>simp[aS]
  |succ k=>
   have e:aS (x::r)=Tw.dt x++aS r:=rfl;rw[e,I9,show aS (x::r.take k)=Tw.dt x++aS (r.take k) from rfl,<-ih,fe,Ja];simp[Tw.dt]
@[simp]theorem YF(l:List Ord)(k:Nat):(aR l).take (k*4)=aR (l.take k):=by
 induction l generalizing k with
 |nil=>simp[aR]
 |cons x r ih=>
  cases k with
  |zero=>simp[aR]
  |succ k=>
   have e:aR (x::r)=Tw.cg x++aR r:=rfl;rw[e,I9,show aR (x::r.take k)=Tw.cg x++aR (r.take k) from rfl,<-ih,fe,Ja];simp[Tw.cg]
theorem Oy(l:List Car)(hl:l.length<100000)(hs:∀x∈l,x.1.size<1000000):aC Tz.prog 99 [.sl l.length (aS l),.fn 100 [],.fn 101 []] (.tup [.int .i64 (gC Prod.fst fG l).1,.int .i64 (gC Prod.fst fG l).2]) true:=by
 generalize hR:gC Prod.fst fG l=R;obtain⟨R1,R2⟩:=R;have kR:aN (fq Prod.fst fG l l 0=(R1,R2)):=keep hR;clear hR;refine rcK Tz.func99 ?_;simp only[Tryz.results99,Tryz.ntmps99]
 repeat' first|(with_reducible first|apply ai|apply af|intro _)|(simp[*])
 refine bQ (λ(k:Nat)=>k<=l.length/\fq Prod.fst fG l (l.drop k) k=(R1,R2)) [0,2,4,12,13] (λ(k:Nat)=>[(14,.w false false (.int .i64 k))]) [0] (λ(k:Nat)=>[]) (λ(k:Nat)=>l.length-k) (λ(_u:Unit)=>R1=0/\R2=0) [] (λ(_u:Unit)=>[]) [0] (λ(_u:Unit)=>[]) (0) ⟨aK _,kR⟩ (by simp) (by simp) (λk hk=>?_) (λ_u hf=>?_)
 .obtain⟨hk,hj⟩:=hk;by_cases h5:k<l.length
  .have c1:=Ot (l.take k) (by rw[ia];omega) 129 [.ip [.fn 100 []] 0,.ip (Tw.dt (nth l k)) 0] (λy=>decide (y.1=(nth l k).1)) (λy=>Ow (nth l k) y);rw[uS hk] at c1;have c2:=GG (nth l k).1 (hs _ (eJ h5));have c3:=Bp (nth l k);have c4:=Ok k (nth l k);have c5:=GC (ba (fF (nth l k).1) 4) (ba (!(l.take k).any (λy=>decide (y.1=(nth l k).1))) 5) (fG (nth l k));have h8:=hj;rw[dg l k h5] at h8;unfold fq g7 at h8;generalize cX [ba (fF (nth l k).1) 4,ba (!(l.take k).any (λy=>decide (y.1=(nth l k).1))) 5,fG (nth l k)]=e at h8 c5;have kj:=keep h8;clear hj h8 hs;unfold Tw.dt at c1 c3 c4
   repeat' first|(with_reducible first|apply ai|apply aF|apply au|apply az|apply af|refine aQ (id:=5) 15 mixed (by decide +kernel) ?_|apply al|refine And.intro ?_ ?_ |  refine kZ ?_ ?_|refine cw (c1) ?_|refine cw (c2) ?_|refine cw (c3) ?_|refine cw (c4) ?_|refine cw (dG _ _) ?_|refine cw (c5) ?_|intro _)|(simp[*,h5,Tw.dt])|(refine ae (c1) ?_ ?_;(· (simp[*];done)))|(refine ae (c2) ?_ ?_;(· (simp[*];done)))|(refine ae (c3) ?_ ?_;(· (simp[*];done)))|(refine ae (c4) ?_ ?_;(· (simp[*];done)))|(refine ae (dG _ _) ?_ ?_;(· (simp[*];done)))|(refine ae (c5) ?_ ?_;(· (simp[*];done)))
   all_goals first
    |omega
    |exact aG (by omega) (by omega)
    |(rename_i hp;rw[ar hp] at kj;exact (br kj).1)
    |(rename_i hp;rw[ar hp] at kj;exact (br kj).2)
    |(rename_i hp;rw[aB hp] at kj;(refine nx (k+1) ?_ ?_;(· exact⟨by omega,kj⟩);(refine aD ?_ ?_<;>first|trivial|(simp[*];done))))
  .have h9:k=l.length:=by omega
   subst h9;rw[fg] at hj;unfold fq at hj
   repeat' first|(with_reducible first|apply ai|apply aL|apply af|apply al|intro _)|(simp[*])
   all_goals (refine aZ () ?_ ?_;(· exact⟨(br hj).1.symm,(br hj).2.symm⟩);(refine aD ?_ ?_<;>first|trivial|(simp[*];done)))
 .obtain⟨rfl,rfl⟩:=hf
  repeat' first|(with_reducible first|apply ai|apply az|apply af|intro _)|(simp[*])
theorem Oz(l:List Ord)(hl:l.length<100000)(hs:∀x∈l,x.1.size<1000000):aC Tz.prog 103 [.sl l.length (aR l),.fn 104 [],.fn 105 []] (.tup [.int .i64 (gC Prod.fst eH l).1,.int .i64 (gC Prod.fst eH l).2]) true:=by
 generalize hR:gC Prod.fst eH l=R;obtain⟨R1,R2⟩:=R;have kR:aN (fq Prod.fst eH l l 0=(R1,R2)):=keep hR;clear hR;refine rcK Tz.func103 ?_;simp only[Tryz.results103,Tryz.ntmps103]
 repeat' first|(with_reducible first|apply ai|apply af|intro _)|(simp[*])
 refine bQ (λ(k:Nat)=>k<=l.length/\fq Prod.fst eH l (l.drop k) k=(R1,R2)) [0,2,4,12,13] (λ(k:Nat)=>[(14,.w false false (.int .i64 k))]) [0] (λ(k:Nat)=>[]) (λ(k:Nat)=>l.length-k) (λ(_u:Unit)=>R1=0/\R2=0) [] (λ(_u:Unit)=>[]) [0] (λ(_u:Unit)=>[]) (0) ⟨aK _,kR⟩ (by simp) (by simp) (λk hk=>?_) (λ_u hf=>?_)
 .obtain⟨hk,hj⟩:=hk;by_cases h5:k<l.length
  .have c1:=Ov (l.take k) (by rw[ia];omega) 132 [.ip [.fn 104 []] 0,.ip (Tw.cg (nth l k)) 0] (λy=>decide (y.1=(nth l k).1)) (λy=>Ox (nth l k) y);rw[uS hk] at c1;have c2:=GG (nth l k).1 (hs _ (eJ h5));have c3:=Bq (nth l k);have c4:=Ol k (nth l k);have c5:=GC (ba (fF (nth l k).1) 4) (ba (!(l.take k).any (λy=>decide (y.1=(nth l k).1))) 5) (eH (nth l k));have h8:=hj;rw[dg l k h5] at h8;unfold fq g7 at h8;generalize cX [ba (fF (nth l k).1) 4,ba (!(l.take k).any (λy=>decide (y.1=(nth l k).1))) 5,eH (nth l k)]=e at h8 c5;have kj:=keep h8;clear hj h8 hs;unfold Tw.cg at c1 c3 c4
   repeat' first|(with_reducible first|apply ai|apply aF|apply au|apply az|apply af|refine aQ (id:=5) 15 mixed (by decide +kernel) ?_|apply al|refine And.intro ?_ ?_ |  refine kZ ?_ ?_|refine cw (c1) ?_|refine cw (c2) ?_|refine cw (c3) ?_|refine cw (c4) ?_|refine cw (dG _ _) ?_|refine cw (c5) ?_|intro _)|(simp[*,h5,Tw.cg])|(refine ae (c1) ?_ ?_;(· (simp[*];done)))|(refine ae (c2) ?_ ?_;(· (simp[*];done)))|(refine ae (c3) ?_ ?_;(· (simp[*];done)))|(refine ae (c4) ?_ ?_;(· (simp[*];done)))|(refine ae (dG _ _) ?_ ?_;(· (simp[*];done)))|(refine ae (c5) ?_ ?_;(· (simp[*];done)))
   all_goals first
    |omega
    |exact aG (by omega) (by omega)
    |(rename_i hp;rw[ar hp] at kj;exact (br kj).1)
    |(rename_i hp;rw[ar hp] at kj;exact (br kj).2)
    |(rename_i hp;rw[aB hp] at kj;(refine nx (k+1) ?_ ?_;(· exact⟨by omega,kj⟩);(refine aD ?_ ?_<;>first|trivial|(simp[*];done))))
  .have h9:k=l.length:=by omega
   subst h9;rw[fg] at hj;unfold fq at hj
   repeat' first|(with_reducible first|apply ai|apply aL|apply af|apply al|intro _)|(simp[*])
   all_goals (refine aZ () ?_ ?_;(· exact⟨(br hj).1.symm,(br hj).2.symm⟩);(refine aD ?_ ?_<;>first|trivial|(simp[*];done)))
 .obtain⟨rfl,rfl⟩:=hf
  repeat' first|(with_reducible first|apply ai|apply az|apply af|intro _)|(simp[*])
theorem OA(l:List Par)(hl:l.length<100000)(v:Par):aC Tz.prog 133 [.sl l.length (aT l),.agg (Tw.cu v)] (.int .i64 (idxOf (λy=>decide (v.1=y.1)&&decide (v.2=y.2)) l)) true:=by
 generalize hR:idxOf (λy=>decide (v.1=y.1)&&decide (v.2=y.2)) l=R;have kR:aN (fH (λy=>decide (v.1=y.1)&&decide (v.2=y.2)) l 0=R):=keep hR;clear hR;obtain⟨v1,v2⟩:=v;simp only[Tw.cu];refine rcK Tz.func133 ?_;simp only[Tryz.results133,Tryz.ntmps133]
 repeat' first|(with_reducible first|apply ai|apply af|intro _)|(simp[*])
 refine bQ (λ(k:Nat)=>k<=l.length/\fH (λy=>decide (v1=y.1)&&decide (v2=y.2)) (l.drop k) k=R) [0,3,7] (λ(k:Nat)=>[(8,.w false false (.int .i64 k))]) [0] (λ(k:Nat)=>[]) (λ(k:Nat)=>l.length-k) (λ(_u:Unit)=>R=-1) [] (λ(_u:Unit)=>[]) [0] (λ(_u:Unit)=>[]) (0) ⟨aK _,kR⟩ (by simp) (by simp) (λk hk=>?_) (λ_u hf=>?_)
 .obtain⟨hk,hj⟩:=hk;by_cases h5:k<l.length
  .have h8:=hj;rw[dg l k h5] at h8;unfold fH at h8;have kj:=keep h8;clear hj h8
   repeat' first|(with_reducible first|apply ai|apply aF|apply au|apply az|apply af|refine aQ (id:=4) 6 mixed (by decide +kernel) ?_|apply al|refine And.intro ?_ ?_|refine qu ?_ ?_|intro _)|(simp[*,h5,Tw.cu])
   all_goals first
    |omega
    |exact aG (by omega) (by omega)
    |(rename_i hp;rw[aB (by simpa using hp)] at kj;exact kj)
    |(rename_i hp;rw[ar (by simpa using hp)] at kj;(refine nx (k+1) ?_ ?_;(· exact⟨by omega,kj⟩);(refine aD ?_ ?_<;>first|trivial|(simp[*];done))))
  .have h9:k=l.length:=by omega
   subst h9
   repeat' first|(with_reducible first|apply ai|apply aL|apply af|apply al|intro _)|(simp[*])
   all_goals (refine aZ () ?_ ?_;(· rw[<-hj,fg];rfl);(refine aD ?_ ?_<;>first|trivial|(simp[*];done)))
 .subst hf
  repeat' first|(with_reducible first|apply ai|apply az|apply af|intro _)|(simp[*])
theorem OB(l:List Par)(hl:l.length<100000)(v:Par):aC Tz.prog 107 [.sl l.length (aT l),.agg (Tw.cu v)] (.bool (l.any λy=>decide (v.1=y.1)&&decide (v.2=y.2))) true:=by
 have c1:=OA l hl v;have h:=rA (λy=>decide (v.1=y.1)&&decide (v.2=y.2)) l;generalize idxOf (λy:Par=>decide (v.1=y.1)&&decide (v.2=y.2)) l=i at *;rw[<-h];clear h;obtain⟨v1,v2⟩:=v;simp only[Tw.cu] at *;refine rcK Tz.func107 ?_;simp only[Tryz.results107,Tryz.ntmps107]
 repeat' first|(with_reducible first|apply ai|apply az|apply af|refine And.intro ?_ ?_|refine cw (c1) ?_|intro _)|(simp[*])|(refine ae (c1) ?_ ?_;(· (simp[*];done)))
def dk{α:Type}(E:Nat->α->Int):List α->Nat->Int×Int
 |[],_=>(0,0)
 |x::r,k=>if E k x=0 then dk E r (k+1) else (k,E k x)
def a8(w:List (List Int)):List PV:=w.map Tw.Cy
@[simp]theorem YG(w:List (List Int)):(a8 w).length=w.length:=by simp[a8]
@[simp]theorem YH(w:List (List Int))(k:Nat)(h:k<w.length):dA (a8 w) k=.sl (nth w k).length (ints (nth w k)):=tO Tw.Cy w k h
@[simp]theorem YI(l:List Par)(k:Nat):(aT l).take (k*2)=aT (l.take k):=by
 induction l generalizing k with
 |nil=>simp[aT]
 |cons x r ih=>
  cases k with
  |zero=>simp[aT]
  |succ k=>
   have e:aT (x::r)=Tw.cu x++aT r:=rfl;rw[e,I9,show aT (x::r.take k)=Tw.cu x++aT (r.take k) from rfl,<-ih,fe,Ja];simp[Tw.cu]
def gj(nc:Nat)(row:List Int):Int:=cX [ba (decide ((row.length:Int)=nc)) 10,ba (!(row.any λx=>!aU x 0 100000)) 2]
def jJ(no nc:Nat)(zs:List Par)(k:Nat)(p:Par):Int:=cX [ba (aU p.1 0 ((no:Int)-1)&&aU p.2 0 ((nc:Int)-1)) 6,ba (!((zs.take k).any λy=>decide (p.1=y.1)&&decide (p.2=y.2))) 26]
def fU{α:Type}(E:Nat->α->Int)(l:List α)(k:Nat)(T:Int×Int):Int×Int:=if (dk E l k).2≠0 then dk E l k else T
theorem GJ{α:Type}(E:Nat->α->Int)(x:α)(l:List α)(k:Nat)(T:Int×Int):fU E (x::l) k T=if E k x=0 then fU E l (k+1) T else ((k:Int),E k x):=by
 unfold fU;rw[dk];by_cases h:E k x=0
 .simp only[h,aX]
 .simp[h]
theorem GK{α:Type}(E:Nat->α->Int)(k:Nat)(T:Int×Int):fU E [] k T=T:=by simp[fU,dk]
def g8(no nc:Nat)(zs:List Par):Int×Int:=if (64:Int)<zs.length then (0,8) else dk (jJ no nc zs) zs 0
def g9(ab:List Car)(os:List Ord)(wt:List (List Int))(zs:List Par):Int×Int:=
 if (8:Int)<ab.length then (0,8) else if (gC Prod.fst fG ab).2≠0 then gC Prod.fst fG ab else if (8:Int)<os.length then (0,8) else if (gC Prod.fst eH os).2≠0 then gC Prod.fst eH os else
 if (wt.length:Int)≠os.length then (0,10) else fU (λ_=>gj ab.length) wt 0 (g8 os.length ab.length zs)
theorem OC(ab:List Car)(os:List Ord)(wt:List (List Int))(zs:List Par)(h1:ab.length<100000)(h2:os.length<100000)(h3:wt.length<100000)(h4:zs.length<100000)(hc:∀x∈ab,x.1.size<1000000)(ho:∀x∈os,x.1.size<1000000)(hw:∀x∈wt,x.length<100000):aC Tz.prog 55 [.agg [.sl ab.length (aS ab),.sl os.length (aR os),.sl wt.length (a8 wt),.sl zs.length (aT zs)]] (.tup [.int .i64 (g9 ab os wt zs).1,.int .i64 (g9 ab os wt zs).2]) true:=by
 have c54:=Oy ab h1 hc;have c58:=Oz os h2 ho;generalize hR:g9 ab os wt zs=R;obtain⟨R1,R2⟩:=R;unfold g9 at hR;generalize gC Prod.fst fG ab=A at *;generalize gC Prod.fst eH os=O at *;obtain⟨A1,A2⟩:=A;obtain⟨O1,O2⟩:=O;have kR:=keep hR;have kw:=keep hw;clear hR hw hc ho;simp only[] at c54 c58;refine rcK Tz.func55 ?_;simp only[Tryz.results55,Tryz.ntmps55]
 repeat' first|(with_reducible first|apply ai|apply au|apply az|apply af|apply al|refine And.intro ?_ ?_ |  refine kZ ?_ ?_|refine fz ?_ ?_|refine cw (c54) ?_|refine cw (c58) ?_|intro _)|(simp[*])|(refine ae (c54) ?_ ?_;(· (simp[*];done)))|(refine ae (c58) ?_ ?_;(· (simp[*];done)))
 rotate_right
 .rename_i b1 b2 b3 b4 b5
  have kT:aN (fU (λ_=>gj ab.length) wt 0 (g8 os.length ab.length zs)=(R1,R2)):=by
   rw[ar b1,ar (by simpa using b2),ar b3,ar (by simpa using b4),ar (by simpa using b5)] at kR;exact kR
  have kl:=keep b5;clear kR c54 c58 b1 b2 b3 b4 b5;refine bQ (λ(k:Nat)=>k<=wt.length/\fU (λ_=>gj ab.length) (wt.drop k) k (g8 os.length ab.length zs)=(R1,R2)) [1,50,51] (λ(k:Nat)=>[(52,.w false false (.int .i64 k))]) [0] (λ(k:Nat)=>[]) (λ(k:Nat)=>wt.length-k) (λ(_u:Unit)=>g8 os.length ab.length zs=(R1,R2)) [1] (λ(_u:Unit)=>[]) [0] (λ(_u:Unit)=>[]) (0) ⟨aK _,kT⟩ (by simp) (by simp) (λk hk=>?_) (λ_u hf=>?_)
  .obtain⟨hk,hj⟩:=hk
   have hlen:wt.length=os.length:=by have:=kl;unfold aN at this;omega
   by_cases h5:k<wt.length
   .have h':k<os.length:=by omega
    have c1:=Oo (nth wt k) (kw _ (eJ h5)) 106 [] _ Om;have c2:=jV (ba (decide (((nth wt k).length:Int)=ab.length)) 10) (ba (!((nth wt k).any λx=>!aU x 0 100000)) 2);rw[dg wt k h5,GJ] at hj;unfold gj at hj;generalize cX [ba (decide (((nth wt k).length:Int)=ab.length)) 10,ba (!((nth wt k).any λx=>!aU x 0 100000)) 2]=e at hj c2;have kj:=keep hj;clear hj hlen
    repeat' first|(with_reducible first|apply ai|apply aF|apply au|apply az|apply af|apply al|refine And.intro ?_ ?_ |  refine kZ ?_ ?_|refine cw (c1) ?_|refine cw (c2) ?_|refine cw (dG _ _) ?_|intro _)|(simp[*,h5,h'])|(refine ae (c1) ?_ ?_;(· (simp[*];done)))|(refine ae (c2) ?_ ?_;(· (simp[*];done)))|(refine ae (dG _ _) ?_ ?_;(· (simp[*];done)))
    all_goals first
     |omega
     |exact aG (by omega) (by omega)
     |(rename_i hp;rw[ar hp] at kj;exact (br kj).1)
     |(rename_i hp;rw[ar hp] at kj;exact (br kj).2)
     |(rename_i hp;rw[aB hp] at kj;(refine nx (k+1) ?_ ?_;(· exact⟨by omega,kj⟩);(refine aD ?_ ?_<;>first|trivial|(simp[*];done))))
   .have h':¬k<os.length:=by omega
    have h9:k=wt.length:=by omega
    rw[h9,fg,GK] at hj;have kj:=keep hj;clear hj hlen h9
    repeat' first|(with_reducible first|apply ai|apply aL|apply af|apply al|intro _)|(simp[*,h5,h'])
    all_goals first
     |omega
     |(refine aZ () ?_ ?_;(· exact kj);(refine aD ?_ ?_<;>first|trivial|(simp[*];done)))
  .unfold g8 at hf;have kf:=keep hf;clear hf kT kw kl
   repeat' first|(with_reducible first|apply ai|apply au|apply az|apply af|apply al|refine And.intro ?_ ?_|refine fz ?_ ?_|intro _)|(simp[*])
   rotate_right
   .rename_i b6;rw[ar b6] at kf;have k2:=keep b6;clear b6;refine bQ (λ(k:Nat)=>k<=zs.length/\dk (jJ os.length ab.length zs) (zs.drop k) k=(R1,R2)) [1,81,82] (λ(k:Nat)=>[(83,.w false false (.int .i64 k))]) [0] (λ(k:Nat)=>[]) (λ(k:Nat)=>zs.length-k) (λ(_u:Unit)=>R1=0/\R2=0) [] (λ(_u:Unit)=>[]) [0] (λ(_u:Unit)=>[]) (0) ⟨aK _,kf⟩ (by simp) (by simp) (λk hk=>?_) (λ_u hf=>?_)
    .obtain⟨hk,hj⟩:=hk;by_cases h5:k<zs.length
     .have c1:=OB (zs.take k) (by rw[ia];omega) (nth zs k);rw[uS hk] at c1;have w1:=fL (nth zs k).1 0 ((os.length:Int)-1);have w2:=fL (nth zs k).2 0 ((ab.length:Int)-1);have c2:=jV (ba (aU (nth zs k).1 0 ((os.length:Int)-1)&&aU (nth zs k).2 0 ((ab.length:Int)-1)) 6) (ba (!((zs.take k).any λy=>decide ((nth zs k).1=y.1)&&decide ((nth zs k).2=y.2))) 26);rw[dg zs k h5,dk] at hj;have hE:jJ os.length ab.length zs k (nth zs k)=cX [ba (aU (nth zs k).1 0 ((os.length:Int)-1)&&aU (nth zs k).2 0 ((ab.length:Int)-1)) 6,ba (!((zs.take k).any λy=>decide ((nth zs k).1=y.1)&&decide ((nth zs k).2=y.2))) 26]:=rfl;rw[hE] at hj;clear hE;generalize cX [ba (aU (nth zs k).1 0 ((os.length:Int)-1)&&aU (nth zs k).2 0 ((ab.length:Int)-1)) 6,ba (!((zs.take k).any λy=>decide ((nth zs k).1=y.1)&&decide ((nth zs k).2=y.2))) 26]=e at hj c2;have kj:=keep hj;clear hj;unfold Tw.cu at c1;generalize aU (nth zs k).1 0 ((os.length:Int)-1)=g1 at w1 c2;generalize aU (nth zs k).2 0 ((ab.length:Int)-1)=g2 at w2 c2
      cases g1 with
      |true=>
       simp only[eo] at c2
       repeat' first|(with_reducible first|apply ai|apply aF|apply au|apply az|apply af|refine aQ (id:=27) 13 mixed (by decide +kernel) ?_|apply al|refine And.intro ?_ ?_ |  refine kZ ?_ ?_|refine cw (c1) ?_|refine cw (c2) ?_|refine cw (w1) ?_|refine cw (w2) ?_|refine cw (dG _ _) ?_|intro _)|(simp[*,h5,Tw.cu])|(refine ae (c1) ?_ ?_;(· (simp[*];done)))|(refine ae (c2) ?_ ?_;(· (simp[*];done)))|(refine ae (w1) ?_ ?_;(· (simp[*];done)))|(refine ae (w2) ?_ ?_;(· (simp[*];done)))|(refine ae (dG _ _) ?_ ?_;(· (simp[*];done)))
       all_goals first
        |omega
        |exact aG (by omega) (by omega)
        |(rename_i hp;rw[ar hp] at kj;exact (br kj).1)
        |(rename_i hp;rw[ar hp] at kj;exact (br kj).2)
        |(rename_i hp;rw[aB hp] at kj;(refine nx (k+1) ?_ ?_;(· exact⟨by omega,kj⟩);(refine aD ?_ ?_<;>first|trivial|(simp[*];done))))
      |false=>
       simp only[gG] at c2
       repeat' first|(with_reducible first|apply ai|apply aF|apply au|apply az|apply af|refine aQ (id:=27) 13 mixed (by decide +kernel) ?_|apply al|refine And.intro ?_ ?_ |  refine kZ ?_ ?_|refine cw (c1) ?_|refine cw (c2) ?_|refine cw (w1) ?_|refine cw (dG _ _) ?_|intro _)|(simp[*,h5,Tw.cu])|(refine ae (c1) ?_ ?_;(· (simp[*];done)))|(refine ae (c2) ?_ ?_;(· (simp[*];done)))|(refine ae (w1) ?_ ?_;(· (simp[*];done)))|(refine ae (w2) ?_ ?_;(· (simp[*];done)))|(refine ae (dG _ _) ?_ ?_;(· (simp[*];done)))
       all_goals first
        |omega
        |exact aG (by omega) (by omega)
        |(rename_i hp;rw[ar hp] at kj;exact (br kj).1)
        |(rename_i hp;rw[ar hp] at kj;exact (br kj).2)
        |(rename_i hp;rw[aB hp] at kj;(refine nx (k+1) ?_ ?_;(· exact⟨by omega,kj⟩);(refine aD ?_ ?_<;>first|trivial|(simp[*];done))))
     .have h9:k=zs.length:=by omega
      subst h9;rw[fg] at hj;unfold dk at hj
      repeat' first|(with_reducible first|apply ai|apply aL|apply af|apply al|intro _)|(simp[*])
      all_goals first
       |omega
       |(refine aZ () ?_ ?_;(· exact⟨(br hj).1.symm,(br hj).2.symm⟩);(refine aD ?_ ?_<;>first|trivial|(simp[*];done)))
    .obtain⟨rfl,rfl⟩:=hf
     repeat' first|(with_reducible first|apply ai|apply az|apply af|intro _)|(simp[*])
   all_goals first
    |(rename_i b1;rw[aB b1] at kf;first|exact (br kf).1|exact (br kf).2)
 all_goals first
  |(rename_i b1;rw[aB b1] at kR;first|exact (br kR).1|exact (br kR).2)
  |(rename_i b1 b2;rw[ar b1,aB (by simpa using b2)] at kR;first|exact (br kR).1|exact (br kR).2)
  |(rename_i b1 b2 b3;rw[ar b1,ar (by simpa using b2),aB b3] at kR;first|exact (br kR).1|exact (br kR).2)
  |(rename_i b1 b2 b3 b4;rw[ar b1,ar (by simpa using b2),ar b3,aB (by simpa using b4)] at kR;first|exact (br kR).1|exact (br kR).2)
  |(rename_i b1 b2 b3 b4 b5;rw[ar b1,ar (by simpa using b2),ar b3,ar (by simpa using b4),aB (by simpa using b5)] at kR;first|exact (br kR).1|exact (br kR).2)
end Go.Proofs.YthpkmilhiganjaaGreat
namespace Go.Proofs.YthpkmilhiganjaaGreat
open Go Go.Fi Go.Fc
noncomputable def ciR(r:Tw.RND):Int:=(g9 r.ab r.os r.wt r.zs).1
noncomputable def ceR(r:Tw.RND):Int:=(g9 r.ab r.os r.wt r.zs).2
theorem chk[av](r:Tw.RND):aC Tz.prog 55 [Tw.aM r] (.tup [.int .i64 (ciR r),.int .i64 (ceR r)]) true:=
 OC r.ab r.os r.wt r.zs r.dB.2.2.2.1 r.dB.2.2.2.2.1 r.dB.2.2.2.2.2.1 r.dB.2.2.2.2.2.2 r.dB.1 r.dB.2.1 r.dB.2.2.1
theorem Br{α:Type}{E:Nat->α->Int}{l:List α}{k:Nat}{T:Int×Int}(h:(fU E l k T).2=0):fU E l k T=T:=by
 unfold fU at h ⊢;split
 .rename_i h1;rw[aB h1] at h;exact absurd h h1
 .rfl
theorem lim(r:Tw.RND)(h:ceR r=0):r.os.length<=1000/\r.zs.length<=64/\r.ab.length<=1000:=by
 unfold ceR g9 at h;split at h
 .simp at h
 split at h
 .rename_i h2;exact absurd h h2
 split at h
 .simp at h
 split at h
 .rename_i h2;exact absurd h h2
 split at h
 .simp at h
 rename_i h1 _ h3 _ _;rw[Br h] at h;unfold g8 at h;split at h
 .simp at h
 rename_i h6;omega
theorem CC:@Tw.pC Tz.prog Tz.xfZ Tz.L0 Tz.nX ciR ceR true:=Tz.CC (λr=>@chk Tz.L0 r) lim
@[reducible] noncomputable def LD:av:=Tz.L1 ceR
theorem nS(K:iL):@rX Tz.xfZ LD.toEnvD Tz.prog Tryz.prog K:=@Tw.RX Tz.prog Tz.xfZ Tz.L0 Tz.nX ciR ceR true K CC
theorem rH:@qI Tz.xfZ LD.toEnvD Tz.prog Tryz.prog Tz.nX:=Tz.Ir LD.toEnvD (λ_ _ _ _ h=>h.1) (λw t d=>⟨rfl,rfl,aE _,λ_ _=>rfl⟩)
theorem dI(r:Tw.RND):@aC LD Tz.prog 69 [Tw.aM r] (Tw.lG ceR r) false:=Tz.dI ceR r
end Go.Proofs.YthpkmilhiganjaaGreat
namespace Go.Proofs.YthpkmilhiganjaaGreat
open Go Go.Fi
variable[av]
def bw:Nat->Int
 |0=>1000000
 |k+1=>bw k*10
@[simp]theorem YJ:bw 0=1000000:=rfl
theorem nz(k:Nat)(h:k<=6):0<=bw k/\bw k<=1000000000000:=by
 obtain rfl|rfl|rfl|rfl|rfl|rfl|rfl:k=0\/k=1\/k=2\/k=3\/k=4\/k=5\/k=6:=by omega
 all_goals decide
theorem sw(p:Nat)(hp:p<=6):aC Tz.prog 116 [.int .i64 p] (.int .i64 (bw p)) true:=by
 refine rcK Tz.func116 ?_;simp only[Tryz.results116,Tryz.ntmps116]
 repeat' first|(with_reducible first|apply ai|apply af|intro _)|(simp[*])
 refine bQ (λ(k:Nat)=>k<=p) [4] (λ(k:Nat)=>[(5,.w false false (.int .i64 k)),(3,.w false false (.int .i64 (bw k)))]) [] (λ(k:Nat)=>[]) (λ(k:Nat)=>p-k) (λ(_u:Unit)=>True) [] (λ(_u:Unit)=>[(3,.w false false (.int .i64 (bw p)))]) [] (λ(_u:Unit)=>[]) (0) (aK _) (by simp) (by simp) (λk hk=>?_) (λ_u hf=>?_)
 .by_cases h5:k<p
  .have hb:=nz k (by omega);have e:bw (k+1)=bw k*10:=rfl;generalize bw k=n at hb e
   repeat' first|(with_reducible first|apply ai|apply iV|apply au|apply af|apply al|refine And.intro ?_ ?_|intro _)|(simp[*,h5])
   all_goals first
    |omega
    |exact aG (by omega) (by omega)
    |(refine nx (k+1) ?_ ?_;(· omega);(refine aD ?_ ?_<;>first|trivial|(simp[*,e];done)))
  .have h9:k=p:=by omega
   subst h9
   repeat' first|(with_reducible first|apply ai|apply aL|apply af|apply al|intro _)|(simp[*])
   all_goals first
    |omega
    |(refine aZ () ?_ ?_;(· trivial);(refine aD ?_ ?_<;>first|trivial|(simp[*];done)))
 .repeat' first|(with_reducible first|apply ai|apply az|apply af|intro _)|(simp[*])
theorem GM(p:Nat)(hp:p<=6):aC Tz.prog 76 [.int .i64 p] (.int .i64 (bw p)) true:=by
 refine rcK Tz.func76 ?_;simp only[Tryz.results76,Tryz.ntmps76]
 repeat' first|(with_reducible first|apply ai|apply af|intro _)|(simp[*])
 refine bQ (λ(k:Nat)=>k<=p) [0] (λ(k:Nat)=>[(4,.w false false (.int .i64 k)),(3,.w false false (.int .i64 (bw k)))]) [] (λ(k:Nat)=>[]) (λ(k:Nat)=>p-k) (λ(_u:Unit)=>True) [] (λ(_u:Unit)=>[(3,.w false false (.int .i64 (bw p)))]) [] (λ(_u:Unit)=>[]) (0) (aK _) (by simp) (by simp) (λk hk=>?_) (λ_u hf=>?_)
 .by_cases h5:k<p
  .have hb:=nz k (by omega);have e:bw (k+1)=10*bw k:=Int.mul_comm _ _;generalize bw k=n at hb e
   repeat' first|(with_reducible first|apply ai|apply iV|apply au|apply af|apply al|refine And.intro ?_ ?_|intro _)|(simp[*,h5])
   all_goals first
    |omega
    |exact aG (by omega) (by omega)
    |(refine nx (k+1) ?_ ?_;(· omega);(refine aD ?_ ?_<;>first|trivial|(simp[*,e];done)))
  .have h9:k=p:=by omega
   subst h9
   repeat' first|(with_reducible first|apply ai|apply aL|apply af|apply al|intro _)|(simp[*])
   all_goals first
    |omega
    |(refine aZ () ?_ ?_;(· trivial);(refine aD ?_ ?_<;>first|trivial|(simp[*];done)))
 .repeat' first|(with_reducible first|apply ai|apply az|apply af|intro _)|(simp[*])
end Go.Proofs.YthpkmilhiganjaaGreat
