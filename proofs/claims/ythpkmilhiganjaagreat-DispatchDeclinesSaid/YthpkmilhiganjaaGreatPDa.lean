/- Lemmas. -/
import Derived.Test.YthpkmilhiganjaaGreatPWg
import Derived.Test.YthpkmilhiganjaaGreatPLg
import Derived.Test.YthpkmilhiganjaaGreatPLf
set_option linter.all false
set_option maxHeartbeats 32000000
set_option maxRecDepth 100000
namespace Go.Proofs.YthpkmilhiganjaaGreat
open Go Go.Fi
variable[ak]
def aP(ok:Bool)(e:Int):Int:=if ok then 0 else e
theorem eh(ok:Bool)(e:Int):aB Tz.prog 71 [.bool ok,.int .i64 e] (.int .i64 (aP ok e)) true:=by
 refine rcK Tz.func71 ?_;simp only[Tryz.results71,Tryz.ntmps71]
 repeat' first|(with_reducible first|apply aj|apply aE|apply av|apply af|apply au|refine cK ?_ ?_|intro _)|(simp[*])
 all_goals simp_all[aP]
theorem mixed:Tz.prog.follows .mixedOrders=true:=by kernel_rfl
def aL(n lo hi:Int):Bool:=decide (lo<=n)&&decide (n<=hi)
theorem gk(n lo hi:Int):aB Tz.prog 72 [.int .i64 n,.int .i64 lo,.int .i64 hi] (.bool (aL n lo hi)) true:=by
 refine rcK Tz.func72 ?_;simp only[Tryz.results72,Tryz.ntmps72]
 repeat' first|(with_reducible first|apply aj|apply av|apply af|refine vU ?_ ?_|intro _)|(simp[*,aL])
theorem om(n lo hi:Int):aB Tz.prog 75 [.int .i64 n,.int .i64 lo,.int .i64 hi] (.bool (aL n lo hi)) true:=by
 refine rcK Tz.func75 ?_;simp only[Tryz.results75,Tryz.ntmps75]
 repeat' first|(with_reducible first|apply aj|apply av|apply af|refine vU ?_ ?_|intro _)|(simp[*,aL])
def ints(l:List Int):List PV:=l.map (.int .i64)
@[simp]theorem XU(l:List Int):(ints l).length=l.length:=by simp[ints]
@[simp]theorem NG(l:List Int)(k:Nat)(h:k<l.length):dL (ints l) k=.int .i64 (nth l k):=sK _ l k h
def dc:List Int->Int
 |[]=>0
 |e::r=>if e=0 then dc r else e
theorem fC{α:Type}[Inhabited α](l:List α)(k:Nat)(h:k<l.length):l.drop k=nth l k::l.drop (k+1):=by
 rw[Sk h];simp[nth,da,cG h]
theorem sV(l:List Int)(h:l.length<1000):aB Tz.prog 70 [.sl l.length (ints l)] (.int .i64 (dc l)) true:=by
 refine rcK Tz.func70 ?_;simp only[Tryz.results70,Tryz.ntmps70]
 repeat' first|(with_reducible first|apply aj|apply af|intro _)|(simp[*])
 refine vX (λk:Nat=>k<=l.length/\dc (l.drop k)=dc l) [5,6] (λk=>[(7,.w false false (.int .i64 k))]) (λ_=>[]) (λk=>l.length-k)
  (λ_:Unit=>dc l=0) [] (λ_=>[]) (λ_=>[]) 0 ⟨aR _,rfl⟩ (by simp) (by simp) (λk hk=>?_) (λ_ hf=>?_)
 .obtain⟨hk,hf⟩:=hk
  repeat' first|(with_reducible first|apply aj|apply aI|apply aE|apply av|apply aK|apply af|apply au|refine And.intro ?_ ?_|refine cD ?_ ?_|refine bY ?_ ?_|intro _)|(simp[*,dc])
  all_goals first
   |exact aN (by omega) (by omega)
   |omega
   |(rw[<-hf,fC l k (by omega)];simp_all[dc];done)
   |(refine nx (k+1) ?_ ?_;(· refine⟨by omega,?_⟩;rw[<-hf,fC l k (by omega)];simp_all[dc]);(refine aM ?_ ?_<;>first|trivial|(simp[*];done)))
   |(refine bN () ?_ ?_;(· rw[<-hf,Iw (by omega)];rfl);(refine aM ?_ ?_<;>first|trivial|(simp[*];done)))
 .repeat' first|(with_reducible first|apply aj|apply av|apply af|intro _)|(simp[*])
theorem AE(a b:Int):aB Tz.prog 70 [.sl 2 [.int .i64 a,.int .i64 b]] (.int .i64 (dc [a,b])) true:=sV [a,b] (ga rfl)
theorem F7(a b c:Int):aB Tz.prog 70 [.sl 3 [.int .i64 a,.int .i64 b,.int .i64 c]] (.int .i64 (dc [a,b,c])) true:=sV [a,b,c] (ga rfl)
def tU(c:Nat):Bool:=decide ((97:Int)<=c)&&decide ((c:Int)<=122) || decide ((65:Int)<=c)&&decide ((c:Int)<=90)
def okB(k c:Nat):Bool:=tU c || !(decide (k=0))&&(decide (c=45) || decide ((48:Int)<=c)&&decide ((c:Int)<=57))
def lD(s:ByteArray):Nat->Bool
 |0=>true
 |k+1=>lD s k&&okB k (ti s k)
theorem AF(s:ByteArray)(k:Nat)(h:okB k (ti s k)=false):∀n,k<n->lD s n=false
 |0,hn=>by omega
 |n+1,hn=>by
  unfold lD;by_cases e:k=n
  .subst e;simp[h]
  .rw[AF s k h n (by omega)];rfl
def fJ(s:ByteArray):Bool:=lD s s.size&&decide (s.size≠0)&&decide (s.size<=12)
theorem F8{s:ByteArray}(h:s.size=0):fJ s=false:=by simp[fJ,h]
theorem NH{s:ByteArray}(h:12<s.size):fJ s=false:=by simp[fJ];intros;omega
theorem F9{s:ByteArray}(h:lD s s.size=true)(h0:s.size≠0):fJ s=decide (s.size<=12):=by simp[fJ,h,h0]
theorem Ga(s:ByteArray)(hs:s.size<1000000):aB Tz.prog 130 [.str s] (.bool (fJ s)) true:=by
 refine rcK Tz.func130 ?_;simp only[Tryz.results130,Tryz.ntmps130]
 repeat' first|(with_reducible first|apply aj|apply af|intro _)|(simp[*])
 refine vX (λk:Nat=>k<=s.size/\lD s k=true) [0,7,8] (λk=>[(9,.w false false (.int .i64 k))]) (λ_=>[]) (λk=>s.size-k)
  (λ_:Unit=>lD s s.size=true) [0] (λ_=>[]) (λ_=>[]) 0 ⟨aR _,rfl⟩ (by simp) (by simp) (λk hk=>?_) (λ_ hf=>?_)
 .obtain⟨hk,hf⟩:=hk
  repeat' first|(with_reducible first|apply aj|apply aI|apply aE|apply av|apply aK|apply af|apply au|refine And.intro ?_ ?_|refine vV ?_ ?_|refine vU ?_ ?_|refine bY ?_ ?_|intro _)|(simp[*])
  all_goals first
   |exact aN (by omega) (by omega)
   |omega
   |(refine nx (k+1) ?_ ?_;(· refine⟨by omega,?_⟩;unfold lD;rw[hf];clear hf;simp[okB,tU] at *;omega);(refine aM ?_ ?_<;>first|trivial|(simp[*];done)))
   |(refine bN () ?_ ?_;(· rw[show s.size=k by omega];exact hf);(refine aM ?_ ?_<;>first|trivial|(simp[*];done)))
   |(unfold fJ;rw[AF s k (by clear hf;simp[okB,tU] at *;omega) s.size (by omega)];rfl)
 .repeat' first|(with_reducible first|apply aj|apply av|apply af|refine vV ?_ ?_|intro _)|(simp[*])
  .rename_i h0
   have hh:s≠{ data:=#[] }:=by simpa using h0
   rw[F9 hf (λh=>hh ((FI s).2 h))];simp;omega
  .rename_i h0;rw[F8 ((FI s).1 (by have h1:s = { data:=#[] }:=by simpa using h0
                                   exact h1))]
abbrev Car:=ByteArray×Int×Bool
abbrev Ord:=ByteArray×Int×Bool×Int
abbrev Par:=Int×Int
def bf(l:List Car):List PV:=l.flatMap Tw.dM
@[simp]theorem XV(l:List Car):(bf l).length=l.length*3:=sJ Tw.dM 3 (λ_=>rfl) l
@[simp]theorem XW(l:List Car)(k:Nat)(h:k<l.length):((bf l).drop (k*3)).take 3=Tw.dM (nth l k):=vW Tw.dM 3 (λ_=>rfl) l k h
@[simp]theorem XX(l:List Car)(k:Nat)(h:k<l.length):dL (bf l) (k*3)=.str (nth l k).1:=pC Tw.dM 3 (λ_=>rfl) l k 0 h (by omega)
@[simp]theorem XY(l:List Car)(k:Nat)(h:k<l.length):dL (bf l) (k*3+1)=.int .i64 (nth l k).2.1:=pC Tw.dM 3 (λ_=>rfl) l k 1 h (by omega)
def ba(l:List Ord):List PV:=l.flatMap Tw.cJ
@[simp]theorem XZ(l:List Ord):(ba l).length=l.length*4:=sJ Tw.cJ 4 (λ_=>rfl) l
@[simp]theorem X0(l:List Ord)(k:Nat)(h:k<l.length):((ba l).drop (k*4)).take 4=Tw.cJ (nth l k):=vW Tw.cJ 4 (λ_=>rfl) l k h
@[simp]theorem X1(l:List Ord)(k:Nat)(h:k<l.length):dL (ba l) (k*4)=.str (nth l k).1:=pC Tw.cJ 4 (λ_=>rfl) l k 0 h (by omega)
@[simp]theorem X2(l:List Ord)(k:Nat)(h:k<l.length):dL (ba l) (k*4+1)=.int .i64 (nth l k).2.1:=pC Tw.cJ 4 (λ_=>rfl) l k 1 h (by omega)
@[simp]theorem X3(l:List Ord)(k:Nat)(h:k<l.length):dL (ba l) (k*4+3)=.int .i64 (nth l k).2.2.2:=pC Tw.cJ 4 (λ_=>rfl) l k 3 h (by omega)
def aZ(l:List Par):List PV:=l.flatMap Tw.cg
@[simp]theorem X4(l:List Par):(aZ l).length=l.length*2:=sJ Tw.cg 2 (λ_=>rfl) l
@[simp]theorem X5(l:List Par)(k:Nat)(h:k<l.length):((aZ l).drop (k*2)).take 2=Tw.cg (nth l k):=vW Tw.cg 2 (λ_=>rfl) l k h
@[simp]theorem X6(l:List Par)(k:Nat)(h:k<l.length):dL (aZ l) (k*2)=.int .i64 (nth l k).1:=pC Tw.cg 2 (λ_=>rfl) l k 0 h (by omega)
theorem AG(n:Int):aB Tz.prog 102 [.int .i64 n] (.bool (aL n 1 8)) true:=by
 refine rcK Tz.func102 ?_;simp only[Tryz.results102,Tryz.ntmps102]
 repeat' first|(with_reducible first|apply aj|apply av|apply af|refine And.intro ?_ ?_|refine cw (gk _ _ _) ?_|intro _)|(simp[*])|(refine ar (gk _ _ _) ?_ ?_;(· (simp[*];done)))
theorem AH(x:Car):aB Tz.prog 100 [.agg (Tw.dM x)] (.str x.1) true:=by
 unfold Tw.dM;refine rcK Tz.func100 ?_;simp only[Tryz.results100,Tryz.ntmps100]
 repeat' first|(with_reducible first|apply aj|apply av|apply af|intro _)|(simp[*])
theorem AJ(x:Ord):aB Tz.prog 104 [.agg (Tw.cJ x)] (.str x.1) true:=by
 unfold Tw.cJ;refine rcK Tz.func104 ?_;simp only[Tryz.results104,Tryz.ntmps104]
 repeat' first|(with_reducible first|apply aj|apply av|apply af|intro _)|(simp[*])
def fK(x:Car):Int:=aP (aL x.2.1 1 8) 2
theorem NI(i:Int)(x:Car):aB Tz.prog 101 [.int .i64 i,.agg (Tw.dM x)] (.int .i64 (fK x)) true:=by
 unfold Tw.dM fK;refine rcK Tz.func101 ?_;simp only[Tryz.results101,Tryz.ntmps101]
 repeat' first|(with_reducible first|apply aj|apply av|apply af|refine And.intro ?_ ?_|refine cw (AG _) ?_|refine cw (eh _ _) ?_|intro _)|(simp[*])|(refine ar (AG _) ?_ ?_;(· (simp[*];done)))|(refine ar (eh _ _) ?_ ?_;(· (simp[*];done)))
def eY(x:Ord):Int:=aP (aL x.2.1 1 8&&aL x.2.2.2 0 6) 2
theorem NJ(i:Int)(x:Ord):aB Tz.prog 105 [.int .i64 i,.agg (Tw.cJ x)] (.int .i64 (eY x)) true:=by
 unfold Tw.cJ eY;have c1:=AG x.2.1;generalize aL x.2.1 1 8=b at c1 ⊢
 cases b with
 |true=>
  refine rcK Tz.func105 ?_;simp only[Tryz.results105,Tryz.ntmps105]
  repeat' first|(with_reducible first|apply aj|apply av|apply af|refine And.intro ?_ ?_|refine cw (c1) ?_|refine cw (gk _ _ _) ?_|refine cw (eh _ _) ?_|intro _)|(simp[*])|(refine ar (c1) ?_ ?_;(· (simp[*];done)))|(refine ar (gk _ _ _) ?_ ?_;(· (simp[*];done)))|(refine ar (eh _ _) ?_ ?_;(· (simp[*];done)))
 |false=>
  refine rcK Tz.func105 ?_;simp only[Tryz.results105,Tryz.ntmps105]
  repeat' first|(with_reducible first|apply aj|apply av|apply af|refine And.intro ?_ ?_|refine cw (c1) ?_|refine cw (eh _ _) ?_|intro _)|(simp[*])|(refine ar (c1) ?_ ?_;(· (simp[*];done)))|(refine ar (gk _ _ _) ?_ ?_;(· (simp[*];done)))|(refine ar (eh _ _) ?_ ?_;(· (simp[*];done)))
theorem NL(x:Int):aB Tz.prog 106 [.int .i64 x] (.bool (!aL x 0 100000)) true:=by
 refine rcK Tz.func106 ?_;simp only[Tryz.results106,Tryz.ntmps106]
 repeat' first|(with_reducible first|apply aj|apply av|apply af|refine And.intro ?_ ?_|refine cw (gk _ _ _) ?_|intro _)|(simp[*])|(refine ar (gk _ _ _) ?_ ?_;(· (simp[*];done)))
def br(p:Prop):Prop:=p
theorem keep{p:Prop}(h:p):br p:=h
def gq{α:Type}(p:α->Bool):List α->Nat->Int
 |[],_=>-1
 |x::r,i=>if p x=true then (i:Int) else gq p r (i+1)
def idxOf{α:Type}(p:α->Bool)(l:List α):Int:=gq p l 0
theorem Gb{α:Type}(p:α->Bool):∀(l:List α)(i:Nat),decide (0<=gq p l i)=l.any p
 |[],i=>rfl
 |x::r,i=>by
  unfold gq
  cases h:p x with
  |true=>simp[h]
  |false=>simp[h];have:=Gb p r (i+1);simpa using this
theorem sX{α:Type}(p:α->Bool)(l:List α):decide (0<=idxOf p l)=l.any p:=Gb p l 0
theorem NM(l:List Int)(hl:l.length<100000)(g:FuncId)(aF:List PV)(p:Int->Bool)(h:∀x,aB Tz.prog g (.int .i64 x::aF) (.bool (p x)) true):aB Tz.prog 124 [.sl l.length (ints l),.fn g aF] (.int .i64 (idxOf p l)) true:=by
 generalize hR:idxOf p l=R;have kR:br (gq p l 0=R):=keep hR;clear hR;refine rcK Tz.func124 ?_;simp only[Tryz.results124,Tryz.ntmps124]
 repeat' first|(with_reducible first|apply aj|apply af|intro _)|(simp[*])
 refine eD (λ(k:Nat)=>k<=l.length/\gq p (l.drop k) k=R) [0,1,7] (λ(k:Nat)=>[(8,.w false false (.int .i64 k))]) [] (λ(k:Nat)=>[]) (λ(k:Nat)=>l.length-k) (λ(_u:Unit)=>R=-1) [] (λ(_u:Unit)=>[]) [] (λ(_u:Unit)=>[]) (0) ⟨aR _,kR⟩ (by simp) (by simp) (λk hk=>?_) (λ_u hf=>?_)
 .obtain⟨hk,hj⟩:=hk;by_cases h8:k<l.length
  .have c1:=h (nth l k);have h5:=hj;rw[fC l k h8] at h5;unfold gq at h5;have kj:=keep h5;clear hj h5 h
   repeat' first|(with_reducible first|apply aj|apply aI|apply aE|apply av|apply af|apply au|refine And.intro ?_ ?_|refine cK ?_ ?_|refine cw (c1) ?_|intro _)|(simp[*,h8])|(refine ar (c1) ?_ ?_;(· (simp[*];done)))
   all_goals first
    |exact aN (by omega) (by omega)
    |omega
    |(rename_i hp;rw[az hp] at kj;exact kj)
    |(rename_i hp;rw[ai (by rw[hp];decide)] at kj;(refine nx (k+1) ?_ ?_;(· exact⟨by omega,kj⟩);(refine aM ?_ ?_<;>first|trivial|(simp[*];done))))
    |skip
  .have h9:k=l.length:=by omega
   subst h9
   repeat' first|(with_reducible first|apply aj|apply aK|apply af|apply au|intro _)|(simp[*])
   all_goals (refine bN () ?_ ?_;(· rw[<-hj,jK];rfl);(refine aM ?_ ?_<;>first|trivial|(simp[*];done)))
 .subst hf
  repeat' first|(with_reducible first|apply aj|apply av|apply af|intro _)|(simp[*])
theorem NN(l:List Int)(hl:l.length<100000)(g:FuncId)(aF:List PV)(p:Int->Bool)(h:∀x,aB Tz.prog g (.int .i64 x::aF) (.bool (p x)) true):aB Tz.prog 93 [.sl l.length (ints l),.fn g aF] (.bool (l.any p)) true:=by
 have c1:=NM l hl g aF p h;have h:=sX p l;generalize idxOf p l=i at *;rw[<-h];clear h;refine rcK Tz.func93 ?_;simp only[Tryz.results93,Tryz.ntmps93]
 repeat' first|(with_reducible first|apply aj|apply av|apply af|refine And.intro ?_ ?_|refine cw (c1) ?_|intro _)|(simp[*])|(refine ar (c1) ?_ ?_;(· (simp[*];done)))
theorem NO(l:List Car)(hl:l.length<100000)(g:FuncId)(aF:List PV)(p:Car->Bool)(h:∀x,aB Tz.prog g (.agg (Tw.dM x)::aF) (.bool (p x)) true):aB Tz.prog 167 [.sl l.length (bf l),.fn g aF] (.int .i64 (idxOf p l)) true:=by
 generalize hR:idxOf p l=R;have kR:br (gq p l 0=R):=keep hR;clear hR;refine rcK Tz.func167 ?_;simp only[Tryz.results167,Tryz.ntmps167]
 repeat' first|(with_reducible first|apply aj|apply af|intro _)|(simp[*])
 refine eD (λ(k:Nat)=>k<=l.length/\gq p (l.drop k) k=R) [0,1,7] (λ(k:Nat)=>[(8,.w false false (.int .i64 k))]) [] (λ(k:Nat)=>[]) (λ(k:Nat)=>l.length-k) (λ(_u:Unit)=>R=-1) [] (λ(_u:Unit)=>[]) [] (λ(_u:Unit)=>[]) (0) ⟨aR _,kR⟩ (by simp) (by simp) (λk hk=>?_) (λ_u hf=>?_)
 .obtain⟨hk,hj⟩:=hk;by_cases h8:k<l.length
  .have c1:=h (nth l k);have h5:=hj;rw[fC l k h8] at h5;unfold gq at h5;have kj:=keep h5;clear hj h5 h
   repeat' first|(with_reducible first|apply aj|apply aI|apply aE|apply av|apply af|apply au|refine And.intro ?_ ?_|refine cK ?_ ?_|refine cw (c1) ?_|intro _)|(simp[*,h8])|(refine ar (c1) ?_ ?_;(· (simp[*];done)))
   all_goals first
    |exact aN (by omega) (by omega)
    |omega
    |(rename_i hp;rw[az hp] at kj;exact kj)
    |(rename_i hp;rw[ai (by rw[hp];decide)] at kj;(refine nx (k+1) ?_ ?_;(· exact⟨by omega,kj⟩);(refine aM ?_ ?_<;>first|trivial|(simp[*];done))))
    |skip
  .have h9:k=l.length:=by omega
   subst h9
   repeat' first|(with_reducible first|apply aj|apply aK|apply af|apply au|intro _)|(simp[*])
   all_goals (refine bN () ?_ ?_;(· rw[<-hj,jK];rfl);(refine aM ?_ ?_<;>first|trivial|(simp[*];done)))
 .subst hf
  repeat' first|(with_reducible first|apply aj|apply av|apply af|intro _)|(simp[*])
theorem NQ(l:List Car)(hl:l.length<100000)(g:FuncId)(aF:List PV)(p:Car->Bool)(h:∀x,aB Tz.prog g (.agg (Tw.dM x)::aF) (.bool (p x)) true):aB Tz.prog 128 [.sl l.length (bf l),.fn g aF] (.bool (l.any p)) true:=by
 have c1:=NO l hl g aF p h;have h:=sX p l;generalize idxOf p l=i at *;rw[<-h];clear h;refine rcK Tz.func128 ?_;simp only[Tryz.results128,Tryz.ntmps128]
 repeat' first|(with_reducible first|apply aj|apply av|apply af|refine And.intro ?_ ?_|refine cw (c1) ?_|intro _)|(simp[*])|(refine ar (c1) ?_ ?_;(· (simp[*];done)))
theorem NR(l:List Ord)(hl:l.length<100000)(g:FuncId)(aF:List PV)(p:Ord->Bool)(h:∀x,aB Tz.prog g (.agg (Tw.cJ x)::aF) (.bool (p x)) true):aB Tz.prog 168 [.sl l.length (ba l),.fn g aF] (.int .i64 (idxOf p l)) true:=by
 generalize hR:idxOf p l=R;have kR:br (gq p l 0=R):=keep hR;clear hR;refine rcK Tz.func168 ?_;simp only[Tryz.results168,Tryz.ntmps168]
 repeat' first|(with_reducible first|apply aj|apply af|intro _)|(simp[*])
 refine eD (λ(k:Nat)=>k<=l.length/\gq p (l.drop k) k=R) [0,1,7] (λ(k:Nat)=>[(8,.w false false (.int .i64 k))]) [] (λ(k:Nat)=>[]) (λ(k:Nat)=>l.length-k) (λ(_u:Unit)=>R=-1) [] (λ(_u:Unit)=>[]) [] (λ(_u:Unit)=>[]) (0) ⟨aR _,kR⟩ (by simp) (by simp) (λk hk=>?_) (λ_u hf=>?_)
 .obtain⟨hk,hj⟩:=hk;by_cases h8:k<l.length
  .have c1:=h (nth l k);have h5:=hj;rw[fC l k h8] at h5;unfold gq at h5;have kj:=keep h5;clear hj h5 h
   repeat' first|(with_reducible first|apply aj|apply aI|apply aE|apply av|apply af|apply au|refine And.intro ?_ ?_|refine cK ?_ ?_|refine cw (c1) ?_|intro _)|(simp[*,h8])|(refine ar (c1) ?_ ?_;(· (simp[*];done)))
   all_goals first
    |exact aN (by omega) (by omega)
    |omega
    |(rename_i hp;rw[az hp] at kj;exact kj)
    |(rename_i hp;rw[ai (by rw[hp];decide)] at kj;(refine nx (k+1) ?_ ?_;(· exact⟨by omega,kj⟩);(refine aM ?_ ?_<;>first|trivial|(simp[*];done))))
    |skip
  .have h9:k=l.length:=by omega
   subst h9
   repeat' first|(with_reducible first|apply aj|apply aK|apply af|apply au|intro _)|(simp[*])
   all_goals (refine bN () ?_ ?_;(· rw[<-hj,jK];rfl);(refine aM ?_ ?_<;>first|trivial|(simp[*];done)))
 .subst hf
  repeat' first|(with_reducible first|apply aj|apply av|apply af|intro _)|(simp[*])
theorem NS(l:List Ord)(hl:l.length<100000)(g:FuncId)(aF:List PV)(p:Ord->Bool)(h:∀x,aB Tz.prog g (.agg (Tw.cJ x)::aF) (.bool (p x)) true):aB Tz.prog 131 [.sl l.length (ba l),.fn g aF] (.bool (l.any p)) true:=by
 have c1:=NR l hl g aF p h;have h:=sX p l;generalize idxOf p l=i at *;rw[<-h];clear h;refine rcK Tz.func131 ?_;simp only[Tryz.results131,Tryz.ntmps131]
 repeat' first|(with_reducible first|apply aj|apply av|apply af|refine And.intro ?_ ?_|refine cw (c1) ?_|intro _)|(simp[*])|(refine ar (c1) ?_ ?_;(· (simp[*];done)))
theorem NT(x y:Car):aB Tz.prog 129 [.agg (Tw.dM y),.ip [.fn 100 []] 0,.ip (Tw.dM x) 0] (.bool (decide (y.1=x.1))) true:=by
 have c1:=AH y;have c2:=AH x;unfold Tw.dM at *;refine rcK Tz.func129 ?_;simp only[Tryz.results129,Tryz.ntmps129]
 repeat' first|(with_reducible first|apply aj|apply av|apply af|refine bm (id:=1) 8 mixed (by decide +kernel) ?_|refine And.intro ?_ ?_|refine cw (c1) ?_|refine cw (c2) ?_|intro _)|(simp[*])|(refine ar (c1) ?_ ?_;(· (simp[*];done)))|(refine ar (c2) ?_ ?_;(· (simp[*];done)))
theorem NU(x y:Ord):aB Tz.prog 132 [.agg (Tw.cJ y),.ip [.fn 104 []] 0,.ip (Tw.cJ x) 0] (.bool (decide (y.1=x.1))) true:=by
 have c1:=AJ y;have c2:=AJ x;unfold Tw.cJ at *;refine rcK Tz.func132 ?_;simp only[Tryz.results132,Tryz.ntmps132]
 repeat' first|(with_reducible first|apply aj|apply av|apply af|refine bm (id:=1) 8 mixed (by decide +kernel) ?_|refine And.intro ?_ ?_|refine cw (c1) ?_|refine cw (c2) ?_|intro _)|(simp[*])|(refine ar (c1) ?_ ?_;(· (simp[*];done)))|(refine ar (c2) ?_ ?_;(· (simp[*];done)))
def gZ{α:Type}(nm:α->ByteArray)(mr:α->Int)(l:List α)(k:Nat)(x:α):Int:=dc [aP (fJ (nm x)) 4,aP (!(l.take k).any (λy=>decide (nm y=nm x))) 5,mr x]
def fu{α:Type}(nm:α->ByteArray)(mr:α->Int)(l:List α):List α->Nat->Int×Int
 |[],_=>(0,0)
 |x::r,k=>if gZ nm mr l k x=0 then fu nm mr l r (k+1) else (k,gZ nm mr l k x)
def gG{α:Type}(nm:α->ByteArray)(mr:α->Int)(l:List α):Int×Int:=fu nm mr l l 0
@[simp]theorem X7(l:List Car)(k:Nat):(bf l).take (k*3)=bf (l.take k):=by
 induction l generalizing k with
 |nil=>simp[bf]
 |cons x r ih=>
  cases k with
  |zero=>simp[bf]
  |succ k=>
   have e:bf (x::r)=Tw.dM x++bf r:=rfl;rw[e,Ix,show bf (x::r.take k)=Tw.dM x++bf (r.take k) from rfl,<-ih,fL,Iy];simp[Tw.dM]
@[simp]theorem X8(l:List Ord)(k:Nat):(ba l).take (k*4)=ba (l.take k):=by
 induction l generalizing k with
 |nil=>simp[ba]
 |cons x r ih=>
  cases k with
  |zero=>simp[ba]
  |succ k=>
   have e:ba (x::r)=Tw.cJ x++ba r:=rfl;rw[e,Ix,show ba (x::r.take k)=Tw.cJ x++ba (r.take k) from rfl,<-ih,fL,Iy];simp[Tw.cJ]
theorem NV(l:List Car)(hl:l.length<100000)(hs:∀x∈l,x.1.size<1000000):aB Tz.prog 99 [.sl l.length (bf l),.fn 100 [],.fn 101 []] (.tup [.int .i64 (gG Prod.fst fK l).1,.int .i64 (gG Prod.fst fK l).2]) true:=by
 generalize hR:gG Prod.fst fK l=R;obtain⟨R1,R2⟩:=R;have kR:br (fu Prod.fst fK l l 0=(R1,R2)):=keep hR;clear hR;refine rcK Tz.func99 ?_;simp only[Tryz.results99,Tryz.ntmps99]
 repeat' first|(with_reducible first|apply aj|apply af|intro _)|(simp[*])
 refine eD (λ(k:Nat)=>k<=l.length/\fu Prod.fst fK l (l.drop k) k=(R1,R2)) [0,2,4,12,13] (λ(k:Nat)=>[(14,.w false false (.int .i64 k))]) [0] (λ(k:Nat)=>[]) (λ(k:Nat)=>l.length-k) (λ(_u:Unit)=>R1=0/\R2=0) [] (λ(_u:Unit)=>[]) [0] (λ(_u:Unit)=>[]) (0) ⟨aR _,kR⟩ (by simp) (by simp) (λk hk=>?_) (λ_u hf=>?_)
 .obtain⟨hk,hj⟩:=hk;by_cases h8:k<l.length
  .have c1:=NQ (l.take k) (by rw[nM];omega) 129 [.ip [.fn 100 []] 0,.ip (Tw.dM (nth l k)) 0] (λy=>decide (y.1=(nth l k).1)) (λy=>NT (nth l k) y);rw[Cr hk] at c1;have c2:=Ga (nth l k).1 (hs _ (kI h8));have c3:=AH (nth l k);have c4:=NI k (nth l k);have c5:=F7 (aP (fJ (nth l k).1) 4) (aP (!(l.take k).any (λy=>decide (y.1=(nth l k).1))) 5) (fK (nth l k));have h5:=hj;rw[fC l k h8] at h5;unfold fu gZ at h5;generalize dc [aP (fJ (nth l k).1) 4,aP (!(l.take k).any (λy=>decide (y.1=(nth l k).1))) 5,fK (nth l k)]=e at h5 c5;have kj:=keep h5;clear hj h5 hs;unfold Tw.dM at c1 c3 c4
   repeat' first|(with_reducible first|apply aj|apply aI|apply aE|apply av|apply af|refine bm (id:=5) 15 mixed (by decide +kernel) ?_|apply au|refine And.intro ?_ ?_ |  refine cD ?_ ?_|refine cw (c1) ?_|refine cw (c2) ?_|refine cw (c3) ?_|refine cw (c4) ?_|refine cw (eh _ _) ?_|refine cw (c5) ?_|intro _)|(simp[*,h8,Tw.dM])|(refine ar (c1) ?_ ?_;(· (simp[*];done)))|(refine ar (c2) ?_ ?_;(· (simp[*];done)))|(refine ar (c3) ?_ ?_;(· (simp[*];done)))|(refine ar (c4) ?_ ?_;(· (simp[*];done)))|(refine ar (eh _ _) ?_ ?_;(· (simp[*];done)))|(refine ar (c5) ?_ ?_;(· (simp[*];done)))
   all_goals first
    |omega
    |exact aN (by omega) (by omega)
    |(rename_i hp;rw[ai hp] at kj;exact (b8 kj).1)
    |(rename_i hp;rw[ai hp] at kj;exact (b8 kj).2)
    |(rename_i hp;rw[az hp] at kj;(refine nx (k+1) ?_ ?_;(· exact⟨by omega,kj⟩);(refine aM ?_ ?_<;>first|trivial|(simp[*];done))))
  .have h9:k=l.length:=by omega
   subst h9;rw[jK] at hj;unfold fu at hj
   repeat' first|(with_reducible first|apply aj|apply aK|apply af|apply au|intro _)|(simp[*])
   all_goals (refine bN () ?_ ?_;(· exact⟨(b8 hj).1.symm,(b8 hj).2.symm⟩);(refine aM ?_ ?_<;>first|trivial|(simp[*];done)))
 .obtain⟨rfl,rfl⟩:=hf
  repeat' first|(with_reducible first|apply aj|apply av|apply af|intro _)|(simp[*])
theorem NW(l:List Ord)(hl:l.length<100000)(hs:∀x∈l,x.1.size<1000000):aB Tz.prog 103 [.sl l.length (ba l),.fn 104 [],.fn 105 []] (.tup [.int .i64 (gG Prod.fst eY l).1,.int .i64 (gG Prod.fst eY l).2]) true:=by
 generalize hR:gG Prod.fst eY l=R;obtain⟨R1,R2⟩:=R;have kR:br (fu Prod.fst eY l l 0=(R1,R2)):=keep hR;clear hR;refine rcK Tz.func103 ?_;simp only[Tryz.results103,Tryz.ntmps103]
 repeat' first|(with_reducible first|apply aj|apply af|intro _)|(simp[*])
 refine eD (λ(k:Nat)=>k<=l.length/\fu Prod.fst eY l (l.drop k) k=(R1,R2)) [0,2,4,12,13] (λ(k:Nat)=>[(14,.w false false (.int .i64 k))]) [0] (λ(k:Nat)=>[]) (λ(k:Nat)=>l.length-k) (λ(_u:Unit)=>R1=0/\R2=0) [] (λ(_u:Unit)=>[]) [0] (λ(_u:Unit)=>[]) (0) ⟨aR _,kR⟩ (by simp) (by simp) (λk hk=>?_) (λ_u hf=>?_)
 .obtain⟨hk,hj⟩:=hk;by_cases h8:k<l.length
  .have c1:=NS (l.take k) (by rw[nM];omega) 132 [.ip [.fn 104 []] 0,.ip (Tw.cJ (nth l k)) 0] (λy=>decide (y.1=(nth l k).1)) (λy=>NU (nth l k) y);rw[Cr hk] at c1;have c2:=Ga (nth l k).1 (hs _ (kI h8));have c3:=AJ (nth l k);have c4:=NJ k (nth l k);have c5:=F7 (aP (fJ (nth l k).1) 4) (aP (!(l.take k).any (λy=>decide (y.1=(nth l k).1))) 5) (eY (nth l k));have h5:=hj;rw[fC l k h8] at h5;unfold fu gZ at h5;generalize dc [aP (fJ (nth l k).1) 4,aP (!(l.take k).any (λy=>decide (y.1=(nth l k).1))) 5,eY (nth l k)]=e at h5 c5;have kj:=keep h5;clear hj h5 hs;unfold Tw.cJ at c1 c3 c4
   repeat' first|(with_reducible first|apply aj|apply aI|apply aE|apply av|apply af|refine bm (id:=5) 15 mixed (by decide +kernel) ?_|apply au|refine And.intro ?_ ?_ |  refine cD ?_ ?_|refine cw (c1) ?_|refine cw (c2) ?_|refine cw (c3) ?_|refine cw (c4) ?_|refine cw (eh _ _) ?_|refine cw (c5) ?_|intro _)|(simp[*,h8,Tw.cJ])|(refine ar (c1) ?_ ?_;(· (simp[*];done)))|(refine ar (c2) ?_ ?_;(· (simp[*];done)))|(refine ar (c3) ?_ ?_;(· (simp[*];done)))|(refine ar (c4) ?_ ?_;(· (simp[*];done)))|(refine ar (eh _ _) ?_ ?_;(· (simp[*];done)))|(refine ar (c5) ?_ ?_;(· (simp[*];done)))
   all_goals first
    |omega
    |exact aN (by omega) (by omega)
    |(rename_i hp;rw[ai hp] at kj;exact (b8 kj).1)
    |(rename_i hp;rw[ai hp] at kj;exact (b8 kj).2)
    |(rename_i hp;rw[az hp] at kj;(refine nx (k+1) ?_ ?_;(· exact⟨by omega,kj⟩);(refine aM ?_ ?_<;>first|trivial|(simp[*];done))))
  .have h9:k=l.length:=by omega
   subst h9;rw[jK] at hj;unfold fu at hj
   repeat' first|(with_reducible first|apply aj|apply aK|apply af|apply au|intro _)|(simp[*])
   all_goals (refine bN () ?_ ?_;(· exact⟨(b8 hj).1.symm,(b8 hj).2.symm⟩);(refine aM ?_ ?_<;>first|trivial|(simp[*];done)))
 .obtain⟨rfl,rfl⟩:=hf
  repeat' first|(with_reducible first|apply aj|apply av|apply af|intro _)|(simp[*])
theorem NX(l:List Par)(hl:l.length<100000)(v:Par):aB Tz.prog 133 [.sl l.length (aZ l),.agg (Tw.cg v)] (.int .i64 (idxOf (λy=>decide (v.1=y.1)&&decide (v.2=y.2)) l)) true:=by
 generalize hR:idxOf (λy=>decide (v.1=y.1)&&decide (v.2=y.2)) l=R;have kR:br (gq (λy=>decide (v.1=y.1)&&decide (v.2=y.2)) l 0=R):=keep hR;clear hR;obtain⟨v1,v2⟩:=v;simp only[Tw.cg];refine rcK Tz.func133 ?_;simp only[Tryz.results133,Tryz.ntmps133]
 repeat' first|(with_reducible first|apply aj|apply af|intro _)|(simp[*])
 refine eD (λ(k:Nat)=>k<=l.length/\gq (λy=>decide (v1=y.1)&&decide (v2=y.2)) (l.drop k) k=R) [0,3,7] (λ(k:Nat)=>[(8,.w false false (.int .i64 k))]) [0] (λ(k:Nat)=>[]) (λ(k:Nat)=>l.length-k) (λ(_u:Unit)=>R=-1) [] (λ(_u:Unit)=>[]) [0] (λ(_u:Unit)=>[]) (0) ⟨aR _,kR⟩ (by simp) (by simp) (λk hk=>?_) (λ_u hf=>?_)
 .obtain⟨hk,hj⟩:=hk;by_cases h8:k<l.length
  .have h5:=hj;rw[fC l k h8] at h5;unfold gq at h5;have kj:=keep h5;clear hj h5
   repeat' first|(with_reducible first|apply aj|apply aI|apply aE|apply av|apply af|refine bm (id:=4) 6 mixed (by decide +kernel) ?_|apply au|refine And.intro ?_ ?_|refine cK ?_ ?_|intro _)|(simp[*,h8,Tw.cg])
   all_goals first
    |omega
    |exact aN (by omega) (by omega)
    |(rename_i hp;rw[az (by simpa using hp)] at kj;exact kj)
    |(rename_i hp;rw[ai (by simpa using hp)] at kj;(refine nx (k+1) ?_ ?_;(· exact⟨by omega,kj⟩);(refine aM ?_ ?_<;>first|trivial|(simp[*];done))))
  .have h9:k=l.length:=by omega
   subst h9
   repeat' first|(with_reducible first|apply aj|apply aK|apply af|apply au|intro _)|(simp[*])
   all_goals (refine bN () ?_ ?_;(· rw[<-hj,jK];rfl);(refine aM ?_ ?_<;>first|trivial|(simp[*];done)))
 .subst hf
  repeat' first|(with_reducible first|apply aj|apply av|apply af|intro _)|(simp[*])
theorem AK(l:List Par)(hl:l.length<100000)(v:Par):aB Tz.prog 107 [.sl l.length (aZ l),.agg (Tw.cg v)] (.bool (l.any λy=>decide (v.1=y.1)&&decide (v.2=y.2))) true:=by
 have c1:=NX l hl v;have h:=sX (λy=>decide (v.1=y.1)&&decide (v.2=y.2)) l;generalize idxOf (λy:Par=>decide (v.1=y.1)&&decide (v.2=y.2)) l=i at *;rw[<-h];clear h;obtain⟨v1,v2⟩:=v;simp only[Tw.cg] at *;refine rcK Tz.func107 ?_;simp only[Tryz.results107,Tryz.ntmps107]
 repeat' first|(with_reducible first|apply aj|apply av|apply af|refine And.intro ?_ ?_|refine cw (c1) ?_|intro _)|(simp[*])|(refine ar (c1) ?_ ?_;(· (simp[*];done)))
def fQ{α:Type}(E:Nat->α->Int):List α->Nat->Int×Int
 |[],_=>(0,0)
 |x::r,k=>if E k x=0 then fQ E r (k+1) else (k,E k x)
def bP(w:List (List Int)):List PV:=w.map Tw.BU
@[simp]theorem X9(w:List (List Int)):(bP w).length=w.length:=by simp[bP]
@[simp]theorem Ya(w:List (List Int))(k:Nat)(h:k<w.length):dL (bP w) k=.sl (nth w k).length (ints (nth w k)):=sK Tw.BU w k h
@[simp]theorem Yb(l:List Par)(k:Nat):(aZ l).take (k*2)=aZ (l.take k):=by
 induction l generalizing k with
 |nil=>simp[aZ]
 |cons x r ih=>
  cases k with
  |zero=>simp[aZ]
  |succ k=>
   have e:aZ (x::r)=Tw.cg x++aZ r:=rfl;rw[e,Ix,show aZ (x::r.take k)=Tw.cg x++aZ (r.take k) from rfl,<-ih,fL,Iy];simp[Tw.cg]
def gr(nc:Nat)(row:List Int):Int:=dc [aP (decide ((row.length:Int)=nc)) 10,aP (!(row.any λx=>!aL x 0 100000)) 2]
def jG(no nc:Nat)(zs:List Par)(k:Nat)(p:Par):Int:=dc [aP (aL p.1 0 ((no:Int)-1)&&aL p.2 0 ((nc:Int)-1)) 6,aP (!((zs.take k).any λy=>decide (p.1=y.1)&&decide (p.2=y.2))) 26]
def fY{α:Type}(E:Nat->α->Int)(l:List α)(k:Nat)(T:Int×Int):Int×Int:=if (fQ E l k).2≠0 then fQ E l k else T
theorem Gc{α:Type}(E:Nat->α->Int)(x:α)(l:List α)(k:Nat)(T:Int×Int):fY E (x::l) k T=if E k x=0 then fY E l (k+1) T else ((k:Int),E k x):=by
 unfold fY;rw[fQ];by_cases h:E k x=0
 .simp only[h,aJ]
 .simp[h]
theorem Ge{α:Type}(E:Nat->α->Int)(k:Nat)(T:Int×Int):fY E [] k T=T:=by simp[fY,fQ]
def g7(no nc:Nat)(zs:List Par):Int×Int:=if (64:Int)<zs.length then (0,8) else fQ (jG no nc zs) zs 0
def g8(ab:List Car)(os:List Ord)(wt:List (List Int))(zs:List Par):Int×Int:=
 if (8:Int)<ab.length then (0,8) else if (gG Prod.fst fK ab).2≠0 then gG Prod.fst fK ab else if (8:Int)<os.length then (0,8) else if (gG Prod.fst eY os).2≠0 then gG Prod.fst eY os else
 if (wt.length:Int)≠os.length then (0,10) else fY (λ_=>gr ab.length) wt 0 (g7 os.length ab.length zs)
theorem NY(ab:List Car)(os:List Ord)(wt:List (List Int))(zs:List Par)(h1:ab.length<100000)(h2:os.length<100000)(h3:wt.length<100000)(h4:zs.length<100000)(hc:∀x∈ab,x.1.size<1000000)(ho:∀x∈os,x.1.size<1000000)(hw:∀x∈wt,x.length<100000):aB Tz.prog 55 [.agg [.sl ab.length (bf ab),.sl os.length (ba os),.sl wt.length (bP wt),.sl zs.length (aZ zs)]] (.tup [.int .i64 (g8 ab os wt zs).1,.int .i64 (g8 ab os wt zs).2]) true:=by
 have c54:=NV ab h1 hc;have c58:=NW os h2 ho;generalize hR:g8 ab os wt zs=R;obtain⟨R1,R2⟩:=R;unfold g8 at hR;generalize gG Prod.fst fK ab=A at *;generalize gG Prod.fst eY os=O at *;obtain⟨A1,A2⟩:=A;obtain⟨O1,O2⟩:=O;have kR:=keep hR;have kw:=keep hw;clear hR hw hc ho;simp only[] at c54 c58;refine rcK Tz.func55 ?_;simp only[Tryz.results55,Tryz.ntmps55]
 repeat' first|(with_reducible first|apply aj|apply aE|apply av|apply af|apply au|refine And.intro ?_ ?_ |  refine cD ?_ ?_|refine bY ?_ ?_|refine cw (c54) ?_|refine cw (c58) ?_|intro _)|(simp[*])|(refine ar (c54) ?_ ?_;(· (simp[*];done)))|(refine ar (c58) ?_ ?_;(· (simp[*];done)))
 rotate_right
 .rename_i b1 b2 b3 b4 b5
  have kT:br (fY (λ_=>gr ab.length) wt 0 (g7 os.length ab.length zs)=(R1,R2)):=by
   rw[ai b1,ai (by simpa using b2),ai b3,ai (by simpa using b4),ai (by simpa using b5)] at kR;exact kR
  have kl:=keep b5;clear kR c54 c58 b1 b2 b3 b4 b5;refine eD (λ(k:Nat)=>k<=wt.length/\fY (λ_=>gr ab.length) (wt.drop k) k (g7 os.length ab.length zs)=(R1,R2)) [1,50,51] (λ(k:Nat)=>[(52,.w false false (.int .i64 k))]) [0] (λ(k:Nat)=>[]) (λ(k:Nat)=>wt.length-k) (λ(_u:Unit)=>g7 os.length ab.length zs=(R1,R2)) [1] (λ(_u:Unit)=>[]) [0] (λ(_u:Unit)=>[]) (0) ⟨aR _,kT⟩ (by simp) (by simp) (λk hk=>?_) (λ_u hf=>?_)
  .obtain⟨hk,hj⟩:=hk
   have hlen:wt.length=os.length:=by have:=kl;unfold br at this;omega
   by_cases h8:k<wt.length
   .have h':k<os.length:=by omega
    have c1:=NN (nth wt k) (kw _ (kI h8)) 106 [] _ NL;have c2:=AE (aP (decide (((nth wt k).length:Int)=ab.length)) 10) (aP (!((nth wt k).any λx=>!aL x 0 100000)) 2);rw[fC wt k h8,Gc] at hj;unfold gr at hj;generalize dc [aP (decide (((nth wt k).length:Int)=ab.length)) 10,aP (!((nth wt k).any λx=>!aL x 0 100000)) 2]=e at hj c2;have kj:=keep hj;clear hj hlen
    repeat' first|(with_reducible first|apply aj|apply aI|apply aE|apply av|apply af|apply au|refine And.intro ?_ ?_ |  refine cD ?_ ?_|refine cw (c1) ?_|refine cw (c2) ?_|refine cw (eh _ _) ?_|intro _)|(simp[*,h8,h'])|(refine ar (c1) ?_ ?_;(· (simp[*];done)))|(refine ar (c2) ?_ ?_;(· (simp[*];done)))|(refine ar (eh _ _) ?_ ?_;(· (simp[*];done)))
    all_goals first
     |omega
     |exact aN (by omega) (by omega)
     |(rename_i hp;rw[ai hp] at kj;exact (b8 kj).1)
     |(rename_i hp;rw[ai hp] at kj;exact (b8 kj).2)
     |(rename_i hp;rw[az hp] at kj;(refine nx (k+1) ?_ ?_;(· exact⟨by omega,kj⟩);(refine aM ?_ ?_<;>first|trivial|(simp[*];done))))
   .have h':¬k<os.length:=by omega
    have h9:k=wt.length:=by omega
    rw[h9,jK,Ge] at hj;have kj:=keep hj;clear hj hlen h9
    repeat' first|(with_reducible first|apply aj|apply aK|apply af|apply au|intro _)|(simp[*,h8,h'])
    all_goals first
     |omega
     |(refine bN () ?_ ?_;(· exact kj);(refine aM ?_ ?_<;>first|trivial|(simp[*];done)))
  .unfold g7 at hf;have kf:=keep hf;clear hf kT kw kl
   repeat' first|(with_reducible first|apply aj|apply aE|apply av|apply af|apply au|refine And.intro ?_ ?_|refine bY ?_ ?_|intro _)|(simp[*])
   rotate_right
   .rename_i b6;rw[ai b6] at kf;have k2:=keep b6;clear b6;refine eD (λ(k:Nat)=>k<=zs.length/\fQ (jG os.length ab.length zs) (zs.drop k) k=(R1,R2)) [1,81,82] (λ(k:Nat)=>[(83,.w false false (.int .i64 k))]) [0] (λ(k:Nat)=>[]) (λ(k:Nat)=>zs.length-k) (λ(_u:Unit)=>R1=0/\R2=0) [] (λ(_u:Unit)=>[]) [0] (λ(_u:Unit)=>[]) (0) ⟨aR _,kf⟩ (by simp) (by simp) (λk hk=>?_) (λ_u hf=>?_)
    .obtain⟨hk,hj⟩:=hk;by_cases h8:k<zs.length
     .have c1:=AK (zs.take k) (by rw[nM];omega) (nth zs k);rw[Cr hk] at c1;have w1:=gk (nth zs k).1 0 ((os.length:Int)-1);have w2:=gk (nth zs k).2 0 ((ab.length:Int)-1);have c2:=AE (aP (aL (nth zs k).1 0 ((os.length:Int)-1)&&aL (nth zs k).2 0 ((ab.length:Int)-1)) 6) (aP (!((zs.take k).any λy=>decide ((nth zs k).1=y.1)&&decide ((nth zs k).2=y.2))) 26);rw[fC zs k h8,fQ] at hj;have hE:jG os.length ab.length zs k (nth zs k)=dc [aP (aL (nth zs k).1 0 ((os.length:Int)-1)&&aL (nth zs k).2 0 ((ab.length:Int)-1)) 6,aP (!((zs.take k).any λy=>decide ((nth zs k).1=y.1)&&decide ((nth zs k).2=y.2))) 26]:=rfl;rw[hE] at hj;clear hE;generalize dc [aP (aL (nth zs k).1 0 ((os.length:Int)-1)&&aL (nth zs k).2 0 ((ab.length:Int)-1)) 6,aP (!((zs.take k).any λy=>decide ((nth zs k).1=y.1)&&decide ((nth zs k).2=y.2))) 26]=e at hj c2;have kj:=keep hj;clear hj;unfold Tw.cg at c1;generalize aL (nth zs k).1 0 ((os.length:Int)-1)=g1 at w1 c2;generalize aL (nth zs k).2 0 ((ab.length:Int)-1)=g2 at w2 c2
      cases g1 with
      |true=>
       simp only[fz] at c2
       repeat' first|(with_reducible first|apply aj|apply aI|apply aE|apply av|apply af|refine bm (id:=27) 13 mixed (by decide +kernel) ?_|apply au|refine And.intro ?_ ?_ |  refine cD ?_ ?_|refine cw (c1) ?_|refine cw (c2) ?_|refine cw (w1) ?_|refine cw (w2) ?_|refine cw (eh _ _) ?_|intro _)|(simp[*,h8,Tw.cg])|(refine ar (c1) ?_ ?_;(· (simp[*];done)))|(refine ar (c2) ?_ ?_;(· (simp[*];done)))|(refine ar (w1) ?_ ?_;(· (simp[*];done)))|(refine ar (w2) ?_ ?_;(· (simp[*];done)))|(refine ar (eh _ _) ?_ ?_;(· (simp[*];done)))
       all_goals first
        |omega
        |exact aN (by omega) (by omega)
        |(rename_i hp;rw[ai hp] at kj;exact (b8 kj).1)
        |(rename_i hp;rw[ai hp] at kj;exact (b8 kj).2)
        |(rename_i hp;rw[az hp] at kj;(refine nx (k+1) ?_ ?_;(· exact⟨by omega,kj⟩);(refine aM ?_ ?_<;>first|trivial|(simp[*];done))))
      |false=>
       simp only[iG] at c2
       repeat' first|(with_reducible first|apply aj|apply aI|apply aE|apply av|apply af|refine bm (id:=27) 13 mixed (by decide +kernel) ?_|apply au|refine And.intro ?_ ?_ |  refine cD ?_ ?_|refine cw (c1) ?_|refine cw (c2) ?_|refine cw (w1) ?_|refine cw (eh _ _) ?_|intro _)|(simp[*,h8,Tw.cg])|(refine ar (c1) ?_ ?_;(· (simp[*];done)))|(refine ar (c2) ?_ ?_;(· (simp[*];done)))|(refine ar (w1) ?_ ?_;(· (simp[*];done)))|(refine ar (w2) ?_ ?_;(· (simp[*];done)))|(refine ar (eh _ _) ?_ ?_;(· (simp[*];done)))
       all_goals first
        |omega
        |exact aN (by omega) (by omega)
        |(rename_i hp;rw[ai hp] at kj;exact (b8 kj).1)
        |(rename_i hp;rw[ai hp] at kj;exact (b8 kj).2)
        |(rename_i hp;rw[az hp] at kj;(refine nx (k+1) ?_ ?_;(· exact⟨by omega,kj⟩);(refine aM ?_ ?_<;>first|trivial|(simp[*];done))))
     .have h9:k=zs.length:=by omega
      subst h9;rw[jK] at hj;unfold fQ at hj
      repeat' first|(with_reducible first|apply aj|apply aK|apply af|apply au|intro _)|(simp[*])
      all_goals first
       |omega
       |(refine bN () ?_ ?_;(· exact⟨(b8 hj).1.symm,(b8 hj).2.symm⟩);(refine aM ?_ ?_<;>first|trivial|(simp[*];done)))
    .obtain⟨rfl,rfl⟩:=hf
     repeat' first|(with_reducible first|apply aj|apply av|apply af|intro _)|(simp[*])
   all_goals first
    |(rename_i b1;rw[az b1] at kf;first|exact (b8 kf).1|exact (b8 kf).2)
 all_goals first
  |(rename_i b1;rw[az b1] at kR;first|exact (b8 kR).1|exact (b8 kR).2)
  |(rename_i b1 b2;rw[ai b1,az (by simpa using b2)] at kR;first|exact (b8 kR).1|exact (b8 kR).2)
  |(rename_i b1 b2 b3;rw[ai b1,ai (by simpa using b2),az b3] at kR;first|exact (b8 kR).1|exact (b8 kR).2)
  |(rename_i b1 b2 b3 b4;rw[ai b1,ai (by simpa using b2),ai b3,az (by simpa using b4)] at kR;first|exact (b8 kR).1|exact (b8 kR).2)
  |(rename_i b1 b2 b3 b4 b5;rw[ai b1,ai (by simpa using b2),ai b3,ai (by simpa using b4),az (by simpa using b5)] at kR;first|exact (b8 kR).1|exact (b8 kR).2)
end Go.Proofs.YthpkmilhiganjaaGreat
namespace Go.Proofs.YthpkmilhiganjaaGreat
open Go Go.Fi Go.Fc
noncomputable def ciR(r:Tw.RND):Int:=(g8 r.ab r.os r.wt r.zs).1
noncomputable def ceR(r:Tw.RND):Int:=(g8 r.ab r.os r.wt r.zs).2
theorem chk[ak](r:Tw.RND):aB Tz.prog 55 [Tw.cu r] (.tup [.int .i64 (ciR r),.int .i64 (ceR r)]) true:=
 NY r.ab r.os r.wt r.zs r.dT.2.2.2.1 r.dT.2.2.2.2.1 r.dT.2.2.2.2.2.1 r.dT.2.2.2.2.2.2 r.dT.1 r.dT.2.1 r.dT.2.2.1
theorem AL{α:Type}{E:Nat->α->Int}{l:List α}{k:Nat}{T:Int×Int}(h:(fY E l k T).2=0):fY E l k T=T:=by
 unfold fY at h ⊢;split
 .rename_i h1;rw[az h1] at h;exact absurd h h1
 .rfl
theorem lim(r:Tw.RND)(h:ceR r=0):r.os.length<=1000/\r.zs.length<=64/\r.ab.length<=1000:=by
 unfold ceR g8 at h;split at h
 .simp at h
 split at h
 .rename_i h2;exact absurd h h2
 split at h
 .simp at h
 split at h
 .rename_i h2;exact absurd h h2
 split at h
 .simp at h
 rename_i h1 _ h3 _ _;rw[AL h] at h;unfold g7 at h;split at h
 .simp at h
 rename_i h6;omega
theorem BX:@Tw.oO Tz.prog Tz.xfZ Tz.L0 Tz.nC ciR ceR true:=Tz.BX (λr=>@chk Tz.L0 r) lim
@[reducible] noncomputable def LD:ak:=Tz.L1 ceR
theorem ny(K:iK):@qY Tz.xfZ LD.toEnvD Tz.prog Tryz.prog K:=@Tw.Rq Tz.prog Tz.xfZ Tz.L0 Tz.nC ciR ceR true K BX
theorem qM:@pR Tz.xfZ LD.toEnvD Tz.prog Tryz.prog Tz.nC:=Tz.HP LD.toEnvD (λ_ _ _ _ h=>h.1) (λw t d=>⟨rfl,rfl,aD _,λ_ _=>rfl⟩)
theorem nG(r:Tw.RND):@aB LD Tz.prog 69 [Tw.cu r] (Tw.lB ceR r) false:=Tz.nG ceR r
end Go.Proofs.YthpkmilhiganjaaGreat
namespace Go.Proofs.YthpkmilhiganjaaGreat
open Go Go.Fi
variable[ak]
def de:Nat->Int
 |0=>1000000
 |k+1=>de k*10
@[simp]theorem Yc:de 0=1000000:=rfl
theorem qI(k:Nat)(h:k<=6):0<=de k/\de k<=1000000000000:=by
 obtain rfl|rfl|rfl|rfl|rfl|rfl|rfl:k=0\/k=1\/k=2\/k=3\/k=4\/k=5\/k=6:=by omega
 all_goals decide
theorem rF(p:Nat)(hp:p<=6):aB Tz.prog 116 [.int .i64 p] (.int .i64 (de p)) true:=by
 refine rcK Tz.func116 ?_;simp only[Tryz.results116,Tryz.ntmps116]
 repeat' first|(with_reducible first|apply aj|apply af|intro _)|(simp[*])
 refine eD (λ(k:Nat)=>k<=p) [4] (λ(k:Nat)=>[(5,.w false false (.int .i64 k)),(3,.w false false (.int .i64 (de k)))]) [] (λ(k:Nat)=>[]) (λ(k:Nat)=>p-k) (λ(_u:Unit)=>True) [] (λ(_u:Unit)=>[(3,.w false false (.int .i64 (de p)))]) [] (λ(_u:Unit)=>[]) (0) (aR _) (by simp) (by simp) (λk hk=>?_) (λ_u hf=>?_)
 .by_cases h8:k<p
  .have hb:=qI k (by omega);have e:de (k+1)=de k*10:=rfl;generalize de k=n at hb e
   repeat' first|(with_reducible first|apply aj|apply cT|apply aE|apply af|apply au|refine And.intro ?_ ?_|intro _)|(simp[*,h8])
   all_goals first
    |omega
    |exact aN (by omega) (by omega)
    |(refine nx (k+1) ?_ ?_;(· omega);(refine aM ?_ ?_<;>first|trivial|(simp[*,e];done)))
  .have h9:k=p:=by omega
   subst h9
   repeat' first|(with_reducible first|apply aj|apply aK|apply af|apply au|intro _)|(simp[*])
   all_goals first
    |omega
    |(refine bN () ?_ ?_;(· trivial);(refine aM ?_ ?_<;>first|trivial|(simp[*];done)))
 .repeat' first|(with_reducible first|apply aj|apply av|apply af|intro _)|(simp[*])
end Go.Proofs.YthpkmilhiganjaaGreat
