/- Lemmas. -/
import Derived.Test.YthpkmilhiganjaaGreatPWg
import Derived.Test.YthpkmilhiganjaaGreatPLg
import Derived.Test.YthpkmilhiganjaaGreatPLf
set_option linter.unusedSimpArgs false
set_option linter.unusedVariables false
set_option linter.unusedSectionVars false
set_option maxHeartbeats 32000000
set_option maxRecDepth 100000
namespace Go.Proofs.YthpkmilhiganjaaGreat
open Go Go.Fi
variable[ar]
def aU(ok:Bool)(e:Int):Int:=if ok then 0 else e
theorem cH(ok:Bool)(e:Int):aA Tz.prog 71 [.bool ok,.int .i64 e] (.int .i64 (aU ok e)) true:=by
 refine rcK Tz.func71 ?_;simp only[Tryz.results71,Tryz.ntmps71]
 repeat' (first|(with_reducible first|refine af ?_|refine av ?_|refine az ?_|refine ae ?_|refine ak ?_|refine lI ?_ ?_|intro _)|(simp[*]))
 all_goals simp_all[aU]
theorem mixed:Tz.prog.follows .mixedOrders=true:=by kernel_rfl
def aL(n lo hi:Int):Bool:=decide (lo≤n)&&decide (n≤hi)
theorem dL(n lo hi:Int):aA Tz.prog 72 [.int .i64 n,.int .i64 lo,.int .i64 hi] (.bool (aL n lo hi)) true:=by
 refine rcK Tz.func72 ?_;simp only[Tryz.results72,Tryz.ntmps72]
 repeat' (first|(with_reducible first|refine af ?_|refine az ?_|refine ae ?_|refine tA ?_ ?_|intro _)|(simp[*,aL]))
theorem jm(n lo hi:Int):aA Tz.prog 75 [.int .i64 n,.int .i64 lo,.int .i64 hi] (.bool (aL n lo hi)) true:=by
 refine rcK Tz.func75 ?_;simp only[Tryz.results75,Tryz.ntmps75]
 repeat' (first|(with_reducible first|refine af ?_|refine az ?_|refine ae ?_|refine tA ?_ ?_|intro _)|(simp[*,aL]))
def ints(l:List Int):List PV:=l.map (.int .i64)
@[simp] theorem Kx(l:List Int):(ints l).length=l.length:=by simp[ints]
@[simp] theorem Ky(l:List Int)(k:Nat)(h:k<l.length):cD (ints l) k=.int .i64 (nth l k):=pZ _ l k h
def bL:List Int→Int
 |[]=>0
 |e::r=>if e=0 then bL r else e
theorem b8{α:Type}[Inhabited α](l:List α)(k:Nat)(h:k<l.length):l.drop k=nth l k::l.drop (k+1):=by
 rw[List.drop_eq_getElem_cons h];simp[nth,List.getD_eq_getElem?_getD,List.getElem?_eq_getElem h]
theorem tM(l:List Int)(h:l.length<1000):aA Tz.prog 70 [.sl l.length (ints l)] (.int .i64 (bL l)) true:=by
 refine rcK Tz.func70 ?_;simp only[Tryz.results70,Tryz.ntmps70]
 repeat' (first|(with_reducible first|refine af ?_|refine ae ?_|intro _)|(simp[*]))
 refine tG (fun k:Nat=>k≤l.length∧bL (l.drop k)=bL l) [5,6] (fun k=>[(7,.w false false (.int .i64 k))]) (fun _=>[]) (fun k=>l.length-k)
  (fun _:Unit=>bL l=0) [] (fun _=>[]) (fun _=>[]) 0 ⟨Nat.zero_le _,rfl⟩ (by simp) (by simp) (fun k hk=>?_) (fun _ hf=>?_)
 ·obtain⟨hk,hf⟩:=hk
  repeat' (first|(with_reducible first|refine af ?_|refine aD ?_|refine av ?_|refine az ?_|refine aJ ?_|refine ae ?_|refine ak ?_|refine And.intro ?_ ?_|refine iJ ?_ ?_|refine dO ?_ ?_|intro _)|(simp[*,bL]))
  all_goals first
   |exact aF (by omega) (by omega)
   |omega
   |(rw[←hf,b8 l k (by omega)];simp_all[bL];done)
   |(refine nx (k+1) ?_ ?_;(· refine⟨by omega,?_⟩;rw[←hf,b8 l k (by omega)];simp_all[bL]);(refine aB ?_ ?_<;>first|trivial|(simp[*];done)))
   |(refine aT () ?_ ?_;(· rw[←hf,List.drop_eq_nil_of_le (by omega)];rfl);(refine aB ?_ ?_<;>first|trivial|(simp[*];done)))
 ·repeat' (first|(with_reducible first|refine af ?_|refine az ?_|refine ae ?_|intro _)|(simp[*]))
theorem hZ(a b:Int):aA Tz.prog 70 [.sl 2 [.int .i64 a,.int .i64 b]] (.int .i64 (bL [a,b])) true:=tM [a,b] (Nat.le_of_ble_eq_true rfl)
theorem Dj(a b c:Int):aA Tz.prog 70 [.sl 3 [.int .i64 a,.int .i64 b,.int .i64 c]] (.int .i64 (bL [a,b,c])) true:=tM [a,b,c] (Nat.le_of_ble_eq_true rfl)
theorem VF(a b c d e f:Int):aA Tz.prog 70 [.sl 6 [.int .i64 a,.int .i64 b,.int .i64 c,.int .i64 d,.int .i64 e,.int .i64 f]] (.int .i64 (bL [a,b,c,d,e,f])) true:=tM [a,b,c,d,e,f] (Nat.le_of_ble_eq_true rfl)
def qT(c:Nat):Bool:=decide ((97:Int)≤c)&&decide ((c:Int)≤122) || decide ((65:Int)≤c)&&decide ((c:Int)≤90)
def okB(k c:Nat):Bool:=qT c || !(decide (k=0))&&(decide (c=45) || decide ((48:Int)≤c)&&decide ((c:Int)≤57))
def iY(s:ByteArray):Nat→Bool
 |0=>true
 |k+1=>iY s k&&okB k (qz s k)
theorem yc(s:ByteArray)(k:Nat)(h:okB k (qz s k)=false):∀n,k<n→iY s n=false
 |0,hn=>by omega
 |n+1,hn=>by
  unfold iY;by_cases e:k=n
  ·subst e;simp[h]
  ·rw[yc s k h n (by omega)];rfl
def dH(s:ByteArray):Bool:=iY s s.size&&decide (s.size≠0)&&decide (s.size≤12)
theorem Dk{s:ByteArray}(h:s.size=0):dH s=false:=by simp[dH,h]
theorem Kz{s:ByteArray}(h:12<s.size):dH s=false:=by simp[dH];intros;omega
theorem Dl{s:ByteArray}(h:iY s s.size=true)(h0:s.size≠0):dH s=decide (s.size≤12):=by simp[dH,h,h0]
theorem Dm(s:ByteArray)(hs:s.size<1000000):aA Tz.prog 130 [.str s] (.bool (dH s)) true:=by
 refine rcK Tz.func130 ?_;simp only[Tryz.results130,Tryz.ntmps130]
 repeat' (first|(with_reducible first|refine af ?_|refine ae ?_|intro _)|(simp[*]))
 refine tG (fun k:Nat=>k≤s.size∧iY s k=true) [0,7,8] (fun k=>[(9,.w false false (.int .i64 k))]) (fun _=>[]) (fun k=>s.size-k)
  (fun _:Unit=>iY s s.size=true) [0] (fun _=>[]) (fun _=>[]) 0 ⟨Nat.zero_le _,rfl⟩ (by simp) (by simp) (fun k hk=>?_) (fun _ hf=>?_)
 ·obtain⟨hk,hf⟩:=hk
  repeat' (first|(with_reducible first|refine af ?_|refine aD ?_|refine av ?_|refine az ?_|refine aJ ?_|refine ae ?_|refine ak ?_|refine And.intro ?_ ?_|refine tB ?_ ?_|refine tA ?_ ?_|refine dO ?_ ?_|intro _)|(simp[*]))
  all_goals first
   |exact aF (by omega) (by omega)
   |omega
   |(refine nx (k+1) ?_ ?_;(· refine⟨by omega,?_⟩;unfold iY;rw[hf];clear hf;simp[okB,qT] at *;omega);(refine aB ?_ ?_<;>first|trivial|(simp[*];done)))
   |(refine aT () ?_ ?_;(· rw[show s.size=k by omega];exact hf);(refine aB ?_ ?_<;>first|trivial|(simp[*];done)))
   |(unfold dH;rw[yc s k (by clear hf;simp[okB,qT] at *;omega) s.size (by omega)];rfl)
 ·repeat' (first|(with_reducible first|refine af ?_|refine az ?_|refine ae ?_|refine tB ?_ ?_|intro _)|(simp[*]))
  ·rename_i h0
   have h0':s≠{ data:=#[] }:=by simpa using h0
   rw[Dl hf (fun h=>h0' ((CJ s).2 h))];simp;omega
  ·rename_i h0;rw[Dk ((CJ s).1 (by have h1:s = { data:=#[] }:=by simpa using h0
                                   exact h1))]
abbrev Car:=ByteArray×Int×Bool
abbrev Ord:=ByteArray×Int×Bool×Int
abbrev Par:=Int×Int
def aQ(l:List Car):List PV:=l.flatMap Tw.cj
@[simp] theorem VG(l:List Car):(aQ l).length=l.length*3:=pY Tw.cj 3 (fun _=>rfl) l
@[simp] theorem VH(l:List Car)(k:Nat)(h:k<l.length):((aQ l).drop (k*3)).take 3=Tw.cj (nth l k):=tF Tw.cj 3 (fun _=>rfl) l k h
@[simp] theorem VI(l:List Car)(k:Nat)(h:k<l.length):cD (aQ l) (k*3)=.str (nth l k).1:=jj Tw.cj 3 (fun _=>rfl) l k 0 h (by omega)
@[simp] theorem VJ(l:List Car)(k:Nat)(h:k<l.length):cD (aQ l) (k*3+1)=.int .i64 (nth l k).2.1:=jj Tw.cj 3 (fun _=>rfl) l k 1 h (by omega)
@[simp] theorem VK(l:List Car)(k:Nat)(h:k<l.length):cD (aQ l) (k*3+2)=.bool (nth l k).2.2:=jj Tw.cj 3 (fun _=>rfl) l k 2 h (by omega)
def aP(l:List Ord):List PV:=l.flatMap Tw.bG
@[simp] theorem VL(l:List Ord):(aP l).length=l.length*4:=pY Tw.bG 4 (fun _=>rfl) l
@[simp] theorem VM(l:List Ord)(k:Nat)(h:k<l.length):((aP l).drop (k*4)).take 4=Tw.bG (nth l k):=tF Tw.bG 4 (fun _=>rfl) l k h
@[simp] theorem VN(l:List Ord)(k:Nat)(h:k<l.length):cD (aP l) (k*4)=.str (nth l k).1:=jj Tw.bG 4 (fun _=>rfl) l k 0 h (by omega)
@[simp] theorem VO(l:List Ord)(k:Nat)(h:k<l.length):cD (aP l) (k*4+1)=.int .i64 (nth l k).2.1:=jj Tw.bG 4 (fun _=>rfl) l k 1 h (by omega)
@[simp] theorem VP(l:List Ord)(k:Nat)(h:k<l.length):cD (aP l) (k*4+2)=.bool (nth l k).2.2.1:=jj Tw.bG 4 (fun _=>rfl) l k 2 h (by omega)
@[simp] theorem VQ(l:List Ord)(k:Nat)(h:k<l.length):cD (aP l) (k*4+3)=.int .i64 (nth l k).2.2.2:=jj Tw.bG 4 (fun _=>rfl) l k 3 h (by omega)
def aS(l:List Par):List PV:=l.flatMap Tw.bH
@[simp] theorem VR(l:List Par):(aS l).length=l.length*2:=pY Tw.bH 2 (fun _=>rfl) l
@[simp] theorem VS(l:List Par)(k:Nat)(h:k<l.length):((aS l).drop (k*2)).take 2=Tw.bH (nth l k):=tF Tw.bH 2 (fun _=>rfl) l k h
@[simp] theorem VT(l:List Par)(k:Nat)(h:k<l.length):cD (aS l) (k*2)=.int .i64 (nth l k).1:=jj Tw.bH 2 (fun _=>rfl) l k 0 h (by omega)
@[simp] theorem VU(l:List Par)(k:Nat)(h:k<l.length):cD (aS l) (k*2+1)=.int .i64 (nth l k).2:=jj Tw.bH 2 (fun _=>rfl) l k 1 h (by omega)
theorem yd(n:Int):aA Tz.prog 102 [.int .i64 n] (.bool (aL n 1 8)) true:=by
 refine rcK Tz.func102 ?_;simp only[Tryz.results102,Tryz.ntmps102]
 repeat' (first|(with_reducible first|refine af ?_|refine az ?_|refine ae ?_|refine And.intro ?_ ?_|refine cw (dL _ _ _) ?_|intro _)|(simp[*])|(refine ai (dL _ _ _) ?_ ?_;(· (simp[*];done))))
theorem ye(x:Car):aA Tz.prog 100 [.agg (Tw.cj x)] (.str x.1) true:=by
 unfold Tw.cj;refine rcK Tz.func100 ?_;simp only[Tryz.results100,Tryz.ntmps100]
 repeat' (first|(with_reducible first|refine af ?_|refine az ?_|refine ae ?_|intro _)|(simp[*]))
theorem yf(x:Ord):aA Tz.prog 104 [.agg (Tw.bG x)] (.str x.1) true:=by
 unfold Tw.bG;refine rcK Tz.func104 ?_;simp only[Tryz.results104,Tryz.ntmps104]
 repeat' (first|(with_reducible first|refine af ?_|refine az ?_|refine ae ?_|intro _)|(simp[*]))
def dI(x:Car):Int:=aU (aL x.2.1 1 8) 2
theorem KA(i:Int)(x:Car):aA Tz.prog 101 [.int .i64 i,.agg (Tw.cj x)] (.int .i64 (dI x)) true:=by
 unfold Tw.cj dI;refine rcK Tz.func101 ?_;simp only[Tryz.results101,Tryz.ntmps101]
 repeat' (first|(with_reducible first|refine af ?_|refine az ?_|refine ae ?_|refine And.intro ?_ ?_|refine cw (yd _) ?_|refine cw (cH _ _) ?_|intro _)|(simp[*])|(refine ai (yd _) ?_ ?_;(· (simp[*];done)))|(refine ai (cH _ _) ?_ ?_;(· (simp[*];done))))
def dj(x:Ord):Int:=aU (aL x.2.1 1 8&&aL x.2.2.2 0 6) 2
theorem KB(i:Int)(x:Ord):aA Tz.prog 105 [.int .i64 i,.agg (Tw.bG x)] (.int .i64 (dj x)) true:=by
 unfold Tw.bG dj;have c1:=yd x.2.1;generalize aL x.2.1 1 8=b at c1 ⊢
 cases b with
 |true=>
  refine rcK Tz.func105 ?_;simp only[Tryz.results105,Tryz.ntmps105]
  repeat' (first|(with_reducible first|refine af ?_|refine az ?_|refine ae ?_|refine And.intro ?_ ?_|refine cw (c1) ?_|refine cw (dL _ _ _) ?_|refine cw (cH _ _) ?_|intro _)|(simp[*])|(refine ai (c1) ?_ ?_;(· (simp[*];done)))|(refine ai (dL _ _ _) ?_ ?_;(· (simp[*];done)))|(refine ai (cH _ _) ?_ ?_;(· (simp[*];done))))
 |false=>
  refine rcK Tz.func105 ?_;simp only[Tryz.results105,Tryz.ntmps105]
  repeat' (first|(with_reducible first|refine af ?_|refine az ?_|refine ae ?_|refine And.intro ?_ ?_|refine cw (c1) ?_|refine cw (cH _ _) ?_|intro _)|(simp[*])|(refine ai (c1) ?_ ?_;(· (simp[*];done)))|(refine ai (dL _ _ _) ?_ ?_;(· (simp[*];done)))|(refine ai (cH _ _) ?_ ?_;(· (simp[*];done))))
theorem KC(x:Int):aA Tz.prog 106 [.int .i64 x] (.bool (!aL x 0 100000)) true:=by
 refine rcK Tz.func106 ?_;simp only[Tryz.results106,Tryz.ntmps106]
 repeat' (first|(with_reducible first|refine af ?_|refine az ?_|refine ae ?_|refine And.intro ?_ ?_|refine cw (dL _ _ _) ?_|intro _)|(simp[*])|(refine ai (dL _ _ _) ?_ ?_;(· (simp[*];done))))
def aI(p:Prop):Prop:=p
theorem keep{p:Prop}(h:p):aI p:=h
def dJ{α:Type}(p:α→Bool):List α→Nat→Int
 |[],_=>-1
 |x::r,i=>if p x=true then (i:Int) else dJ p r (i+1)
def idxOf{α:Type}(p:α→Bool)(l:List α):Int:=dJ p l 0
theorem Dn{α:Type}(p:α→Bool):∀(l:List α)(i:Nat),decide (0≤dJ p l i)=l.any p
 |[],i=>rfl
 |x::r,i=>by
  unfold dJ
  cases h:p x with
  |true=>simp[h]
  |false=>simp[h];have:=Dn p r (i+1);simpa using this
theorem oB{α:Type}(p:α→Bool)(l:List α):decide (0≤idxOf p l)=l.any p:=Dn p l 0
theorem KD(l:List Int)(hl:l.length<100000)(g:FuncId)(aE:List PV)(p:Int→Bool)(h:∀x,aA Tz.prog g (.int .i64 x::aE) (.bool (p x)) true):aA Tz.prog 124 [.sl l.length (ints l),.fn g aE] (.int .i64 (idxOf p l)) true:=by
 generalize hR:idxOf p l=R;have kR:aI (dJ p l 0=R):=keep hR;clear hR;refine rcK Tz.func124 ?_;simp only[Tryz.results124,Tryz.ntmps124]
 repeat' (first|(with_reducible first|refine af ?_|refine ae ?_|intro _)|(simp[*]))
 refine bF (fun(k:Nat)=>k≤l.length∧dJ p (l.drop k) k=R) [0,1,7] (fun(k:Nat)=>[(8,.w false false (.int .i64 k))]) [] (fun(k:Nat)=>[]) (fun(k:Nat)=>l.length-k) (fun(_u:Unit)=>R=-1) [] (fun(_u:Unit)=>[]) [] (fun(_u:Unit)=>[]) (0) ⟨Nat.zero_le _,kR⟩ (by simp) (by simp) (fun k hk=>?_) (fun _u hf=>?_)
 ·obtain⟨hk,hj⟩:=hk;by_cases hlt:k<l.length
  ·have c1:=h (nth l k);have hj':=hj;rw[b8 l k hlt] at hj';unfold dJ at hj';have kj:=keep hj';clear hj hj' h
   repeat' (first|(with_reducible first|refine af ?_|refine aD ?_|refine av ?_|refine az ?_|refine ae ?_|refine ak ?_|refine And.intro ?_ ?_|refine lI ?_ ?_|refine cw (c1) ?_|intro _)|(simp[*,hlt])|(refine ai (c1) ?_ ?_;(· (simp[*];done))))
   all_goals first
    |exact aF (by omega) (by omega)
    |omega
    |(rename_i hp;rw[if_pos hp] at kj;exact kj)
    |(rename_i hp;rw[if_neg (by rw[hp];decide)] at kj;(refine nx (k+1) ?_ ?_;(· exact⟨by omega,kj⟩);(refine aB ?_ ?_<;>first|trivial|(simp[*];done))))
    |skip
  ·have hke:k=l.length:=by omega
   subst hke
   repeat' (first|(with_reducible first|refine af ?_|refine aJ ?_|refine ae ?_|refine ak ?_|intro _)|(simp[*]))
   all_goals (refine aT () ?_ ?_;(· rw[←hj,List.drop_length];rfl);(refine aB ?_ ?_<;>first|trivial|(simp[*];done)))
 ·subst hf
  repeat' (first|(with_reducible first|refine af ?_|refine az ?_|refine ae ?_|intro _)|(simp[*]))
theorem KE(l:List Int)(hl:l.length<100000)(g:FuncId)(aE:List PV)(p:Int→Bool)(h:∀x,aA Tz.prog g (.int .i64 x::aE) (.bool (p x)) true):aA Tz.prog 93 [.sl l.length (ints l),.fn g aE] (.bool (l.any p)) true:=by
 have c1:=KD l hl g aE p h;have h:=oB p l;generalize idxOf p l=i at *;rw[←h];clear h;refine rcK Tz.func93 ?_;simp only[Tryz.results93,Tryz.ntmps93]
 repeat' (first|(with_reducible first|refine af ?_|refine az ?_|refine ae ?_|refine And.intro ?_ ?_|refine cw (c1) ?_|intro _)|(simp[*])|(refine ai (c1) ?_ ?_;(· (simp[*];done))))
theorem KF(l:List Car)(hl:l.length<100000)(g:FuncId)(aE:List PV)(p:Car→Bool)(h:∀x,aA Tz.prog g (.agg (Tw.cj x)::aE) (.bool (p x)) true):aA Tz.prog 167 [.sl l.length (aQ l),.fn g aE] (.int .i64 (idxOf p l)) true:=by
 generalize hR:idxOf p l=R;have kR:aI (dJ p l 0=R):=keep hR;clear hR;refine rcK Tz.func167 ?_;simp only[Tryz.results167,Tryz.ntmps167]
 repeat' (first|(with_reducible first|refine af ?_|refine ae ?_|intro _)|(simp[*]))
 refine bF (fun(k:Nat)=>k≤l.length∧dJ p (l.drop k) k=R) [0,1,7] (fun(k:Nat)=>[(8,.w false false (.int .i64 k))]) [] (fun(k:Nat)=>[]) (fun(k:Nat)=>l.length-k) (fun(_u:Unit)=>R=-1) [] (fun(_u:Unit)=>[]) [] (fun(_u:Unit)=>[]) (0) ⟨Nat.zero_le _,kR⟩ (by simp) (by simp) (fun k hk=>?_) (fun _u hf=>?_)
 ·obtain⟨hk,hj⟩:=hk;by_cases hlt:k<l.length
  ·have c1:=h (nth l k);have hj':=hj;rw[b8 l k hlt] at hj';unfold dJ at hj';have kj:=keep hj';clear hj hj' h
   repeat' (first|(with_reducible first|refine af ?_|refine aD ?_|refine av ?_|refine az ?_|refine ae ?_|refine ak ?_|refine And.intro ?_ ?_|refine lI ?_ ?_|refine cw (c1) ?_|intro _)|(simp[*,hlt])|(refine ai (c1) ?_ ?_;(· (simp[*];done))))
   all_goals first
    |exact aF (by omega) (by omega)
    |omega
    |(rename_i hp;rw[if_pos hp] at kj;exact kj)
    |(rename_i hp;rw[if_neg (by rw[hp];decide)] at kj;(refine nx (k+1) ?_ ?_;(· exact⟨by omega,kj⟩);(refine aB ?_ ?_<;>first|trivial|(simp[*];done))))
    |skip
  ·have hke:k=l.length:=by omega
   subst hke
   repeat' (first|(with_reducible first|refine af ?_|refine aJ ?_|refine ae ?_|refine ak ?_|intro _)|(simp[*]))
   all_goals (refine aT () ?_ ?_;(· rw[←hj,List.drop_length];rfl);(refine aB ?_ ?_<;>first|trivial|(simp[*];done)))
 ·subst hf
  repeat' (first|(with_reducible first|refine af ?_|refine az ?_|refine ae ?_|intro _)|(simp[*]))
theorem KG(l:List Car)(hl:l.length<100000)(g:FuncId)(aE:List PV)(p:Car→Bool)(h:∀x,aA Tz.prog g (.agg (Tw.cj x)::aE) (.bool (p x)) true):aA Tz.prog 128 [.sl l.length (aQ l),.fn g aE] (.bool (l.any p)) true:=by
 have c1:=KF l hl g aE p h;have h:=oB p l;generalize idxOf p l=i at *;rw[←h];clear h;refine rcK Tz.func128 ?_;simp only[Tryz.results128,Tryz.ntmps128]
 repeat' (first|(with_reducible first|refine af ?_|refine az ?_|refine ae ?_|refine And.intro ?_ ?_|refine cw (c1) ?_|intro _)|(simp[*])|(refine ai (c1) ?_ ?_;(· (simp[*];done))))
theorem KH(l:List Ord)(hl:l.length<100000)(g:FuncId)(aE:List PV)(p:Ord→Bool)(h:∀x,aA Tz.prog g (.agg (Tw.bG x)::aE) (.bool (p x)) true):aA Tz.prog 168 [.sl l.length (aP l),.fn g aE] (.int .i64 (idxOf p l)) true:=by
 generalize hR:idxOf p l=R;have kR:aI (dJ p l 0=R):=keep hR;clear hR;refine rcK Tz.func168 ?_;simp only[Tryz.results168,Tryz.ntmps168]
 repeat' (first|(with_reducible first|refine af ?_|refine ae ?_|intro _)|(simp[*]))
 refine bF (fun(k:Nat)=>k≤l.length∧dJ p (l.drop k) k=R) [0,1,7] (fun(k:Nat)=>[(8,.w false false (.int .i64 k))]) [] (fun(k:Nat)=>[]) (fun(k:Nat)=>l.length-k) (fun(_u:Unit)=>R=-1) [] (fun(_u:Unit)=>[]) [] (fun(_u:Unit)=>[]) (0) ⟨Nat.zero_le _,kR⟩ (by simp) (by simp) (fun k hk=>?_) (fun _u hf=>?_)
 ·obtain⟨hk,hj⟩:=hk;by_cases hlt:k<l.length
  ·have c1:=h (nth l k);have hj':=hj;rw[b8 l k hlt] at hj';unfold dJ at hj';have kj:=keep hj';clear hj hj' h
   repeat' (first|(with_reducible first|refine af ?_|refine aD ?_|refine av ?_|refine az ?_|refine ae ?_|refine ak ?_|refine And.intro ?_ ?_|refine lI ?_ ?_|refine cw (c1) ?_|intro _)|(simp[*,hlt])|(refine ai (c1) ?_ ?_;(· (simp[*];done))))
   all_goals first
    |exact aF (by omega) (by omega)
    |omega
    |(rename_i hp;rw[if_pos hp] at kj;exact kj)
    |(rename_i hp;rw[if_neg (by rw[hp];decide)] at kj;(refine nx (k+1) ?_ ?_;(· exact⟨by omega,kj⟩);(refine aB ?_ ?_<;>first|trivial|(simp[*];done))))
    |skip
  ·have hke:k=l.length:=by omega
   subst hke
   repeat' (first|(with_reducible first|refine af ?_|refine aJ ?_|refine ae ?_|refine ak ?_|intro _)|(simp[*]))
   all_goals (refine aT () ?_ ?_;(· rw[←hj,List.drop_length];rfl);(refine aB ?_ ?_<;>first|trivial|(simp[*];done)))
 ·subst hf
  repeat' (first|(with_reducible first|refine af ?_|refine az ?_|refine ae ?_|intro _)|(simp[*]))
theorem KI(l:List Ord)(hl:l.length<100000)(g:FuncId)(aE:List PV)(p:Ord→Bool)(h:∀x,aA Tz.prog g (.agg (Tw.bG x)::aE) (.bool (p x)) true):aA Tz.prog 131 [.sl l.length (aP l),.fn g aE] (.bool (l.any p)) true:=by
 have c1:=KH l hl g aE p h;have h:=oB p l;generalize idxOf p l=i at *;rw[←h];clear h;refine rcK Tz.func131 ?_;simp only[Tryz.results131,Tryz.ntmps131]
 repeat' (first|(with_reducible first|refine af ?_|refine az ?_|refine ae ?_|refine And.intro ?_ ?_|refine cw (c1) ?_|intro _)|(simp[*])|(refine ai (c1) ?_ ?_;(· (simp[*];done))))
theorem KJ(x y:Car):aA Tz.prog 129 [.agg (Tw.cj y),.ip [.fn 100 []] 0,.ip (Tw.cj x) 0] (.bool (decide (y.1=x.1))) true:=by
 have c1:=ye y;have c2:=ye x;unfold Tw.cj at *;refine rcK Tz.func129 ?_;simp only[Tryz.results129,Tryz.ntmps129]
 repeat' (first|(with_reducible first|refine af ?_|refine az ?_|refine ae ?_|refine aK (id:=1) 8 mixed (by decide +kernel) ?_|refine And.intro ?_ ?_|refine cw (c1) ?_|refine cw (c2) ?_|intro _)|(simp[*])|(refine ai (c1) ?_ ?_;(· (simp[*];done)))|(refine ai (c2) ?_ ?_;(· (simp[*];done))))
theorem KL(x y:Ord):aA Tz.prog 132 [.agg (Tw.bG y),.ip [.fn 104 []] 0,.ip (Tw.bG x) 0] (.bool (decide (y.1=x.1))) true:=by
 have c1:=yf y;have c2:=yf x;unfold Tw.bG at *;refine rcK Tz.func132 ?_;simp only[Tryz.results132,Tryz.ntmps132]
 repeat' (first|(with_reducible first|refine af ?_|refine az ?_|refine ae ?_|refine aK (id:=1) 8 mixed (by decide +kernel) ?_|refine And.intro ?_ ?_|refine cw (c1) ?_|refine cw (c2) ?_|intro _)|(simp[*])|(refine ai (c1) ?_ ?_;(· (simp[*];done)))|(refine ai (c2) ?_ ?_;(· (simp[*];done))))
def fE{α:Type}(nm:α→ByteArray)(mr:α→Int)(l:List α)(k:Nat)(x:α):Int:=bL [aU (dH (nm x)) 4,aU (!(l.take k).any (fun y=>decide (nm y=nm x))) 5,mr x]
def dB{α:Type}(nm:α→ByteArray)(mr:α→Int)(l:List α):List α→Nat→Int×Int
 |[],_=>(0,0)
 |x::r,k=>if fE nm mr l k x=0 then dB nm mr l r (k+1) else (k,fE nm mr l k x)
def eU{α:Type}(nm:α→ByteArray)(mr:α→Int)(l:List α):Int×Int:=dB nm mr l l 0
@[simp] theorem VV(l:List Car)(k:Nat):(aQ l).take (k*3)=aQ (l.take k):=by
 induction l generalizing k with
 |nil=>simp[aQ]
 |cons x r ih=>
  cases k with
  |zero=>simp[aQ]
  |succ k=>
   have e:aQ (x::r)=Tw.cj x++aQ r:=rfl;rw[e,List.take_succ_cons,show aQ (x::r.take k)=Tw.cj x++aQ (r.take k) from rfl,←ih,Nat.add_mul,List.take_append];simp[Tw.cj]
@[simp] theorem VW(l:List Ord)(k:Nat):(aP l).take (k*4)=aP (l.take k):=by
 induction l generalizing k with
 |nil=>simp[aP]
 |cons x r ih=>
  cases k with
  |zero=>simp[aP]
  |succ k=>
   have e:aP (x::r)=Tw.bG x++aP r:=rfl;rw[e,List.take_succ_cons,show aP (x::r.take k)=Tw.bG x++aP (r.take k) from rfl,←ih,Nat.add_mul,List.take_append];simp[Tw.bG]
theorem KM(l:List Car)(hl:l.length<100000)(hs:∀x∈l,x.1.size<1000000):aA Tz.prog 99 [.sl l.length (aQ l),.fn 100 [],.fn 101 []] (.tup [.int .i64 (eU Prod.fst dI l).1,.int .i64 (eU Prod.fst dI l).2]) true:=by
 generalize hR:eU Prod.fst dI l=R;obtain⟨R1,R2⟩:=R;have kR:aI (dB Prod.fst dI l l 0=(R1,R2)):=keep hR;clear hR;refine rcK Tz.func99 ?_;simp only[Tryz.results99,Tryz.ntmps99]
 repeat' (first|(with_reducible first|refine af ?_|refine ae ?_|intro _)|(simp[*]))
 refine bF (fun(k:Nat)=>k≤l.length∧dB Prod.fst dI l (l.drop k) k=(R1,R2)) [0,2,4,12,13] (fun(k:Nat)=>[(14,.w false false (.int .i64 k))]) [0] (fun(k:Nat)=>[]) (fun(k:Nat)=>l.length-k) (fun(_u:Unit)=>R1=0∧R2=0) [] (fun(_u:Unit)=>[]) [0] (fun(_u:Unit)=>[]) (0) ⟨Nat.zero_le _,kR⟩ (by simp) (by simp) (fun k hk=>?_) (fun _u hf=>?_)
 ·obtain⟨hk,hj⟩:=hk;by_cases hlt:k<l.length
  ·have c1:=KG (l.take k) (by rw[List.length_take];omega) 129 [.ip [.fn 100 []] 0,.ip (Tw.cj (nth l k)) 0] (fun y=>decide (y.1=(nth l k).1)) (fun y=>KJ (nth l k) y);rw[List.length_take_of_le hk] at c1;have c2:=Dm (nth l k).1 (hs _ (ew hlt));have c3:=ye (nth l k);have c4:=KA k (nth l k);have c5:=Dj (aU (dH (nth l k).1) 4) (aU (!(l.take k).any (fun y=>decide (y.1=(nth l k).1))) 5) (dI (nth l k));have hj':=hj;rw[b8 l k hlt] at hj';unfold dB fE at hj';generalize bL [aU (dH (nth l k).1) 4,aU (!(l.take k).any (fun y=>decide (y.1=(nth l k).1))) 5,dI (nth l k)]=e at hj' c5;have kj:=keep hj';clear hj hj' hs;unfold Tw.cj at c1 c3 c4
   repeat' (first|(with_reducible first|refine af ?_|refine aD ?_|refine av ?_|refine az ?_|refine ae ?_|refine aK (id:=5) 15 mixed (by decide +kernel) ?_|refine ak ?_|refine And.intro ?_ ?_ |  refine iJ ?_ ?_|refine cw (c1) ?_|refine cw (c2) ?_|refine cw (c3) ?_|refine cw (c4) ?_|refine cw (cH _ _) ?_|refine cw (c5) ?_|intro _)|(simp[*,hlt,Tw.cj])|(refine ai (c1) ?_ ?_;(· (simp[*];done)))|(refine ai (c2) ?_ ?_;(· (simp[*];done)))|(refine ai (c3) ?_ ?_;(· (simp[*];done)))|(refine ai (c4) ?_ ?_;(· (simp[*];done)))|(refine ai (cH _ _) ?_ ?_;(· (simp[*];done)))|(refine ai (c5) ?_ ?_;(· (simp[*];done))))
   all_goals first
    |omega
    |exact aF (by omega) (by omega)
    |(rename_i hp;rw[if_neg hp] at kj;exact (Prod.mk.inj kj).1)
    |(rename_i hp;rw[if_neg hp] at kj;exact (Prod.mk.inj kj).2)
    |(rename_i hp;rw[if_pos hp] at kj;(refine nx (k+1) ?_ ?_;(· exact⟨by omega,kj⟩);(refine aB ?_ ?_<;>first|trivial|(simp[*];done))))
  ·have hke:k=l.length:=by omega
   subst hke;rw[List.drop_length] at hj;unfold dB at hj
   repeat' (first|(with_reducible first|refine af ?_|refine aJ ?_|refine ae ?_|refine ak ?_|intro _)|(simp[*]))
   all_goals (refine aT () ?_ ?_;(· exact⟨(Prod.mk.inj hj).1.symm,(Prod.mk.inj hj).2.symm⟩);(refine aB ?_ ?_<;>first|trivial|(simp[*];done)))
 ·obtain⟨rfl,rfl⟩:=hf
  repeat' (first|(with_reducible first|refine af ?_|refine az ?_|refine ae ?_|intro _)|(simp[*]))
theorem KN(l:List Ord)(hl:l.length<100000)(hs:∀x∈l,x.1.size<1000000):aA Tz.prog 103 [.sl l.length (aP l),.fn 104 [],.fn 105 []] (.tup [.int .i64 (eU Prod.fst dj l).1,.int .i64 (eU Prod.fst dj l).2]) true:=by
 generalize hR:eU Prod.fst dj l=R;obtain⟨R1,R2⟩:=R;have kR:aI (dB Prod.fst dj l l 0=(R1,R2)):=keep hR;clear hR;refine rcK Tz.func103 ?_;simp only[Tryz.results103,Tryz.ntmps103]
 repeat' (first|(with_reducible first|refine af ?_|refine ae ?_|intro _)|(simp[*]))
 refine bF (fun(k:Nat)=>k≤l.length∧dB Prod.fst dj l (l.drop k) k=(R1,R2)) [0,2,4,12,13] (fun(k:Nat)=>[(14,.w false false (.int .i64 k))]) [0] (fun(k:Nat)=>[]) (fun(k:Nat)=>l.length-k) (fun(_u:Unit)=>R1=0∧R2=0) [] (fun(_u:Unit)=>[]) [0] (fun(_u:Unit)=>[]) (0) ⟨Nat.zero_le _,kR⟩ (by simp) (by simp) (fun k hk=>?_) (fun _u hf=>?_)
 ·obtain⟨hk,hj⟩:=hk;by_cases hlt:k<l.length
  ·have c1:=KI (l.take k) (by rw[List.length_take];omega) 132 [.ip [.fn 104 []] 0,.ip (Tw.bG (nth l k)) 0] (fun y=>decide (y.1=(nth l k).1)) (fun y=>KL (nth l k) y);rw[List.length_take_of_le hk] at c1;have c2:=Dm (nth l k).1 (hs _ (ew hlt));have c3:=yf (nth l k);have c4:=KB k (nth l k);have c5:=Dj (aU (dH (nth l k).1) 4) (aU (!(l.take k).any (fun y=>decide (y.1=(nth l k).1))) 5) (dj (nth l k));have hj':=hj;rw[b8 l k hlt] at hj';unfold dB fE at hj';generalize bL [aU (dH (nth l k).1) 4,aU (!(l.take k).any (fun y=>decide (y.1=(nth l k).1))) 5,dj (nth l k)]=e at hj' c5;have kj:=keep hj';clear hj hj' hs;unfold Tw.bG at c1 c3 c4
   repeat' (first|(with_reducible first|refine af ?_|refine aD ?_|refine av ?_|refine az ?_|refine ae ?_|refine aK (id:=5) 15 mixed (by decide +kernel) ?_|refine ak ?_|refine And.intro ?_ ?_ |  refine iJ ?_ ?_|refine cw (c1) ?_|refine cw (c2) ?_|refine cw (c3) ?_|refine cw (c4) ?_|refine cw (cH _ _) ?_|refine cw (c5) ?_|intro _)|(simp[*,hlt,Tw.bG])|(refine ai (c1) ?_ ?_;(· (simp[*];done)))|(refine ai (c2) ?_ ?_;(· (simp[*];done)))|(refine ai (c3) ?_ ?_;(· (simp[*];done)))|(refine ai (c4) ?_ ?_;(· (simp[*];done)))|(refine ai (cH _ _) ?_ ?_;(· (simp[*];done)))|(refine ai (c5) ?_ ?_;(· (simp[*];done))))
   all_goals first
    |omega
    |exact aF (by omega) (by omega)
    |(rename_i hp;rw[if_neg hp] at kj;exact (Prod.mk.inj kj).1)
    |(rename_i hp;rw[if_neg hp] at kj;exact (Prod.mk.inj kj).2)
    |(rename_i hp;rw[if_pos hp] at kj;(refine nx (k+1) ?_ ?_;(· exact⟨by omega,kj⟩);(refine aB ?_ ?_<;>first|trivial|(simp[*];done))))
  ·have hke:k=l.length:=by omega
   subst hke;rw[List.drop_length] at hj;unfold dB at hj
   repeat' (first|(with_reducible first|refine af ?_|refine aJ ?_|refine ae ?_|refine ak ?_|intro _)|(simp[*]))
   all_goals (refine aT () ?_ ?_;(· exact⟨(Prod.mk.inj hj).1.symm,(Prod.mk.inj hj).2.symm⟩);(refine aB ?_ ?_<;>first|trivial|(simp[*];done)))
 ·obtain⟨rfl,rfl⟩:=hf
  repeat' (first|(with_reducible first|refine af ?_|refine az ?_|refine ae ?_|intro _)|(simp[*]))
theorem KO(l:List Par)(hl:l.length<100000)(v:Par):aA Tz.prog 133 [.sl l.length (aS l),.agg (Tw.bH v)] (.int .i64 (idxOf (fun y=>decide (v.1=y.1)&&decide (v.2=y.2)) l)) true:=by
 generalize hR:idxOf (fun y=>decide (v.1=y.1)&&decide (v.2=y.2)) l=R;have kR:aI (dJ (fun y=>decide (v.1=y.1)&&decide (v.2=y.2)) l 0=R):=keep hR;clear hR;obtain⟨v1,v2⟩:=v;simp only[Tw.bH];refine rcK Tz.func133 ?_;simp only[Tryz.results133,Tryz.ntmps133]
 repeat' (first|(with_reducible first|refine af ?_|refine ae ?_|intro _)|(simp[*]))
 refine bF (fun(k:Nat)=>k≤l.length∧dJ (fun y=>decide (v1=y.1)&&decide (v2=y.2)) (l.drop k) k=R) [0,3,7] (fun(k:Nat)=>[(8,.w false false (.int .i64 k))]) [0] (fun(k:Nat)=>[]) (fun(k:Nat)=>l.length-k) (fun(_u:Unit)=>R=-1) [] (fun(_u:Unit)=>[]) [0] (fun(_u:Unit)=>[]) (0) ⟨Nat.zero_le _,kR⟩ (by simp) (by simp) (fun k hk=>?_) (fun _u hf=>?_)
 ·obtain⟨hk,hj⟩:=hk;by_cases hlt:k<l.length
  ·have hj':=hj;rw[b8 l k hlt] at hj';unfold dJ at hj';have kj:=keep hj';clear hj hj'
   repeat' (first|(with_reducible first|refine af ?_|refine aD ?_|refine av ?_|refine az ?_|refine ae ?_|refine aK (id:=4) 6 mixed (by decide +kernel) ?_|refine ak ?_|refine And.intro ?_ ?_|refine lI ?_ ?_|intro _)|(simp[*,hlt,Tw.bH]))
   all_goals first
    |omega
    |exact aF (by omega) (by omega)
    |(rename_i hp;rw[if_pos (by simpa using hp)] at kj;exact kj)
    |(rename_i hp;rw[if_neg (by simpa using hp)] at kj;(refine nx (k+1) ?_ ?_;(· exact⟨by omega,kj⟩);(refine aB ?_ ?_<;>first|trivial|(simp[*];done))))
  ·have hke:k=l.length:=by omega
   subst hke
   repeat' (first|(with_reducible first|refine af ?_|refine aJ ?_|refine ae ?_|refine ak ?_|intro _)|(simp[*]))
   all_goals (refine aT () ?_ ?_;(· rw[←hj,List.drop_length];rfl);(refine aB ?_ ?_<;>first|trivial|(simp[*];done)))
 ·subst hf
  repeat' (first|(with_reducible first|refine af ?_|refine az ?_|refine ae ?_|intro _)|(simp[*]))
theorem KP(l:List Par)(hl:l.length<100000)(v:Par):aA Tz.prog 107 [.sl l.length (aS l),.agg (Tw.bH v)] (.bool (l.any fun y=>decide (v.1=y.1)&&decide (v.2=y.2))) true:=by
 have c1:=KO l hl v;have h:=oB (fun y=>decide (v.1=y.1)&&decide (v.2=y.2)) l;generalize idxOf (fun y:Par=>decide (v.1=y.1)&&decide (v.2=y.2)) l=i at *;rw[←h];clear h;obtain⟨v1,v2⟩:=v;simp only[Tw.bH] at *;refine rcK Tz.func107 ?_;simp only[Tryz.results107,Tryz.ntmps107]
 repeat' (first|(with_reducible first|refine af ?_|refine az ?_|refine ae ?_|refine And.intro ?_ ?_|refine cw (c1) ?_|intro _)|(simp[*])|(refine ai (c1) ?_ ?_;(· (simp[*];done))))
def bX{α:Type}(E:Nat→α→Int):List α→Nat→Int×Int
 |[],_=>(0,0)
 |x::r,k=>if E k x=0 then bX E r (k+1) else (k,E k x)
def aZ(w:List (List Int)):List PV:=w.map Tw.zu
@[simp] theorem VX(w:List (List Int)):(aZ w).length=w.length:=by simp[aZ]
@[simp] theorem VY(w:List (List Int))(k:Nat)(h:k<w.length):cD (aZ w) k=.sl (nth w k).length (ints (nth w k)):=pZ Tw.zu w k h
@[simp] theorem VZ(l:List Par)(k:Nat):(aS l).take (k*2)=aS (l.take k):=by
 induction l generalizing k with
 |nil=>simp[aS]
 |cons x r ih=>
  cases k with
  |zero=>simp[aS]
  |succ k=>
   have e:aS (x::r)=Tw.bH x++aS r:=rfl;rw[e,List.take_succ_cons,show aS (x::r.take k)=Tw.bH x++aS (r.take k) from rfl,←ih,Nat.add_mul,List.take_append];simp[Tw.bH]
def eh(nc:Nat)(row:List Int):Int:=bL [aU (decide ((row.length:Int)=nc)) 10,aU (!(row.any fun x=>!aL x 0 100000)) 2]
def gR(no nc:Nat)(zs:List Par)(k:Nat)(p:Par):Int:=bL [aU (aL p.1 0 ((no:Int)-1)&&aL p.2 0 ((nc:Int)-1)) 6,aU (!((zs.take k).any fun y=>decide (p.1=y.1)&&decide (p.2=y.2))) 26]
def dT{α:Type}(E:Nat→α→Int)(l:List α)(k:Nat)(T:Int×Int):Int×Int:=if (bX E l k).2≠0 then bX E l k else T
theorem Dp{α:Type}(E:Nat→α→Int)(x:α)(l:List α)(k:Nat)(T:Int×Int):dT E (x::l) k T=if E k x=0 then dT E l (k+1) T else ((k:Int),E k x):=by
 unfold dT;rw[bX];by_cases h:E k x=0
 ·simp only[h,if_true]
 ·simp[h]
theorem Dq{α:Type}(E:Nat→α→Int)(k:Nat)(T:Int×Int):dT E [] k T=T:=by simp[dT,bX]
def fF(no nc:Nat)(zs:List Par):Int×Int:=if (64:Int)<zs.length then (0,8) else bX (gR no nc zs) zs 0
def fG(ab:List Car)(os:List Ord)(wt:List (List Int))(zs:List Par):Int×Int:=
 if (8:Int)<ab.length then (0,8) else if (eU Prod.fst dI ab).2≠0 then eU Prod.fst dI ab else if (8:Int)<os.length then (0,8) else if (eU Prod.fst dj os).2≠0 then eU Prod.fst dj os else
 if (wt.length:Int)≠os.length then (0,10) else dT (fun _=>eh ab.length) wt 0 (fF os.length ab.length zs)
theorem KQ(ab:List Car)(os:List Ord)(wt:List (List Int))(zs:List Par)(h1:ab.length<100000)(h2:os.length<100000)(h3:wt.length<100000)(h4:zs.length<100000)(hc:∀x∈ab,x.1.size<1000000)(ho:∀x∈os,x.1.size<1000000)(hw:∀x∈wt,x.length<100000):aA Tz.prog 55 [.agg [.sl ab.length (aQ ab),.sl os.length (aP os),.sl wt.length (aZ wt),.sl zs.length (aS zs)]] (.tup [.int .i64 (fG ab os wt zs).1,.int .i64 (fG ab os wt zs).2]) true:=by
 have c54:=KM ab h1 hc;have c58:=KN os h2 ho;generalize hR:fG ab os wt zs=R;obtain⟨R1,R2⟩:=R;unfold fG at hR;generalize eU Prod.fst dI ab=A at *;generalize eU Prod.fst dj os=O at *;obtain⟨A1,A2⟩:=A;obtain⟨O1,O2⟩:=O;have kR:=keep hR;have kw:=keep hw;clear hR hw hc ho;simp only[] at c54 c58;refine rcK Tz.func55 ?_;simp only[Tryz.results55,Tryz.ntmps55]
 repeat' (first|(with_reducible first|refine af ?_|refine av ?_|refine az ?_|refine ae ?_|refine ak ?_|refine And.intro ?_ ?_ |  refine iJ ?_ ?_|refine dO ?_ ?_|refine cw (c54) ?_|refine cw (c58) ?_|intro _)|(simp[*])|(refine ai (c54) ?_ ?_;(· (simp[*];done)))|(refine ai (c58) ?_ ?_;(· (simp[*];done))))
 rotate_right
 ·rename_i b1 b2 b3 b4 b5
  have kT:aI (dT (fun _=>eh ab.length) wt 0 (fF os.length ab.length zs)=(R1,R2)):=by
   rw[if_neg b1,if_neg (by simpa using b2),if_neg b3,if_neg (by simpa using b4),if_neg (by simpa using b5)] at kR;exact kR
  have kl:=keep b5;clear kR c54 c58 b1 b2 b3 b4 b5;refine bF (fun(k:Nat)=>k≤wt.length∧dT (fun _=>eh ab.length) (wt.drop k) k (fF os.length ab.length zs)=(R1,R2)) [1,50,51] (fun(k:Nat)=>[(52,.w false false (.int .i64 k))]) [0] (fun(k:Nat)=>[]) (fun(k:Nat)=>wt.length-k) (fun(_u:Unit)=>fF os.length ab.length zs=(R1,R2)) [1] (fun(_u:Unit)=>[]) [0] (fun(_u:Unit)=>[]) (0) ⟨Nat.zero_le _,kT⟩ (by simp) (by simp) (fun k hk=>?_) (fun _u hf=>?_)
  ·obtain⟨hk,hj⟩:=hk
   have hlen:wt.length=os.length:=by have:=kl;unfold aI at this;omega
   by_cases hlt:k<wt.length
   ·have hlt2:k<os.length:=by omega
    have c1:=KE (nth wt k) (kw _ (ew hlt)) 106 [] _ KC;have c2:=hZ (aU (decide (((nth wt k).length:Int)=ab.length)) 10) (aU (!((nth wt k).any fun x=>!aL x 0 100000)) 2);rw[b8 wt k hlt,Dp] at hj;unfold eh at hj;generalize bL [aU (decide (((nth wt k).length:Int)=ab.length)) 10,aU (!((nth wt k).any fun x=>!aL x 0 100000)) 2]=e at hj c2;have kj:=keep hj;clear hj hlen
    repeat' (first|(with_reducible first|refine af ?_|refine aD ?_|refine av ?_|refine az ?_|refine ae ?_|refine ak ?_|refine And.intro ?_ ?_ |  refine iJ ?_ ?_|refine cw (c1) ?_|refine cw (c2) ?_|refine cw (cH _ _) ?_|intro _)|(simp[*,hlt,hlt2])|(refine ai (c1) ?_ ?_;(· (simp[*];done)))|(refine ai (c2) ?_ ?_;(· (simp[*];done)))|(refine ai (cH _ _) ?_ ?_;(· (simp[*];done))))
    all_goals first
     |omega
     |exact aF (by omega) (by omega)
     |(rename_i hp;rw[if_neg hp] at kj;exact (Prod.mk.inj kj).1)
     |(rename_i hp;rw[if_neg hp] at kj;exact (Prod.mk.inj kj).2)
     |(rename_i hp;rw[if_pos hp] at kj;(refine nx (k+1) ?_ ?_;(· exact⟨by omega,kj⟩);(refine aB ?_ ?_<;>first|trivial|(simp[*];done))))
   ·have hlt2:¬k<os.length:=by omega
    have hke:k=wt.length:=by omega
    rw[hke,List.drop_length,Dq] at hj;have kj:=keep hj;clear hj hlen hke
    repeat' (first|(with_reducible first|refine af ?_|refine aJ ?_|refine ae ?_|refine ak ?_|intro _)|(simp[*,hlt,hlt2]))
    all_goals first
     |omega
     |(refine aT () ?_ ?_;(· exact kj);(refine aB ?_ ?_<;>first|trivial|(simp[*];done)))
  ·unfold fF at hf;have kf:=keep hf;clear hf kT kw kl
   repeat' (first|(with_reducible first|refine af ?_|refine av ?_|refine az ?_|refine ae ?_|refine ak ?_|refine And.intro ?_ ?_|refine dO ?_ ?_|intro _)|(simp[*]))
   rotate_right
   ·rename_i b6;rw[if_neg b6] at kf;have k2:=keep b6;clear b6;refine bF (fun(k:Nat)=>k≤zs.length∧bX (gR os.length ab.length zs) (zs.drop k) k=(R1,R2)) [1,81,82] (fun(k:Nat)=>[(83,.w false false (.int .i64 k))]) [0] (fun(k:Nat)=>[]) (fun(k:Nat)=>zs.length-k) (fun(_u:Unit)=>R1=0∧R2=0) [] (fun(_u:Unit)=>[]) [0] (fun(_u:Unit)=>[]) (0) ⟨Nat.zero_le _,kf⟩ (by simp) (by simp) (fun k hk=>?_) (fun _u hf=>?_)
    ·obtain⟨hk,hj⟩:=hk;by_cases hlt:k<zs.length
     ·have c1:=KP (zs.take k) (by rw[List.length_take];omega) (nth zs k);rw[List.length_take_of_le hk] at c1;have w1:=dL (nth zs k).1 0 ((os.length:Int)-1);have w2:=dL (nth zs k).2 0 ((ab.length:Int)-1);have c2:=hZ (aU (aL (nth zs k).1 0 ((os.length:Int)-1)&&aL (nth zs k).2 0 ((ab.length:Int)-1)) 6) (aU (!((zs.take k).any fun y=>decide ((nth zs k).1=y.1)&&decide ((nth zs k).2=y.2))) 26);rw[b8 zs k hlt,bX] at hj;have hE:gR os.length ab.length zs k (nth zs k)=bL [aU (aL (nth zs k).1 0 ((os.length:Int)-1)&&aL (nth zs k).2 0 ((ab.length:Int)-1)) 6,aU (!((zs.take k).any fun y=>decide ((nth zs k).1=y.1)&&decide ((nth zs k).2=y.2))) 26]:=rfl;rw[hE] at hj;clear hE;generalize bL [aU (aL (nth zs k).1 0 ((os.length:Int)-1)&&aL (nth zs k).2 0 ((ab.length:Int)-1)) 6,aU (!((zs.take k).any fun y=>decide ((nth zs k).1=y.1)&&decide ((nth zs k).2=y.2))) 26]=e at hj c2;have kj:=keep hj;clear hj;unfold Tw.bH at c1;generalize aL (nth zs k).1 0 ((os.length:Int)-1)=g1 at w1 c2;generalize aL (nth zs k).2 0 ((ab.length:Int)-1)=g2 at w2 c2
      cases g1 with
      |true=>
       simp only[Bool.true_and] at c2
       repeat' (first|(with_reducible first|refine af ?_|refine aD ?_|refine av ?_|refine az ?_|refine ae ?_|refine aK (id:=27) 13 mixed (by decide +kernel) ?_|refine ak ?_|refine And.intro ?_ ?_ |  refine iJ ?_ ?_|refine cw (c1) ?_|refine cw (c2) ?_|refine cw (w1) ?_|refine cw (w2) ?_|refine cw (cH _ _) ?_|intro _)|(simp[*,hlt,Tw.bH])|(refine ai (c1) ?_ ?_;(· (simp[*];done)))|(refine ai (c2) ?_ ?_;(· (simp[*];done)))|(refine ai (w1) ?_ ?_;(· (simp[*];done)))|(refine ai (w2) ?_ ?_;(· (simp[*];done)))|(refine ai (cH _ _) ?_ ?_;(· (simp[*];done))))
       all_goals first
        |omega
        |exact aF (by omega) (by omega)
        |(rename_i hp;rw[if_neg hp] at kj;exact (Prod.mk.inj kj).1)
        |(rename_i hp;rw[if_neg hp] at kj;exact (Prod.mk.inj kj).2)
        |(rename_i hp;rw[if_pos hp] at kj;(refine nx (k+1) ?_ ?_;(· exact⟨by omega,kj⟩);(refine aB ?_ ?_<;>first|trivial|(simp[*];done))))
      |false=>
       simp only[Bool.false_and] at c2
       repeat' (first|(with_reducible first|refine af ?_|refine aD ?_|refine av ?_|refine az ?_|refine ae ?_|refine aK (id:=27) 13 mixed (by decide +kernel) ?_|refine ak ?_|refine And.intro ?_ ?_ |  refine iJ ?_ ?_|refine cw (c1) ?_|refine cw (c2) ?_|refine cw (w1) ?_|refine cw (cH _ _) ?_|intro _)|(simp[*,hlt,Tw.bH])|(refine ai (c1) ?_ ?_;(· (simp[*];done)))|(refine ai (c2) ?_ ?_;(· (simp[*];done)))|(refine ai (w1) ?_ ?_;(· (simp[*];done)))|(refine ai (w2) ?_ ?_;(· (simp[*];done)))|(refine ai (cH _ _) ?_ ?_;(· (simp[*];done))))
       all_goals first
        |omega
        |exact aF (by omega) (by omega)
        |(rename_i hp;rw[if_neg hp] at kj;exact (Prod.mk.inj kj).1)
        |(rename_i hp;rw[if_neg hp] at kj;exact (Prod.mk.inj kj).2)
        |(rename_i hp;rw[if_pos hp] at kj;(refine nx (k+1) ?_ ?_;(· exact⟨by omega,kj⟩);(refine aB ?_ ?_<;>first|trivial|(simp[*];done))))
     ·have hke:k=zs.length:=by omega
      subst hke;rw[List.drop_length] at hj;unfold bX at hj
      repeat' (first|(with_reducible first|refine af ?_|refine aJ ?_|refine ae ?_|refine ak ?_|intro _)|(simp[*]))
      all_goals first
       |omega
       |(refine aT () ?_ ?_;(· exact⟨(Prod.mk.inj hj).1.symm,(Prod.mk.inj hj).2.symm⟩);(refine aB ?_ ?_<;>first|trivial|(simp[*];done)))
    ·obtain⟨rfl,rfl⟩:=hf
     repeat' (first|(with_reducible first|refine af ?_|refine az ?_|refine ae ?_|intro _)|(simp[*]))
   all_goals first
    |(rename_i b1;rw[if_pos b1] at kf;first|exact (Prod.mk.inj kf).1|exact (Prod.mk.inj kf).2)
 all_goals first
  |(rename_i b1;rw[if_pos b1] at kR;first|exact (Prod.mk.inj kR).1|exact (Prod.mk.inj kR).2)
  |(rename_i b1 b2;rw[if_neg b1,if_pos (by simpa using b2)] at kR;first|exact (Prod.mk.inj kR).1|exact (Prod.mk.inj kR).2)
  |(rename_i b1 b2 b3;rw[if_neg b1,if_neg (by simpa using b2),if_pos b3] at kR;first|exact (Prod.mk.inj kR).1|exact (Prod.mk.inj kR).2)
  |(rename_i b1 b2 b3 b4;rw[if_neg b1,if_neg (by simpa using b2),if_neg b3,if_pos (by simpa using b4)] at kR;first|exact (Prod.mk.inj kR).1|exact (Prod.mk.inj kR).2)
  |(rename_i b1 b2 b3 b4 b5;rw[if_neg b1,if_neg (by simpa using b2),if_neg b3,if_neg (by simpa using b4),if_pos (by simpa using b5)] at kR;first|exact (Prod.mk.inj kR).1|exact (Prod.mk.inj kR).2)
end Go.Proofs.YthpkmilhiganjaaGreat
namespace Go.Proofs.YthpkmilhiganjaaGreat
open Go Go.Fi Go.Fc
noncomputable def ciR(r:Tw.RND):Int:=(fG r.ab r.os r.wt r.zs).1
noncomputable def ceR(r:Tw.RND):Int:=(fG r.ab r.os r.wt r.zs).2
theorem chk[ar](r:Tw.RND):aA Tz.prog 55 [Tw.aR r] (.tup [.int .i64 (ciR r),.int .i64 (ceR r)]) true:=
 KQ r.ab r.os r.wt r.zs r.cP.2.2.2.1 r.cP.2.2.2.2.1 r.cP.2.2.2.2.2.1 r.cP.2.2.2.2.2.2 r.cP.1 r.cP.2.1 r.cP.2.2.1
theorem yg{α:Type}{E:Nat→α→Int}{l:List α}{k:Nat}{T:Int×Int}(h:(dT E l k T).2=0):dT E l k T=T:=by
 unfold dT at h ⊢;split
 ·rename_i h1;rw[if_pos h1] at h;exact absurd h h1
 ·rfl
theorem lim(r:Tw.RND)(h:ceR r=0):r.os.length≤1000∧r.zs.length≤64∧r.ab.length≤1000:=by
 unfold ceR fG at h;split at h
 ·simp at h
 split at h
 ·rename_i h2;exact absurd h h2
 split at h
 ·simp at h
 split at h
 ·rename_i h2;exact absurd h h2
 split at h
 ·simp at h
 rename_i h1 _ h3 _ _;rw[yg h] at h;unfold fF at h;split at h
 ·simp at h
 rename_i h6;omega
theorem zw:@Tw.mn Tz.prog Tz.xfZ Tz.L0 Tz.kZ ciR ceR true:=Tz.zw (fun r=>@chk Tz.L0 r) lim
@[reducible] noncomputable def LD:ar:=Tz.L1 ceR
theorem kI(K:fV):@oQ Tz.xfZ LD.toEnvD Tz.prog Tryz.prog K:=@Tw.Ob Tz.prog Tz.xfZ Tz.L0 Tz.kZ ciR ceR true K zw
theorem oE:@nD Tz.xfZ LD.toEnvD Tz.prog Tryz.prog Tz.kZ:=Tz.Fu LD.toEnvD (fun _ _ _ _ h=>h.1) (fun w t d=>⟨rfl,rfl,Nat.le_refl _,fun _ _=>rfl⟩)
theorem cQ(r:Tw.RND):@aA LD Tz.prog 69 [Tw.aR r] (Tw.iW ceR r) false:=Tz.cQ ceR r
end Go.Proofs.YthpkmilhiganjaaGreat
namespace Go.Proofs.YthpkmilhiganjaaGreat
open Go Go.Fi
variable[ar]
def bf:Nat→Int
 |0=>1000000
 |k+1=>bf k*10
@[simp] theorem V0:bf 0=1000000:=rfl
theorem jX(k:Nat)(h:k≤6):0≤bf k∧bf k≤1000000000000:=by
 obtain rfl|rfl|rfl|rfl|rfl|rfl|rfl:k=0∨k=1∨k=2∨k=3∨k=4∨k=5∨k=6:=by omega
 all_goals decide
theorem pd(p:Nat)(hp:p≤6):aA Tz.prog 116 [.int .i64 p] (.int .i64 (bf p)) true:=by
 refine rcK Tz.func116 ?_;simp only[Tryz.results116,Tryz.ntmps116]
 repeat' (first|(with_reducible first|refine af ?_|refine ae ?_|intro _)|(simp[*]))
 refine bF (fun(k:Nat)=>k≤p) [4] (fun(k:Nat)=>[(5,.w false false (.int .i64 k)),(3,.w false false (.int .i64 (bf k)))]) [] (fun(k:Nat)=>[]) (fun(k:Nat)=>p-k) (fun(_u:Unit)=>True) [] (fun(_u:Unit)=>[(3,.w false false (.int .i64 (bf p)))]) [] (fun(_u:Unit)=>[]) (0) (Nat.zero_le _) (by simp) (by simp) (fun k hk=>?_) (fun _u hf=>?_)
 ·by_cases hlt:k<p
  ·have hb:=jX k (by omega);have e:bf (k+1)=bf k*10:=rfl;generalize bf k=n at hb e
   repeat' (first|(with_reducible first|refine af ?_|refine iK ?_|refine av ?_|refine ae ?_|refine ak ?_|refine And.intro ?_ ?_|intro _)|(simp[*,hlt]))
   all_goals first
    |omega
    |exact aF (by omega) (by omega)
    |(refine nx (k+1) ?_ ?_;(· omega);(refine aB ?_ ?_<;>first|trivial|(simp[*,e];done)))
  ·have hke:k=p:=by omega
   subst hke
   repeat' (first|(with_reducible first|refine af ?_|refine aJ ?_|refine ae ?_|refine ak ?_|intro _)|(simp[*]))
   all_goals first
    |omega
    |(refine aT () ?_ ?_;(· trivial);(refine aB ?_ ?_<;>first|trivial|(simp[*];done)))
 ·repeat' (first|(with_reducible first|refine af ?_|refine az ?_|refine ae ?_|intro _)|(simp[*]))
theorem Dr(p:Nat)(hp:p≤6):aA Tz.prog 76 [.int .i64 p] (.int .i64 (bf p)) true:=by
 refine rcK Tz.func76 ?_;simp only[Tryz.results76,Tryz.ntmps76]
 repeat' (first|(with_reducible first|refine af ?_|refine ae ?_|intro _)|(simp[*]))
 refine bF (fun(k:Nat)=>k≤p) [0] (fun(k:Nat)=>[(4,.w false false (.int .i64 k)),(3,.w false false (.int .i64 (bf k)))]) [] (fun(k:Nat)=>[]) (fun(k:Nat)=>p-k) (fun(_u:Unit)=>True) [] (fun(_u:Unit)=>[(3,.w false false (.int .i64 (bf p)))]) [] (fun(_u:Unit)=>[]) (0) (Nat.zero_le _) (by simp) (by simp) (fun k hk=>?_) (fun _u hf=>?_)
 ·by_cases hlt:k<p
  ·have hb:=jX k (by omega);have e:bf (k+1)=10*bf k:=Int.mul_comm _ _;generalize bf k=n at hb e
   repeat' (first|(with_reducible first|refine af ?_|refine iK ?_|refine av ?_|refine ae ?_|refine ak ?_|refine And.intro ?_ ?_|intro _)|(simp[*,hlt]))
   all_goals first
    |omega
    |exact aF (by omega) (by omega)
    |(refine nx (k+1) ?_ ?_;(· omega);(refine aB ?_ ?_<;>first|trivial|(simp[*,e];done)))
  ·have hke:k=p:=by omega
   subst hke
   repeat' (first|(with_reducible first|refine af ?_|refine aJ ?_|refine ae ?_|refine ak ?_|intro _)|(simp[*]))
   all_goals first
    |omega
    |(refine aT () ?_ ?_;(· trivial);(refine aB ?_ ?_<;>first|trivial|(simp[*];done)))
 ·repeat' (first|(with_reducible first|refine af ?_|refine az ?_|refine ae ?_|intro _)|(simp[*]))
end Go.Proofs.YthpkmilhiganjaaGreat
