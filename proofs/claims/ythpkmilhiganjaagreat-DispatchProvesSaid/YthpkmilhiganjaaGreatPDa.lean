/- Lemmas. -/
import Derived.Test.YthpkmilhiganjaaGreatPWg
import Derived.Test.YthpkmilhiganjaaGreatPLg
import Derived.Test.YthpkmilhiganjaaGreatPLf
set_option linter.unusedSimpArgs false
set_option linter.unusedVariables false
set_option linter.unusedSectionVars false
set_option maxHeartbeats 32000000
set_option maxRecDepth 100000
namespace Go.Proofs.YthpkmilhiganjaaGreat
open Go Go.Fi
variable[ah]
def aR(ok:Bool)(e:Int):Int:=if ok then 0 else e
theorem bK(ok:Bool)(e:Int):az Tz.prog 71 [.bool ok,.int .i64 e] (.int .i64 (aR ok e)) true:=by
 refine rcK Tz.func71 ?_;simp only[Tryz.results71,Tryz.ntmps71]
 repeat' (first|(with_reducible first|refine ak ?_|refine aH ?_|refine aA ?_|refine aj ?_|refine aD ?_|refine lM ?_ ?_|intro _)|(simp[*]))
 all_goals simp_all[aR]
theorem mixed:Tz.prog.follows .mixedOrders=true:=by kernel_rfl
def bt(n lo hi:Int):Bool:=decide (lo≤n)&&decide (n≤hi)
theorem cV(n lo hi:Int):az Tz.prog 72 [.int .i64 n,.int .i64 lo,.int .i64 hi] (.bool (bt n lo hi)) true:=by
 refine rcK Tz.func72 ?_;simp only[Tryz.results72,Tryz.ntmps72]
 repeat' (first|(with_reducible first|refine ak ?_|refine aA ?_|refine aj ?_|refine zK ?_ ?_|intro _)|(simp[*,bt]))
def ints(l:List Int):List PV:=l.map (.int .i64)
@[simp] theorem SY(l:List Int):(ints l).length=l.length:=by simp[ints]
@[simp] theorem SZ(l:List Int)(k:Nat)(h:k<l.length):bS (ints l) k=.int .i64 (nth l k):=qn _ l k h
def bO:List Int→Int
 |[]=>0
 |e::r=>if e=0 then bO r else e
theorem df{α:Type}[Inhabited α](l:List α)(k:Nat)(h:k<l.length):l.drop k=nth l k::l.drop (k+1):=by
 rw[List.drop_eq_getElem_cons h];simp[nth,List.getD_eq_getElem?_getD,List.getElem?_eq_getElem h]
theorem uX(l:List Int)(h:l.length<1000):az Tz.prog 70 [.sl l.length (ints l)] (.int .i64 (bO l)) true:=by
 refine rcK Tz.func70 ?_;simp only[Tryz.results70,Tryz.ntmps70]
 repeat' (first|(with_reducible first|refine ak ?_|refine aj ?_|intro _)|(simp[*]))
 refine uR (fun k:Nat=>k≤l.length∧bO (l.drop k)=bO l) [5,6] (fun k=>[(7,.w false false (.int .i64 k))]) (fun _=>[]) (fun k=>l.length-k)
  (fun _:Unit=>bO l=0) [] (fun _=>[]) (fun _=>[]) 0 ⟨Nat.zero_le _,rfl⟩ (by simp) (by simp) (fun k hk=>?_) (fun _ hf=>?_)
 ·obtain⟨hk,hf⟩:=hk
  repeat' (first|(with_reducible first|refine ak ?_|refine bA ?_|refine aH ?_|refine aA ?_|refine bf ?_|refine aj ?_|refine aD ?_|refine And.intro ?_ ?_|refine gI ?_ ?_|refine kC ?_ ?_|intro _)|(simp[*,bO]))
  all_goals first
   |exact bl (by omega) (by omega)
   |omega
   |(rw[←hf,df l k (by omega)];simp_all[bO];done)
   |(refine nx (k+1) ?_ ?_;(· refine⟨by omega,?_⟩;rw[←hf,df l k (by omega)];simp_all[bO]);(refine aX ?_ ?_<;>first|trivial|(simp[*];done)))
   |(refine bY () ?_ ?_;(· rw[←hf,List.drop_eq_nil_of_le (by omega)];rfl);(refine aX ?_ ?_<;>first|trivial|(simp[*];done)))
 ·repeat' (first|(with_reducible first|refine ak ?_|refine aA ?_|refine aj ?_|intro _)|(simp[*]))
theorem lP(a b:Int):az Tz.prog 70 [.sl 2 [.int .i64 a,.int .i64 b]] (.int .i64 (bO [a,b])) true:=uX [a,b] (Nat.le_of_ble_eq_true rfl)
theorem Aj(a b c:Int):az Tz.prog 70 [.sl 3 [.int .i64 a,.int .i64 b,.int .i64 c]] (.int .i64 (bO [a,b,c])) true:=uX [a,b,c] (Nat.le_of_ble_eq_true rfl)
def wA(c:Nat):Bool:=decide ((97:Int)≤c)&&decide ((c:Int)≤122) || decide ((65:Int)≤c)&&decide ((c:Int)≤90)
def okB(k c:Nat):Bool:=wA c || !(decide (k=0))&&(decide (c=45) || decide ((48:Int)≤c)&&decide ((c:Int)≤57))
def jX(s:ByteArray):Nat→Bool
 |0=>true
 |k+1=>jX s k&&okB k (nM s k)
theorem Ak(s:ByteArray)(k:Nat)(h:okB k (nM s k)=false):∀n,k<n→jX s n=false
 |0,hn=>by omega
 |n+1,hn=>by
  unfold jX;by_cases e:k=n
  ·subst e;simp[h]
  ·rw[Ak s k h n (by omega)];rfl
def fw(s:ByteArray):Bool:=jX s s.size&&decide (s.size≠0)&&decide (s.size≤12)
theorem Hv{s:ByteArray}(h:s.size=0):fw s=false:=by simp[fw,h]
theorem Hw{s:ByteArray}(h:jX s s.size=true)(h0:s.size≠0):fw s=decide (s.size≤12):=by simp[fw,h,h0]
theorem Al(s:ByteArray)(hs:s.size<1000000):az Tz.prog 130 [.str s] (.bool (fw s)) true:=by
 refine rcK Tz.func130 ?_;simp only[Tryz.results130,Tryz.ntmps130]
 repeat' (first|(with_reducible first|refine ak ?_|refine aj ?_|intro _)|(simp[*]))
 refine uR (fun k:Nat=>k≤s.size∧jX s k=true) [0,7,8] (fun k=>[(9,.w false false (.int .i64 k))]) (fun _=>[]) (fun k=>s.size-k)
  (fun _:Unit=>jX s s.size=true) [0] (fun _=>[]) (fun _=>[]) 0 ⟨Nat.zero_le _,rfl⟩ (by simp) (by simp) (fun k hk=>?_) (fun _ hf=>?_)
 ·obtain⟨hk,hf⟩:=hk
  repeat' (first|(with_reducible first|refine ak ?_|refine bA ?_|refine aH ?_|refine aA ?_|refine bf ?_|refine aj ?_|refine aD ?_|refine And.intro ?_ ?_|refine zL ?_ ?_|refine zK ?_ ?_|refine kC ?_ ?_|intro _)|(simp[*]))
  all_goals first
   |exact bl (by omega) (by omega)
   |omega
   |(refine nx (k+1) ?_ ?_;(· refine⟨by omega,?_⟩;unfold jX;rw[hf];clear hf;simp[okB,wA] at *;omega);(refine aX ?_ ?_<;>first|trivial|(simp[*];done)))
   |(refine bY () ?_ ?_;(· rw[show s.size=k by omega];exact hf);(refine aX ?_ ?_<;>first|trivial|(simp[*];done)))
   |(unfold fw;rw[Ak s k (by clear hf;simp[okB,wA] at *;omega) s.size (by omega)];rfl)
 ·repeat' (first|(with_reducible first|refine ak ?_|refine aA ?_|refine aj ?_|refine zL ?_ ?_|intro _)|(simp[*]))
  ·rename_i h0
   have h0':s≠{ data:=#[] }:=by simpa using h0
   rw[Hw hf (fun h=>h0' ((zN s).2 h))];simp;omega
  ·rename_i h0;rw[Hv ((zN s).1 (by have h1:s = { data:=#[] }:=by simpa using h0
                                   exact h1))]
abbrev Car:=ByteArray×Int×Bool
abbrev Ord:=ByteArray×Int×Bool×Int
abbrev Par:=Int×Int
def bF(l:List Car):List PV:=l.flatMap Tw.bW
@[simp] theorem S1(l:List Car):(bF l).length=l.length*3:=nq Tw.bW 3 (fun _=>rfl) l
@[simp] theorem S3(l:List Car)(k:Nat)(h:k<l.length):((bF l).drop (k*3)).take 3=Tw.bW (nth l k):=qm Tw.bW 3 (fun _=>rfl) l k h
@[simp] theorem S4(l:List Car)(k:Nat)(h:k<l.length):bS (bF l) (k*3)=.str (nth l k).1:=nu Tw.bW 3 (fun _=>rfl) l k 0 h (by omega)
def bD(l:List Ord):List PV:=l.flatMap Tw.bE
@[simp] theorem S5(l:List Ord):(bD l).length=l.length*4:=nq Tw.bE 4 (fun _=>rfl) l
@[simp] theorem S6(l:List Ord)(k:Nat)(h:k<l.length):((bD l).drop (k*4)).take 4=Tw.bE (nth l k):=qm Tw.bE 4 (fun _=>rfl) l k h
@[simp] theorem S7(l:List Ord)(k:Nat)(h:k<l.length):bS (bD l) (k*4)=.str (nth l k).1:=nu Tw.bE 4 (fun _=>rfl) l k 0 h (by omega)
@[simp] theorem S8(l:List Ord)(k:Nat)(h:k<l.length):bS (bD l) (k*4+3)=.int .i64 (nth l k).2.2.2:=nu Tw.bE 4 (fun _=>rfl) l k 3 h (by omega)
def bH(l:List Par):List PV:=l.flatMap Tw.cL
@[simp] theorem Ta(l:List Par):(bH l).length=l.length*2:=nq Tw.cL 2 (fun _=>rfl) l
@[simp] theorem Tb(l:List Par)(k:Nat)(h:k<l.length):((bH l).drop (k*2)).take 2=Tw.cL (nth l k):=qm Tw.cL 2 (fun _=>rfl) l k h
@[simp] theorem Tc(l:List Par)(k:Nat)(h:k<l.length):bS (bH l) (k*2)=.int .i64 (nth l k).1:=nu Tw.cL 2 (fun _=>rfl) l k 0 h (by omega)
theorem uY(n:Int):az Tz.prog 102 [.int .i64 n] (.bool (bt n 1 8)) true:=by
 refine rcK Tz.func102 ?_;simp only[Tryz.results102,Tryz.ntmps102]
 repeat' (first|(with_reducible first|refine ak ?_|refine aA ?_|refine aj ?_|refine And.intro ?_ ?_|refine cw (cV _ _ _) ?_|intro _)|(simp[*])|(refine ai (cV _ _ _) ?_ ?_;(· (simp[*];done))))
theorem uZ(x:Car):az Tz.prog 100 [.agg (Tw.bW x)] (.str x.1) true:=by
 unfold Tw.bW;refine rcK Tz.func100 ?_;simp only[Tryz.results100,Tryz.ntmps100]
 repeat' (first|(with_reducible first|refine ak ?_|refine aA ?_|refine aj ?_|intro _)|(simp[*]))
theorem u5(x:Ord):az Tz.prog 104 [.agg (Tw.bE x)] (.str x.1) true:=by
 unfold Tw.bE;refine rcK Tz.func104 ?_;simp only[Tryz.results104,Tryz.ntmps104]
 repeat' (first|(with_reducible first|refine ak ?_|refine aA ?_|refine aj ?_|intro _)|(simp[*]))
def fz(x:Car):Int:=aR (bt x.2.1 1 8) 2
theorem Hx(i:Int)(x:Car):az Tz.prog 101 [.int .i64 i,.agg (Tw.bW x)] (.int .i64 (fz x)) true:=by
 unfold Tw.bW fz;refine rcK Tz.func101 ?_;simp only[Tryz.results101,Tryz.ntmps101]
 repeat' (first|(with_reducible first|refine ak ?_|refine aA ?_|refine aj ?_|refine And.intro ?_ ?_|refine cw (uY _) ?_|refine cw (bK _ _) ?_|intro _)|(simp[*])|(refine ai (uY _) ?_ ?_;(· (simp[*];done)))|(refine ai (bK _ _) ?_ ?_;(· (simp[*];done))))
def fA(x:Ord):Int:=aR (bt x.2.1 1 8&&bt x.2.2.2 0 6) 2
theorem Hy(i:Int)(x:Ord):az Tz.prog 105 [.int .i64 i,.agg (Tw.bE x)] (.int .i64 (fA x)) true:=by
 unfold Tw.bE fA;have c1:=uY x.2.1;generalize bt x.2.1 1 8=b at c1 ⊢
 cases b with
 |true=>
  refine rcK Tz.func105 ?_;simp only[Tryz.results105,Tryz.ntmps105]
  repeat' (first|(with_reducible first|refine ak ?_|refine aA ?_|refine aj ?_|refine And.intro ?_ ?_|refine cw (c1) ?_|refine cw (cV _ _ _) ?_|refine cw (bK _ _) ?_|intro _)|(simp[*])|(refine ai (c1) ?_ ?_;(· (simp[*];done)))|(refine ai (cV _ _ _) ?_ ?_;(· (simp[*];done)))|(refine ai (bK _ _) ?_ ?_;(· (simp[*];done))))
 |false=>
  refine rcK Tz.func105 ?_;simp only[Tryz.results105,Tryz.ntmps105]
  repeat' (first|(with_reducible first|refine ak ?_|refine aA ?_|refine aj ?_|refine And.intro ?_ ?_|refine cw (c1) ?_|refine cw (bK _ _) ?_|intro _)|(simp[*])|(refine ai (c1) ?_ ?_;(· (simp[*];done)))|(refine ai (cV _ _ _) ?_ ?_;(· (simp[*];done)))|(refine ai (bK _ _) ?_ ?_;(· (simp[*];done))))
theorem Hz(x:Int):az Tz.prog 106 [.int .i64 x] (.bool (!bt x 0 100000)) true:=by
 refine rcK Tz.func106 ?_;simp only[Tryz.results106,Tryz.ntmps106]
 repeat' (first|(with_reducible first|refine ak ?_|refine aA ?_|refine aj ?_|refine And.intro ?_ ?_|refine cw (cV _ _ _) ?_|intro _)|(simp[*])|(refine ai (cV _ _ _) ?_ ?_;(· (simp[*];done))))
def aP(p:Prop):Prop:=p
theorem keep{p:Prop}(h:p):aP p:=h
def db{α:Type}(p:α→Bool):List α→Nat→Int
 |[],_=>-1
 |x::r,i=>if p x=true then (i:Int) else db p r (i+1)
def idxOf{α:Type}(p:α→Bool)(l:List α):Int:=db p l 0
theorem Am{α:Type}(p:α→Bool):∀(l:List α)(i:Nat),decide (0≤db p l i)=l.any p
 |[],i=>rfl
 |x::r,i=>by
  unfold db
  cases h:p x with
  |true=>simp[h]
  |false=>simp[h];have:=Am p r (i+1);simpa using this
theorem nD{α:Type}(p:α→Bool)(l:List α):decide (0≤idxOf p l)=l.any p:=Am p l 0
theorem HA(l:List Int)(hl:l.length<100000)(g:FuncId)(av:List PV)(p:Int→Bool)(h:∀x,az Tz.prog g (.int .i64 x::av) (.bool (p x)) true):az Tz.prog 124 [.sl l.length (ints l),.fn g av] (.int .i64 (idxOf p l)) true:=by
 generalize hR:idxOf p l=R;have kR:aP (db p l 0=R):=keep hR;clear hR;refine rcK Tz.func124 ?_;simp only[Tryz.results124,Tryz.ntmps124]
 repeat' (first|(with_reducible first|refine ak ?_|refine aj ?_|intro _)|(simp[*]))
 refine cT (fun(k:Nat)=>k≤l.length∧db p (l.drop k) k=R) [0,1,7] (fun(k:Nat)=>[(8,.w false false (.int .i64 k))]) [] (fun(k:Nat)=>[]) (fun(k:Nat)=>l.length-k) (fun(_u:Unit)=>R=-1) [] (fun(_u:Unit)=>[]) [] (fun(_u:Unit)=>[]) (0) ⟨Nat.zero_le _,kR⟩ (by simp) (by simp) (fun k hk=>?_) (fun _u hf=>?_)
 ·obtain⟨hk,hj⟩:=hk;by_cases hlt:k<l.length
  ·have c1:=h (nth l k);have hj':=hj;rw[df l k hlt] at hj';unfold db at hj';have kj:=keep hj';clear hj hj' h
   repeat' (first|(with_reducible first|refine ak ?_|refine bA ?_|refine aH ?_|refine aA ?_|refine aj ?_|refine aD ?_|refine And.intro ?_ ?_|refine lM ?_ ?_|refine cw (c1) ?_|intro _)|(simp[*,hlt])|(refine ai (c1) ?_ ?_;(· (simp[*];done))))
   all_goals first
    |exact bl (by omega) (by omega)
    |omega
    |(rename_i hp;rw[if_pos hp] at kj;exact kj)
    |(rename_i hp;rw[if_neg (by rw[hp];decide)] at kj;(refine nx (k+1) ?_ ?_;(· exact⟨by omega,kj⟩);(refine aX ?_ ?_<;>first|trivial|(simp[*];done))))
    |skip
  ·have hke:k=l.length:=by omega
   subst hke
   repeat' (first|(with_reducible first|refine ak ?_|refine bf ?_|refine aj ?_|refine aD ?_|intro _)|(simp[*]))
   all_goals (refine bY () ?_ ?_;(· rw[←hj,List.drop_length];rfl);(refine aX ?_ ?_<;>first|trivial|(simp[*];done)))
 ·subst hf
  repeat' (first|(with_reducible first|refine ak ?_|refine aA ?_|refine aj ?_|intro _)|(simp[*]))
theorem HB(l:List Int)(hl:l.length<100000)(g:FuncId)(av:List PV)(p:Int→Bool)(h:∀x,az Tz.prog g (.int .i64 x::av) (.bool (p x)) true):az Tz.prog 93 [.sl l.length (ints l),.fn g av] (.bool (l.any p)) true:=by
 have c1:=HA l hl g av p h;have h:=nD p l;generalize idxOf p l=i at *;rw[←h];clear h;refine rcK Tz.func93 ?_;simp only[Tryz.results93,Tryz.ntmps93]
 repeat' (first|(with_reducible first|refine ak ?_|refine aA ?_|refine aj ?_|refine And.intro ?_ ?_|refine cw (c1) ?_|intro _)|(simp[*])|(refine ai (c1) ?_ ?_;(· (simp[*];done))))
theorem HC(l:List Car)(hl:l.length<100000)(g:FuncId)(av:List PV)(p:Car→Bool)(h:∀x,az Tz.prog g (.agg (Tw.bW x)::av) (.bool (p x)) true):az Tz.prog 167 [.sl l.length (bF l),.fn g av] (.int .i64 (idxOf p l)) true:=by
 generalize hR:idxOf p l=R;have kR:aP (db p l 0=R):=keep hR;clear hR;refine rcK Tz.func167 ?_;simp only[Tryz.results167,Tryz.ntmps167]
 repeat' (first|(with_reducible first|refine ak ?_|refine aj ?_|intro _)|(simp[*]))
 refine cT (fun(k:Nat)=>k≤l.length∧db p (l.drop k) k=R) [0,1,7] (fun(k:Nat)=>[(8,.w false false (.int .i64 k))]) [] (fun(k:Nat)=>[]) (fun(k:Nat)=>l.length-k) (fun(_u:Unit)=>R=-1) [] (fun(_u:Unit)=>[]) [] (fun(_u:Unit)=>[]) (0) ⟨Nat.zero_le _,kR⟩ (by simp) (by simp) (fun k hk=>?_) (fun _u hf=>?_)
 ·obtain⟨hk,hj⟩:=hk;by_cases hlt:k<l.length
  ·have c1:=h (nth l k);have hj':=hj;rw[df l k hlt] at hj';unfold db at hj';have kj:=keep hj';clear hj hj' h
   repeat' (first|(with_reducible first|refine ak ?_|refine bA ?_|refine aH ?_|refine aA ?_|refine aj ?_|refine aD ?_|refine And.intro ?_ ?_|refine lM ?_ ?_|refine cw (c1) ?_|intro _)|(simp[*,hlt])|(refine ai (c1) ?_ ?_;(· (simp[*];done))))
   all_goals first
    |exact bl (by omega) (by omega)
    |omega
    |(rename_i hp;rw[if_pos hp] at kj;exact kj)
    |(rename_i hp;rw[if_neg (by rw[hp];decide)] at kj;(refine nx (k+1) ?_ ?_;(· exact⟨by omega,kj⟩);(refine aX ?_ ?_<;>first|trivial|(simp[*];done))))
    |skip
  ·have hke:k=l.length:=by omega
   subst hke
   repeat' (first|(with_reducible first|refine ak ?_|refine bf ?_|refine aj ?_|refine aD ?_|intro _)|(simp[*]))
   all_goals (refine bY () ?_ ?_;(· rw[←hj,List.drop_length];rfl);(refine aX ?_ ?_<;>first|trivial|(simp[*];done)))
 ·subst hf
  repeat' (first|(with_reducible first|refine ak ?_|refine aA ?_|refine aj ?_|intro _)|(simp[*]))
theorem HD(l:List Car)(hl:l.length<100000)(g:FuncId)(av:List PV)(p:Car→Bool)(h:∀x,az Tz.prog g (.agg (Tw.bW x)::av) (.bool (p x)) true):az Tz.prog 128 [.sl l.length (bF l),.fn g av] (.bool (l.any p)) true:=by
 have c1:=HC l hl g av p h;have h:=nD p l;generalize idxOf p l=i at *;rw[←h];clear h;refine rcK Tz.func128 ?_;simp only[Tryz.results128,Tryz.ntmps128]
 repeat' (first|(with_reducible first|refine ak ?_|refine aA ?_|refine aj ?_|refine And.intro ?_ ?_|refine cw (c1) ?_|intro _)|(simp[*])|(refine ai (c1) ?_ ?_;(· (simp[*];done))))
theorem HF(l:List Ord)(hl:l.length<100000)(g:FuncId)(av:List PV)(p:Ord→Bool)(h:∀x,az Tz.prog g (.agg (Tw.bE x)::av) (.bool (p x)) true):az Tz.prog 168 [.sl l.length (bD l),.fn g av] (.int .i64 (idxOf p l)) true:=by
 generalize hR:idxOf p l=R;have kR:aP (db p l 0=R):=keep hR;clear hR;refine rcK Tz.func168 ?_;simp only[Tryz.results168,Tryz.ntmps168]
 repeat' (first|(with_reducible first|refine ak ?_|refine aj ?_|intro _)|(simp[*]))
 refine cT (fun(k:Nat)=>k≤l.length∧db p (l.drop k) k=R) [0,1,7] (fun(k:Nat)=>[(8,.w false false (.int .i64 k))]) [] (fun(k:Nat)=>[]) (fun(k:Nat)=>l.length-k) (fun(_u:Unit)=>R=-1) [] (fun(_u:Unit)=>[]) [] (fun(_u:Unit)=>[]) (0) ⟨Nat.zero_le _,kR⟩ (by simp) (by simp) (fun k hk=>?_) (fun _u hf=>?_)
 ·obtain⟨hk,hj⟩:=hk;by_cases hlt:k<l.length
  ·have c1:=h (nth l k);have hj':=hj;rw[df l k hlt] at hj';unfold db at hj';have kj:=keep hj';clear hj hj' h
   repeat' (first|(with_reducible first|refine ak ?_|refine bA ?_|refine aH ?_|refine aA ?_|refine aj ?_|refine aD ?_|refine And.intro ?_ ?_|refine lM ?_ ?_|refine cw (c1) ?_|intro _)|(simp[*,hlt])|(refine ai (c1) ?_ ?_;(· (simp[*];done))))
   all_goals first
    |exact bl (by omega) (by omega)
    |omega
    |(rename_i hp;rw[if_pos hp] at kj;exact kj)
    |(rename_i hp;rw[if_neg (by rw[hp];decide)] at kj;(refine nx (k+1) ?_ ?_;(· exact⟨by omega,kj⟩);(refine aX ?_ ?_<;>first|trivial|(simp[*];done))))
    |skip
  ·have hke:k=l.length:=by omega
   subst hke
   repeat' (first|(with_reducible first|refine ak ?_|refine bf ?_|refine aj ?_|refine aD ?_|intro _)|(simp[*]))
   all_goals (refine bY () ?_ ?_;(· rw[←hj,List.drop_length];rfl);(refine aX ?_ ?_<;>first|trivial|(simp[*];done)))
 ·subst hf
  repeat' (first|(with_reducible first|refine ak ?_|refine aA ?_|refine aj ?_|intro _)|(simp[*]))
theorem HG(l:List Ord)(hl:l.length<100000)(g:FuncId)(av:List PV)(p:Ord→Bool)(h:∀x,az Tz.prog g (.agg (Tw.bE x)::av) (.bool (p x)) true):az Tz.prog 131 [.sl l.length (bD l),.fn g av] (.bool (l.any p)) true:=by
 have c1:=HF l hl g av p h;have h:=nD p l;generalize idxOf p l=i at *;rw[←h];clear h;refine rcK Tz.func131 ?_;simp only[Tryz.results131,Tryz.ntmps131]
 repeat' (first|(with_reducible first|refine ak ?_|refine aA ?_|refine aj ?_|refine And.intro ?_ ?_|refine cw (c1) ?_|intro _)|(simp[*])|(refine ai (c1) ?_ ?_;(· (simp[*];done))))
theorem HH(x y:Car):az Tz.prog 129 [.agg (Tw.bW y),.ip [.fn 100 []] 0,.ip (Tw.bW x) 0] (.bool (decide (y.1=x.1))) true:=by
 have c1:=uZ y;have c2:=uZ x;unfold Tw.bW at *;refine rcK Tz.func129 ?_;simp only[Tryz.results129,Tryz.ntmps129]
 repeat' (first|(with_reducible first|refine ak ?_|refine aA ?_|refine aj ?_|refine bo (id:=1) 8 mixed (by decide +kernel) ?_|refine And.intro ?_ ?_|refine cw (c1) ?_|refine cw (c2) ?_|intro _)|(simp[*])|(refine ai (c1) ?_ ?_;(· (simp[*];done)))|(refine ai (c2) ?_ ?_;(· (simp[*];done))))
theorem HI(x y:Ord):az Tz.prog 132 [.agg (Tw.bE y),.ip [.fn 104 []] 0,.ip (Tw.bE x) 0] (.bool (decide (y.1=x.1))) true:=by
 have c1:=u5 y;have c2:=u5 x;unfold Tw.bE at *;refine rcK Tz.func132 ?_;simp only[Tryz.results132,Tryz.ntmps132]
 repeat' (first|(with_reducible first|refine ak ?_|refine aA ?_|refine aj ?_|refine bo (id:=1) 8 mixed (by decide +kernel) ?_|refine And.intro ?_ ?_|refine cw (c1) ?_|refine cw (c2) ?_|intro _)|(simp[*])|(refine ai (c1) ?_ ?_;(· (simp[*];done)))|(refine ai (c2) ?_ ?_;(· (simp[*];done))))
def mF{α:Type}(nm:α→ByteArray)(mr:α→Int)(l:List α)(k:Nat)(x:α):Int:=bO [aR (fw (nm x)) 4,aR (!(l.take k).any (fun y=>decide (nm y=nm x))) 5,mr x]
def eJ{α:Type}(nm:α→ByteArray)(mr:α→Int)(l:List α):List α→Nat→Int×Int
 |[],_=>(0,0)
 |x::r,k=>if mF nm mr l k x=0 then eJ nm mr l r (k+1) else (k,mF nm mr l k x)
def fU{α:Type}(nm:α→ByteArray)(mr:α→Int)(l:List α):Int×Int:=eJ nm mr l l 0
@[simp] theorem Td(l:List Car)(k:Nat):(bF l).take (k*3)=bF (l.take k):=by
 induction l generalizing k with
 |nil=>simp[bF]
 |cons x r ih=>
  cases k with
  |zero=>simp[bF]
  |succ k=>
   have e:bF (x::r)=Tw.bW x++bF r:=rfl;rw[e,List.take_succ_cons,show bF (x::r.take k)=Tw.bW x++bF (r.take k) from rfl,←ih,Nat.add_mul,List.take_append];simp[Tw.bW]
@[simp] theorem Te(l:List Ord)(k:Nat):(bD l).take (k*4)=bD (l.take k):=by
 induction l generalizing k with
 |nil=>simp[bD]
 |cons x r ih=>
  cases k with
  |zero=>simp[bD]
  |succ k=>
   have e:bD (x::r)=Tw.bE x++bD r:=rfl;rw[e,List.take_succ_cons,show bD (x::r.take k)=Tw.bE x++bD (r.take k) from rfl,←ih,Nat.add_mul,List.take_append];simp[Tw.bE]
theorem HJ(l:List Car)(hl:l.length<100000)(hs:∀x∈l,x.1.size<1000000):az Tz.prog 99 [.sl l.length (bF l),.fn 100 [],.fn 101 []] (.tup [.int .i64 (fU Prod.fst fz l).1,.int .i64 (fU Prod.fst fz l).2]) true:=by
 generalize hR:fU Prod.fst fz l=R;obtain⟨R1,R2⟩:=R;have kR:aP (eJ Prod.fst fz l l 0=(R1,R2)):=keep hR;clear hR;refine rcK Tz.func99 ?_;simp only[Tryz.results99,Tryz.ntmps99]
 repeat' (first|(with_reducible first|refine ak ?_|refine aj ?_|intro _)|(simp[*]))
 refine cT (fun(k:Nat)=>k≤l.length∧eJ Prod.fst fz l (l.drop k) k=(R1,R2)) [0,2,4,12,13] (fun(k:Nat)=>[(14,.w false false (.int .i64 k))]) [0] (fun(k:Nat)=>[]) (fun(k:Nat)=>l.length-k) (fun(_u:Unit)=>R1=0∧R2=0) [] (fun(_u:Unit)=>[]) [0] (fun(_u:Unit)=>[]) (0) ⟨Nat.zero_le _,kR⟩ (by simp) (by simp) (fun k hk=>?_) (fun _u hf=>?_)
 ·obtain⟨hk,hj⟩:=hk;by_cases hlt:k<l.length
  ·have c1:=HD (l.take k) (by rw[List.length_take];omega) 129 [.ip [.fn 100 []] 0,.ip (Tw.bW (nth l k)) 0] (fun y=>decide (y.1=(nth l k).1)) (fun y=>HH (nth l k) y);rw[List.length_take_of_le hk] at c1;have c2:=Al (nth l k).1 (hs _ (jw hlt));have c3:=uZ (nth l k);have c4:=Hx k (nth l k);have c5:=Aj (aR (fw (nth l k).1) 4) (aR (!(l.take k).any (fun y=>decide (y.1=(nth l k).1))) 5) (fz (nth l k));have hj':=hj;rw[df l k hlt] at hj';unfold eJ mF at hj';generalize bO [aR (fw (nth l k).1) 4,aR (!(l.take k).any (fun y=>decide (y.1=(nth l k).1))) 5,fz (nth l k)]=e at hj' c5;have kj:=keep hj';clear hj hj' hs;unfold Tw.bW at c1 c3 c4
   repeat' (first|(with_reducible first|refine ak ?_|refine bA ?_|refine aH ?_|refine aA ?_|refine aj ?_|refine bo (id:=5) 15 mixed (by decide +kernel) ?_|refine aD ?_|refine And.intro ?_ ?_ |  refine gI ?_ ?_|refine cw (c1) ?_|refine cw (c2) ?_|refine cw (c3) ?_|refine cw (c4) ?_|refine cw (bK _ _) ?_|refine cw (c5) ?_|intro _)|(simp[*,hlt,Tw.bW])|(refine ai (c1) ?_ ?_;(· (simp[*];done)))|(refine ai (c2) ?_ ?_;(· (simp[*];done)))|(refine ai (c3) ?_ ?_;(· (simp[*];done)))|(refine ai (c4) ?_ ?_;(· (simp[*];done)))|(refine ai (bK _ _) ?_ ?_;(· (simp[*];done)))|(refine ai (c5) ?_ ?_;(· (simp[*];done))))
   all_goals first
    |omega
    |exact bl (by omega) (by omega)
    |(rename_i hp;rw[if_neg hp] at kj;exact (Prod.mk.inj kj).1)
    |(rename_i hp;rw[if_neg hp] at kj;exact (Prod.mk.inj kj).2)
    |(rename_i hp;rw[if_pos hp] at kj;(refine nx (k+1) ?_ ?_;(· exact⟨by omega,kj⟩);(refine aX ?_ ?_<;>first|trivial|(simp[*];done))))
  ·have hke:k=l.length:=by omega
   subst hke;rw[List.drop_length] at hj;unfold eJ at hj
   repeat' (first|(with_reducible first|refine ak ?_|refine bf ?_|refine aj ?_|refine aD ?_|intro _)|(simp[*]))
   all_goals (refine bY () ?_ ?_;(· exact⟨(Prod.mk.inj hj).1.symm,(Prod.mk.inj hj).2.symm⟩);(refine aX ?_ ?_<;>first|trivial|(simp[*];done)))
 ·obtain⟨rfl,rfl⟩:=hf
  repeat' (first|(with_reducible first|refine ak ?_|refine aA ?_|refine aj ?_|intro _)|(simp[*]))
theorem HK(l:List Ord)(hl:l.length<100000)(hs:∀x∈l,x.1.size<1000000):az Tz.prog 103 [.sl l.length (bD l),.fn 104 [],.fn 105 []] (.tup [.int .i64 (fU Prod.fst fA l).1,.int .i64 (fU Prod.fst fA l).2]) true:=by
 generalize hR:fU Prod.fst fA l=R;obtain⟨R1,R2⟩:=R;have kR:aP (eJ Prod.fst fA l l 0=(R1,R2)):=keep hR;clear hR;refine rcK Tz.func103 ?_;simp only[Tryz.results103,Tryz.ntmps103]
 repeat' (first|(with_reducible first|refine ak ?_|refine aj ?_|intro _)|(simp[*]))
 refine cT (fun(k:Nat)=>k≤l.length∧eJ Prod.fst fA l (l.drop k) k=(R1,R2)) [0,2,4,12,13] (fun(k:Nat)=>[(14,.w false false (.int .i64 k))]) [0] (fun(k:Nat)=>[]) (fun(k:Nat)=>l.length-k) (fun(_u:Unit)=>R1=0∧R2=0) [] (fun(_u:Unit)=>[]) [0] (fun(_u:Unit)=>[]) (0) ⟨Nat.zero_le _,kR⟩ (by simp) (by simp) (fun k hk=>?_) (fun _u hf=>?_)
 ·obtain⟨hk,hj⟩:=hk;by_cases hlt:k<l.length
  ·have c1:=HG (l.take k) (by rw[List.length_take];omega) 132 [.ip [.fn 104 []] 0,.ip (Tw.bE (nth l k)) 0] (fun y=>decide (y.1=(nth l k).1)) (fun y=>HI (nth l k) y);rw[List.length_take_of_le hk] at c1;have c2:=Al (nth l k).1 (hs _ (jw hlt));have c3:=u5 (nth l k);have c4:=Hy k (nth l k);have c5:=Aj (aR (fw (nth l k).1) 4) (aR (!(l.take k).any (fun y=>decide (y.1=(nth l k).1))) 5) (fA (nth l k));have hj':=hj;rw[df l k hlt] at hj';unfold eJ mF at hj';generalize bO [aR (fw (nth l k).1) 4,aR (!(l.take k).any (fun y=>decide (y.1=(nth l k).1))) 5,fA (nth l k)]=e at hj' c5;have kj:=keep hj';clear hj hj' hs;unfold Tw.bE at c1 c3 c4
   repeat' (first|(with_reducible first|refine ak ?_|refine bA ?_|refine aH ?_|refine aA ?_|refine aj ?_|refine bo (id:=5) 15 mixed (by decide +kernel) ?_|refine aD ?_|refine And.intro ?_ ?_ |  refine gI ?_ ?_|refine cw (c1) ?_|refine cw (c2) ?_|refine cw (c3) ?_|refine cw (c4) ?_|refine cw (bK _ _) ?_|refine cw (c5) ?_|intro _)|(simp[*,hlt,Tw.bE])|(refine ai (c1) ?_ ?_;(· (simp[*];done)))|(refine ai (c2) ?_ ?_;(· (simp[*];done)))|(refine ai (c3) ?_ ?_;(· (simp[*];done)))|(refine ai (c4) ?_ ?_;(· (simp[*];done)))|(refine ai (bK _ _) ?_ ?_;(· (simp[*];done)))|(refine ai (c5) ?_ ?_;(· (simp[*];done))))
   all_goals first
    |omega
    |exact bl (by omega) (by omega)
    |(rename_i hp;rw[if_neg hp] at kj;exact (Prod.mk.inj kj).1)
    |(rename_i hp;rw[if_neg hp] at kj;exact (Prod.mk.inj kj).2)
    |(rename_i hp;rw[if_pos hp] at kj;(refine nx (k+1) ?_ ?_;(· exact⟨by omega,kj⟩);(refine aX ?_ ?_<;>first|trivial|(simp[*];done))))
  ·have hke:k=l.length:=by omega
   subst hke;rw[List.drop_length] at hj;unfold eJ at hj
   repeat' (first|(with_reducible first|refine ak ?_|refine bf ?_|refine aj ?_|refine aD ?_|intro _)|(simp[*]))
   all_goals (refine bY () ?_ ?_;(· exact⟨(Prod.mk.inj hj).1.symm,(Prod.mk.inj hj).2.symm⟩);(refine aX ?_ ?_<;>first|trivial|(simp[*];done)))
 ·obtain⟨rfl,rfl⟩:=hf
  repeat' (first|(with_reducible first|refine ak ?_|refine aA ?_|refine aj ?_|intro _)|(simp[*]))
theorem HL(l:List Par)(hl:l.length<100000)(v:Par):az Tz.prog 133 [.sl l.length (bH l),.agg (Tw.cL v)] (.int .i64 (idxOf (fun y=>decide (v.1=y.1)&&decide (v.2=y.2)) l)) true:=by
 generalize hR:idxOf (fun y=>decide (v.1=y.1)&&decide (v.2=y.2)) l=R;have kR:aP (db (fun y=>decide (v.1=y.1)&&decide (v.2=y.2)) l 0=R):=keep hR;clear hR;obtain⟨v1,v2⟩:=v;simp only[Tw.cL];refine rcK Tz.func133 ?_;simp only[Tryz.results133,Tryz.ntmps133]
 repeat' (first|(with_reducible first|refine ak ?_|refine aj ?_|intro _)|(simp[*]))
 refine cT (fun(k:Nat)=>k≤l.length∧db (fun y=>decide (v1=y.1)&&decide (v2=y.2)) (l.drop k) k=R) [0,3,7] (fun(k:Nat)=>[(8,.w false false (.int .i64 k))]) [0] (fun(k:Nat)=>[]) (fun(k:Nat)=>l.length-k) (fun(_u:Unit)=>R=-1) [] (fun(_u:Unit)=>[]) [0] (fun(_u:Unit)=>[]) (0) ⟨Nat.zero_le _,kR⟩ (by simp) (by simp) (fun k hk=>?_) (fun _u hf=>?_)
 ·obtain⟨hk,hj⟩:=hk;by_cases hlt:k<l.length
  ·have hj':=hj;rw[df l k hlt] at hj';unfold db at hj';have kj:=keep hj';clear hj hj'
   repeat' (first|(with_reducible first|refine ak ?_|refine bA ?_|refine aH ?_|refine aA ?_|refine aj ?_|refine bo (id:=4) 6 mixed (by decide +kernel) ?_|refine aD ?_|refine And.intro ?_ ?_|refine lM ?_ ?_|intro _)|(simp[*,hlt,Tw.cL]))
   all_goals first
    |omega
    |exact bl (by omega) (by omega)
    |(rename_i hp;rw[if_pos (by simpa using hp)] at kj;exact kj)
    |(rename_i hp;rw[if_neg (by simpa using hp)] at kj;(refine nx (k+1) ?_ ?_;(· exact⟨by omega,kj⟩);(refine aX ?_ ?_<;>first|trivial|(simp[*];done))))
  ·have hke:k=l.length:=by omega
   subst hke
   repeat' (first|(with_reducible first|refine ak ?_|refine bf ?_|refine aj ?_|refine aD ?_|intro _)|(simp[*]))
   all_goals (refine bY () ?_ ?_;(· rw[←hj,List.drop_length];rfl);(refine aX ?_ ?_<;>first|trivial|(simp[*];done)))
 ·subst hf
  repeat' (first|(with_reducible first|refine ak ?_|refine aA ?_|refine aj ?_|intro _)|(simp[*]))
theorem HM(l:List Par)(hl:l.length<100000)(v:Par):az Tz.prog 107 [.sl l.length (bH l),.agg (Tw.cL v)] (.bool (l.any fun y=>decide (v.1=y.1)&&decide (v.2=y.2))) true:=by
 have c1:=HL l hl v;have h:=nD (fun y=>decide (v.1=y.1)&&decide (v.2=y.2)) l;generalize idxOf (fun y:Par=>decide (v.1=y.1)&&decide (v.2=y.2)) l=i at *;rw[←h];clear h;obtain⟨v1,v2⟩:=v;simp only[Tw.cL] at *;refine rcK Tz.func107 ?_;simp only[Tryz.results107,Tryz.ntmps107]
 repeat' (first|(with_reducible first|refine ak ?_|refine aA ?_|refine aj ?_|refine And.intro ?_ ?_|refine cw (c1) ?_|intro _)|(simp[*])|(refine ai (c1) ?_ ?_;(· (simp[*];done))))
def dJ{α:Type}(E:Nat→α→Int):List α→Nat→Int×Int
 |[],_=>(0,0)
 |x::r,k=>if E k x=0 then dJ E r (k+1) else (k,E k x)
def b8(w:List (List Int)):List PV:=w.map Tw.wj
@[simp] theorem Tf(w:List (List Int)):(b8 w).length=w.length:=by simp[b8]
@[simp] theorem Tg(w:List (List Int))(k:Nat)(h:k<w.length):bS (b8 w) k=.sl (nth w k).length (ints (nth w k)):=qn Tw.wj w k h
@[simp] theorem Ti(l:List Par)(k:Nat):(bH l).take (k*2)=bH (l.take k):=by
 induction l generalizing k with
 |nil=>simp[bH]
 |cons x r ih=>
  cases k with
  |zero=>simp[bH]
  |succ k=>
   have e:bH (x::r)=Tw.cL x++bH r:=rfl;rw[e,List.take_succ_cons,show bH (x::r.take k)=Tw.cL x++bH (r.take k) from rfl,←ih,Nat.add_mul,List.take_append];simp[Tw.cL]
def mG(nc:Nat)(row:List Int):Int:=bO [aR (decide ((row.length:Int)=nc)) 10,aR (!(row.any fun x=>!bt x 0 100000)) 2]
def rq(no nc:Nat)(zs:List Par)(k:Nat)(p:Par):Int:=bO [aR (bt p.1 0 ((no:Int)-1)&&bt p.2 0 ((nc:Int)-1)) 6,aR (!((zs.take k).any fun y=>decide (p.1=y.1)&&decide (p.2=y.2))) 26]
def fV{α:Type}(E:Nat→α→Int)(l:List α)(k:Nat)(T:Int×Int):Int×Int:=if (dJ E l k).2≠0 then dJ E l k else T
theorem HN{α:Type}(E:Nat→α→Int)(x:α)(l:List α)(k:Nat)(T:Int×Int):fV E (x::l) k T=if E k x=0 then fV E l (k+1) T else ((k:Int),E k x):=by
 unfold fV;rw[dJ];by_cases h:E k x=0
 ·simp only[h,if_true]
 ·simp[h]
theorem HO{α:Type}(E:Nat→α→Int)(k:Nat)(T:Int×Int):fV E [] k T=T:=by simp[fV,dJ]
def lg(no nc:Nat)(zs:List Par):Int×Int:=if (64:Int)<zs.length then (0,8) else dJ (rq no nc zs) zs 0
def jY(af:List Car)(os:List Ord)(wt:List (List Int))(zs:List Par):Int×Int:=
 if (8:Int)<af.length then (0,8) else if (fU Prod.fst fz af).2≠0 then fU Prod.fst fz af else if (8:Int)<os.length then (0,8) else if (fU Prod.fst fA os).2≠0 then fU Prod.fst fA os else
 if (wt.length:Int)≠os.length then (0,10) else fV (fun _=>mG af.length) wt 0 (lg os.length af.length zs)
theorem HP(af:List Car)(os:List Ord)(wt:List (List Int))(zs:List Par)(h1:af.length<100000)(h2:os.length<100000)(h3:wt.length<100000)(h4:zs.length<100000)(hc:∀x∈af,x.1.size<1000000)(ho:∀x∈os,x.1.size<1000000)(hw:∀x∈wt,x.length<100000):az Tz.prog 55 [.agg [.sl af.length (bF af),.sl os.length (bD os),.sl wt.length (b8 wt),.sl zs.length (bH zs)]] (.tup [.int .i64 (jY af os wt zs).1,.int .i64 (jY af os wt zs).2]) true:=by
 have c54:=HJ af h1 hc;have c58:=HK os h2 ho;generalize hR:jY af os wt zs=R;obtain⟨R1,R2⟩:=R;unfold jY at hR;generalize fU Prod.fst fz af=A at *;generalize fU Prod.fst fA os=O at *;obtain⟨A1,A2⟩:=A;obtain⟨O1,O2⟩:=O;have kR:=keep hR;have kw:=keep hw;clear hR hw hc ho;simp only[] at c54 c58;refine rcK Tz.func55 ?_;simp only[Tryz.results55,Tryz.ntmps55]
 repeat' (first|(with_reducible first|refine ak ?_|refine aH ?_|refine aA ?_|refine aj ?_|refine aD ?_|refine And.intro ?_ ?_ |  refine gI ?_ ?_|refine kC ?_ ?_|refine cw (c54) ?_|refine cw (c58) ?_|intro _)|(simp[*])|(refine ai (c54) ?_ ?_;(· (simp[*];done)))|(refine ai (c58) ?_ ?_;(· (simp[*];done))))
 rotate_right
 ·rename_i b1 b2 b3 b4 b5
  have kT:aP (fV (fun _=>mG af.length) wt 0 (lg os.length af.length zs)=(R1,R2)):=by
   rw[if_neg b1,if_neg (by simpa using b2),if_neg b3,if_neg (by simpa using b4),if_neg (by simpa using b5)] at kR;exact kR
  have kl:=keep b5;clear kR c54 c58 b1 b2 b3 b4 b5;refine cT (fun(k:Nat)=>k≤wt.length∧fV (fun _=>mG af.length) (wt.drop k) k (lg os.length af.length zs)=(R1,R2)) [1,50,51] (fun(k:Nat)=>[(52,.w false false (.int .i64 k))]) [0] (fun(k:Nat)=>[]) (fun(k:Nat)=>wt.length-k) (fun(_u:Unit)=>lg os.length af.length zs=(R1,R2)) [1] (fun(_u:Unit)=>[]) [0] (fun(_u:Unit)=>[]) (0) ⟨Nat.zero_le _,kT⟩ (by simp) (by simp) (fun k hk=>?_) (fun _u hf=>?_)
  ·obtain⟨hk,hj⟩:=hk
   have hlen:wt.length=os.length:=by have:=kl;unfold aP at this;omega
   by_cases hlt:k<wt.length
   ·have hlt2:k<os.length:=by omega
    have c1:=HB (nth wt k) (kw _ (jw hlt)) 106 [] _ Hz;have c2:=lP (aR (decide (((nth wt k).length:Int)=af.length)) 10) (aR (!((nth wt k).any fun x=>!bt x 0 100000)) 2);rw[df wt k hlt,HN] at hj;unfold mG at hj;generalize bO [aR (decide (((nth wt k).length:Int)=af.length)) 10,aR (!((nth wt k).any fun x=>!bt x 0 100000)) 2]=e at hj c2;have kj:=keep hj;clear hj hlen
    repeat' (first|(with_reducible first|refine ak ?_|refine bA ?_|refine aH ?_|refine aA ?_|refine aj ?_|refine aD ?_|refine And.intro ?_ ?_ |  refine gI ?_ ?_|refine cw (c1) ?_|refine cw (c2) ?_|refine cw (bK _ _) ?_|intro _)|(simp[*,hlt,hlt2])|(refine ai (c1) ?_ ?_;(· (simp[*];done)))|(refine ai (c2) ?_ ?_;(· (simp[*];done)))|(refine ai (bK _ _) ?_ ?_;(· (simp[*];done))))
    all_goals first
     |omega
     |exact bl (by omega) (by omega)
     |(rename_i hp;rw[if_neg hp] at kj;exact (Prod.mk.inj kj).1)
     |(rename_i hp;rw[if_neg hp] at kj;exact (Prod.mk.inj kj).2)
     |(rename_i hp;rw[if_pos hp] at kj;(refine nx (k+1) ?_ ?_;(· exact⟨by omega,kj⟩);(refine aX ?_ ?_<;>first|trivial|(simp[*];done))))
   ·have hlt2:¬k<os.length:=by omega
    have hke:k=wt.length:=by omega
    rw[hke,List.drop_length,HO] at hj;have kj:=keep hj;clear hj hlen hke
    repeat' (first|(with_reducible first|refine ak ?_|refine bf ?_|refine aj ?_|refine aD ?_|intro _)|(simp[*,hlt,hlt2]))
    all_goals first
     |omega
     |(refine bY () ?_ ?_;(· exact kj);(refine aX ?_ ?_<;>first|trivial|(simp[*];done)))
  ·unfold lg at hf;have kf:=keep hf;clear hf kT kw kl
   repeat' (first|(with_reducible first|refine ak ?_|refine aH ?_|refine aA ?_|refine aj ?_|refine aD ?_|refine And.intro ?_ ?_|refine kC ?_ ?_|intro _)|(simp[*]))
   rotate_right
   ·rename_i b6;rw[if_neg b6] at kf;have k2:=keep b6;clear b6;refine cT (fun(k:Nat)=>k≤zs.length∧dJ (rq os.length af.length zs) (zs.drop k) k=(R1,R2)) [1,81,82] (fun(k:Nat)=>[(83,.w false false (.int .i64 k))]) [0] (fun(k:Nat)=>[]) (fun(k:Nat)=>zs.length-k) (fun(_u:Unit)=>R1=0∧R2=0) [] (fun(_u:Unit)=>[]) [0] (fun(_u:Unit)=>[]) (0) ⟨Nat.zero_le _,kf⟩ (by simp) (by simp) (fun k hk=>?_) (fun _u hf=>?_)
    ·obtain⟨hk,hj⟩:=hk;by_cases hlt:k<zs.length
     ·have c1:=HM (zs.take k) (by rw[List.length_take];omega) (nth zs k);rw[List.length_take_of_le hk] at c1;have w1:=cV (nth zs k).1 0 ((os.length:Int)-1);have w2:=cV (nth zs k).2 0 ((af.length:Int)-1);have c2:=lP (aR (bt (nth zs k).1 0 ((os.length:Int)-1)&&bt (nth zs k).2 0 ((af.length:Int)-1)) 6) (aR (!((zs.take k).any fun y=>decide ((nth zs k).1=y.1)&&decide ((nth zs k).2=y.2))) 26);rw[df zs k hlt,dJ] at hj;have hE:rq os.length af.length zs k (nth zs k)=bO [aR (bt (nth zs k).1 0 ((os.length:Int)-1)&&bt (nth zs k).2 0 ((af.length:Int)-1)) 6,aR (!((zs.take k).any fun y=>decide ((nth zs k).1=y.1)&&decide ((nth zs k).2=y.2))) 26]:=rfl;rw[hE] at hj;clear hE;generalize bO [aR (bt (nth zs k).1 0 ((os.length:Int)-1)&&bt (nth zs k).2 0 ((af.length:Int)-1)) 6,aR (!((zs.take k).any fun y=>decide ((nth zs k).1=y.1)&&decide ((nth zs k).2=y.2))) 26]=e at hj c2;have kj:=keep hj;clear hj;unfold Tw.cL at c1;generalize bt (nth zs k).1 0 ((os.length:Int)-1)=g1 at w1 c2;generalize bt (nth zs k).2 0 ((af.length:Int)-1)=g2 at w2 c2
      cases g1 with
      |true=>
       simp only[Bool.true_and] at c2
       repeat' (first|(with_reducible first|refine ak ?_|refine bA ?_|refine aH ?_|refine aA ?_|refine aj ?_|refine bo (id:=27) 13 mixed (by decide +kernel) ?_|refine aD ?_|refine And.intro ?_ ?_ |  refine gI ?_ ?_|refine cw (c1) ?_|refine cw (c2) ?_|refine cw (w1) ?_|refine cw (w2) ?_|refine cw (bK _ _) ?_|intro _)|(simp[*,hlt,Tw.cL])|(refine ai (c1) ?_ ?_;(· (simp[*];done)))|(refine ai (c2) ?_ ?_;(· (simp[*];done)))|(refine ai (w1) ?_ ?_;(· (simp[*];done)))|(refine ai (w2) ?_ ?_;(· (simp[*];done)))|(refine ai (bK _ _) ?_ ?_;(· (simp[*];done))))
       all_goals first
        |omega
        |exact bl (by omega) (by omega)
        |(rename_i hp;rw[if_neg hp] at kj;exact (Prod.mk.inj kj).1)
        |(rename_i hp;rw[if_neg hp] at kj;exact (Prod.mk.inj kj).2)
        |(rename_i hp;rw[if_pos hp] at kj;(refine nx (k+1) ?_ ?_;(· exact⟨by omega,kj⟩);(refine aX ?_ ?_<;>first|trivial|(simp[*];done))))
      |false=>
       simp only[Bool.false_and] at c2
       repeat' (first|(with_reducible first|refine ak ?_|refine bA ?_|refine aH ?_|refine aA ?_|refine aj ?_|refine bo (id:=27) 13 mixed (by decide +kernel) ?_|refine aD ?_|refine And.intro ?_ ?_ |  refine gI ?_ ?_|refine cw (c1) ?_|refine cw (c2) ?_|refine cw (w1) ?_|refine cw (bK _ _) ?_|intro _)|(simp[*,hlt,Tw.cL])|(refine ai (c1) ?_ ?_;(· (simp[*];done)))|(refine ai (c2) ?_ ?_;(· (simp[*];done)))|(refine ai (w1) ?_ ?_;(· (simp[*];done)))|(refine ai (w2) ?_ ?_;(· (simp[*];done)))|(refine ai (bK _ _) ?_ ?_;(· (simp[*];done))))
       all_goals first
        |omega
        |exact bl (by omega) (by omega)
        |(rename_i hp;rw[if_neg hp] at kj;exact (Prod.mk.inj kj).1)
        |(rename_i hp;rw[if_neg hp] at kj;exact (Prod.mk.inj kj).2)
        |(rename_i hp;rw[if_pos hp] at kj;(refine nx (k+1) ?_ ?_;(· exact⟨by omega,kj⟩);(refine aX ?_ ?_<;>first|trivial|(simp[*];done))))
     ·have hke:k=zs.length:=by omega
      subst hke;rw[List.drop_length] at hj;unfold dJ at hj
      repeat' (first|(with_reducible first|refine ak ?_|refine bf ?_|refine aj ?_|refine aD ?_|intro _)|(simp[*]))
      all_goals first
       |omega
       |(refine bY () ?_ ?_;(· exact⟨(Prod.mk.inj hj).1.symm,(Prod.mk.inj hj).2.symm⟩);(refine aX ?_ ?_<;>first|trivial|(simp[*];done)))
    ·obtain⟨rfl,rfl⟩:=hf
     repeat' (first|(with_reducible first|refine ak ?_|refine aA ?_|refine aj ?_|intro _)|(simp[*]))
   all_goals first
    |(rename_i b1;rw[if_pos b1] at kf;first|exact (Prod.mk.inj kf).1|exact (Prod.mk.inj kf).2)
 all_goals first
  |(rename_i b1;rw[if_pos b1] at kR;first|exact (Prod.mk.inj kR).1|exact (Prod.mk.inj kR).2)
  |(rename_i b1 b2;rw[if_neg b1,if_pos (by simpa using b2)] at kR;first|exact (Prod.mk.inj kR).1|exact (Prod.mk.inj kR).2)
  |(rename_i b1 b2 b3;rw[if_neg b1,if_neg (by simpa using b2),if_pos b3] at kR;first|exact (Prod.mk.inj kR).1|exact (Prod.mk.inj kR).2)
  |(rename_i b1 b2 b3 b4;rw[if_neg b1,if_neg (by simpa using b2),if_neg b3,if_pos (by simpa using b4)] at kR;first|exact (Prod.mk.inj kR).1|exact (Prod.mk.inj kR).2)
  |(rename_i b1 b2 b3 b4 b5;rw[if_neg b1,if_neg (by simpa using b2),if_neg b3,if_neg (by simpa using b4),if_pos (by simpa using b5)] at kR;first|exact (Prod.mk.inj kR).1|exact (Prod.mk.inj kR).2)
end Go.Proofs.YthpkmilhiganjaaGreat
namespace Go.Proofs.YthpkmilhiganjaaGreat
open Go Go.Fi Go.Fc
noncomputable def ciR(r:Tw.RND):Int:=(jY r.af r.os r.wt r.zs).1
noncomputable def ceR(r:Tw.RND):Int:=(jY r.af r.os r.wt r.zs).2
theorem chk[ah](r:Tw.RND):az Tz.prog 55 [Tw.bn r] (.tup [.int .i64 (ciR r),.int .i64 (ceR r)]) true:=
 HP r.af r.os r.wt r.zs r.cr.2.2.2.1 r.cr.2.2.2.2.1 r.cr.2.2.2.2.2.1 r.cr.2.2.2.2.2.2 r.cr.1 r.cr.2.1 r.cr.2.2.1
theorem An{α:Type}{E:Nat→α→Int}{l:List α}{k:Nat}{T:Int×Int}(h:(fV E l k T).2=0):fV E l k T=T:=by
 unfold fV at h ⊢;split
 ·rename_i h1;rw[if_pos h1] at h;exact absurd h h1
 ·rfl
theorem lim(r:Tw.RND)(h:ceR r=0):r.os.length≤1000∧r.zs.length≤64∧r.af.length≤1000:=by
 unfold ceR jY at h;split at h
 ·simp at h
 split at h
 ·rename_i h2;exact absurd h h2
 split at h
 ·simp at h
 split at h
 ·rename_i h2;exact absurd h h2
 split at h
 ·simp at h
 rename_i h1 _ h3 _ _;rw[An h] at h;unfold lg at h;split at h
 ·simp at h
 rename_i h6;omega
theorem wo:@Tw.jQ Tz.prog Tz.xfZ Tz.L0 Tz.ja ciR ceR true:=Tz.wo (fun r=>@chk Tz.L0 r) lim
@[reducible] noncomputable def LD:ah:=Tz.L1 ceR
theorem iW(K:dZ):@mf Tz.xfZ LD.toEnvD Tz.prog Tryz.prog K:=@Tw.Lx Tz.prog Tz.xfZ Tz.L0 Tz.ja ciR ceR true K wo
theorem lS:@kQ Tz.xfZ LD.toEnvD Tz.prog Tryz.prog Tz.ja:=Tz.Cm LD.toEnvD (fun _ _ _ _ h=>h.1) (fun w t d=>⟨rfl,rfl,Nat.le_refl _,fun _ _=>rfl⟩)
theorem jc(r:Tw.RND):@az LD Tz.prog 69 [Tw.bn r] (Tw.gp ceR r) false:=Tz.jc ceR r
end Go.Proofs.YthpkmilhiganjaaGreat
namespace Go.Proofs.YthpkmilhiganjaaGreat
open Go Go.Fi
variable[ah]
def cm:Nat→Int
 |0=>1000000
 |k+1=>cm k*10
@[simp] theorem Tj:cm 0=1000000:=rfl
theorem nE(k:Nat)(h:k≤6):0≤cm k∧cm k≤1000000000000:=by
 obtain rfl|rfl|rfl|rfl|rfl|rfl|rfl:k=0∨k=1∨k=2∨k=3∨k=4∨k=5∨k=6:=by omega
 all_goals decide
theorem oh(p:Nat)(hp:p≤6):az Tz.prog 116 [.int .i64 p] (.int .i64 (cm p)) true:=by
 refine rcK Tz.func116 ?_;simp only[Tryz.results116,Tryz.ntmps116]
 repeat' (first|(with_reducible first|refine ak ?_|refine aj ?_|intro _)|(simp[*]))
 refine cT (fun(k:Nat)=>k≤p) [4] (fun(k:Nat)=>[(5,.w false false (.int .i64 k)),(3,.w false false (.int .i64 (cm k)))]) [] (fun(k:Nat)=>[]) (fun(k:Nat)=>p-k) (fun(_u:Unit)=>True) [] (fun(_u:Unit)=>[(3,.w false false (.int .i64 (cm p)))]) [] (fun(_u:Unit)=>[]) (0) (Nat.zero_le _) (by simp) (by simp) (fun k hk=>?_) (fun _u hf=>?_)
 ·by_cases hlt:k<p
  ·have hb:=nE k (by omega);have e:cm (k+1)=cm k*10:=rfl;generalize cm k=n at hb e
   repeat' (first|(with_reducible first|refine ak ?_|refine uQ ?_|refine aH ?_|refine aj ?_|refine aD ?_|refine And.intro ?_ ?_|intro _)|(simp[*,hlt]))
   all_goals first
    |omega
    |exact bl (by omega) (by omega)
    |(refine nx (k+1) ?_ ?_;(· omega);(refine aX ?_ ?_<;>first|trivial|(simp[*,e];done)))
  ·have hke:k=p:=by omega
   subst hke
   repeat' (first|(with_reducible first|refine ak ?_|refine bf ?_|refine aj ?_|refine aD ?_|intro _)|(simp[*]))
   all_goals first
    |omega
    |(refine bY () ?_ ?_;(· trivial);(refine aX ?_ ?_<;>first|trivial|(simp[*];done)))
 ·repeat' (first|(with_reducible first|refine ak ?_|refine aA ?_|refine aj ?_|intro _)|(simp[*]))
end Go.Proofs.YthpkmilhiganjaaGreat
namespace Go.Proofs.YthpkmilhiganjaaGreat
open Go Go.Fi
structure Rd where
 af:List Car
 os:List Ord
 wt:List (List Int)
 zs:List Par
 fit:List (List Bool)
def om(l:List Bool):List PV:=l.map PV.bool
@[simp] theorem Tk(l:List Bool):(om l).length=l.length:=by simp[om]
@[simp] theorem Tl(l:List Bool)(k:Nat)(h:k<l.length):bS (om l) k=.bool (nth l k):=qn _ l k h
def Cs(l:List Bool):PV:=.sl l.length (om l)
def jZ(f:List (List Bool)):List PV:=f.map Cs
@[simp] theorem Tm(f:List (List Bool)):(jZ f).length=f.length:=by simp[jZ]
@[simp] theorem Tn(f:List (List Bool))(k:Nat)(h:k<f.length):bS (jZ f) k=.sl (nth f k).length (om (nth f k)):=qn Cs f k h
def Rd.pv(x:Rd):PV:=.ip [.sl x.af.length (bF x.af),.sl x.os.length (bD x.os),.sl x.wt.length (b8 x.wt),.sl x.zs.length (bH x.zs),.sl x.fit.length (jZ x.fit)] 0
noncomputable def ba(r:Tw.RND):Rd:=⟨r.af,r.os,r.wt,r.zs,(List.range r.os.length).map (Tw.iZ r)⟩
theorem HQ(r:Tw.RND):Tw.mz r=.sl (ba r).fit.length (jZ (ba r).fit):=by
 unfold Tw.mz ba jZ;simp only[List.length_map,List.length_range,List.map_map];rfl
theorem nG(r:Tw.RND)(h:ceR r=0):Tw.gp ceR r=.tup [(ba r).pv,.int .i64 0]:=by
 unfold Tw.gp;rw[if_pos h,HQ];rfl
theorem Ao(r:Tw.RND)(h:ceR r≠0):Tw.gp ceR r=.tup [.cJ,.int .i64 (ceR r)]:=by
 unfold Tw.gp;rw[if_neg h]
variable[ah]
theorem HR(x:Rd)(h:x.af.length<100000)(n:Int):az Tz.prog 91 [x.pv,.int .i64 n] (.int .i64 (aR (bt n 0 ((x.af.length:Int)-1)) 6)) true:=by
 obtain⟨af,os,wt,zs,fit⟩:=x;unfold Rd.pv;simp only[] at h ⊢;refine rcK Tz.func91 ?_;simp only[Tryz.results91,Tryz.ntmps91]
 repeat' (first|(with_reducible first|refine ak ?_|refine aA ?_|refine aj ?_|refine And.intro ?_ ?_|refine cw (cV _ _ _) ?_|refine cw (bK _ _) ?_|intro _)|(simp[*])|(refine ai (cV _ _ _) ?_ ?_;(· (simp[*];done)))|(refine ai (bK _ _) ?_ ?_;(· (simp[*];done))))
 all_goals first
  |exact bl (by omega) (by omega)
  |omega
theorem HT(l:List Int)(hl:l.length<100000)(v:Int):az Tz.prog 166 [.sl l.length (ints l),.int .i64 v] (.int .i64 (idxOf (fun y=>decide (v=y)) l)) true:=by
 generalize hR:idxOf (fun y=>decide (v=y)) l=R;have kR:aP (db (fun y=>decide (v=y)) l 0=R):=keep hR;clear hR;refine rcK Tz.func166 ?_;simp only[Tryz.results166,Tryz.ntmps166]
 repeat' (first|(with_reducible first|refine ak ?_|refine aj ?_|intro _)|(simp[*]))
 refine cT (fun(k:Nat)=>k≤l.length∧db (fun y=>decide (v=y)) (l.drop k) k=R) [0,1,7] (fun(k:Nat)=>[(8,.w false false (.int .i64 k))]) [] (fun(k:Nat)=>[]) (fun(k:Nat)=>l.length-k) (fun(_u:Unit)=>R=-1) [] (fun(_u:Unit)=>[]) [] (fun(_u:Unit)=>[]) (0) ⟨Nat.zero_le _,kR⟩ (by simp) (by simp) (fun k hk=>?_) (fun _u hf=>?_)
 ·obtain⟨hk,hj⟩:=hk;by_cases hlt:k<l.length
  ·have hj':=hj;rw[df l k hlt] at hj';unfold db at hj';have kj:=keep hj';clear hj hj'
   repeat' (first|(with_reducible first|refine ak ?_|refine bA ?_|refine aH ?_|refine aA ?_|refine aj ?_|refine aD ?_|refine And.intro ?_ ?_|refine kC ?_ ?_|intro _)|(simp[*,hlt]))
   all_goals first
    |omega
    |exact bl (by omega) (by omega)
    |(rename_i hp;rw[if_pos (by simpa using hp)] at kj;exact kj)
    |(rename_i hp;rw[if_neg (by simpa using hp)] at kj;(refine nx (k+1) ?_ ?_;(· exact⟨by omega,kj⟩);(refine aX ?_ ?_<;>first|trivial|(simp[*];done))))
  ·have hke:k=l.length:=by omega
   subst hke
   repeat' (first|(with_reducible first|refine ak ?_|refine bf ?_|refine aj ?_|refine aD ?_|intro _)|(simp[*]))
   all_goals (refine bY () ?_ ?_;(· rw[←hj,List.drop_length];rfl);(refine aX ?_ ?_<;>first|trivial|(simp[*];done)))
 ·subst hf
  repeat' (first|(with_reducible first|refine ak ?_|refine aA ?_|refine aj ?_|intro _)|(simp[*]))
theorem lQ(l:List Int)(hl:l.length<100000)(v:Int):az Tz.prog 123 [.sl l.length (ints l),.int .i64 v] (.bool (l.any fun y=>decide (v=y))) true:=by
 have c1:=HT l hl v;have h:=nD (fun y=>decide (v=y)) l;generalize idxOf (fun y:Int=>decide (v=y)) l=i at *;rw[←h];clear h;refine rcK Tz.func123 ?_;simp only[Tryz.results123,Tryz.ntmps123]
 repeat' (first|(with_reducible first|refine ak ?_|refine aA ?_|refine aj ?_|refine And.intro ?_ ?_|refine cw (c1) ?_|intro _)|(simp[*])|(refine ai (c1) ?_ ?_;(· (simp[*];done))))
end Go.Proofs.YthpkmilhiganjaaGreat
