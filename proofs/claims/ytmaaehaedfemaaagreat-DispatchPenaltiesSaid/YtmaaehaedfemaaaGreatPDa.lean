/- Lemmas. -/
import Derived.Test.YtmaaehaedfemaaaGreatPWg
import Derived.Test.YtmaaehaedfemaaaGreatPLg
import Derived.Test.YtmaaehaedfemaaaGreatPLf
set_option linter.unusedSimpArgs false
set_option linter.unusedVariables false
set_option linter.unusedSectionVars false
set_option maxHeartbeats 32000000
set_option maxRecDepth 100000
namespace Go.Proofs.YtmaaehaedfemaaaGreat
open Go Go.Fi
variable[ak]
def a8(ok:Bool)(e:Int):Int:=if ok then 0 else e
theorem dk(ok:Bool)(e:Int):aF Tz.prog 26 [.bool ok,.int .i64 e] (.int .i64 (a8 ok e)) true:=by
 refine rcK Tz.func26 ?_;simp only[Tryz.results26,Tryz.ntmps26]
 repeat' (first|(with_reducible first|refine aj ?_|refine aB ?_|refine aD ?_|refine af ?_|refine al ?_|refine nW ?_ ?_|intro _)|(simp[*]))
 all_goals simp_all[a8]
theorem mixed:Tz.prog.follows .mixedOrders=true:=by kernel_rfl
def bn(n lo hi:Int):Bool:=decide (lo≤n)&&decide (n≤hi)
theorem fM(n lo hi:Int):aF Tz.prog 16 [.int .i64 n,.int .i64 lo,.int .i64 hi] (.bool (bn n lo hi)) true:=by
 refine rcK Tz.func16 ?_;simp only[Tryz.results16,Tryz.ntmps16]
 repeat' (first|(with_reducible first|refine aj ?_|refine aD ?_|refine af ?_|refine xC ?_ ?_|intro _)|(simp[*,bn]))
theorem Ki(n lo hi:Int):aF Tz.prog 6 [.int .i64 n,.int .i64 lo,.int .i64 hi] (.bool (bn n lo hi)) true:=by
 refine rcK Tz.func6 ?_;simp only[Tryz.results6,Tryz.ntmps6]
 repeat' (first|(with_reducible first|refine aj ?_|refine aD ?_|refine af ?_|refine xC ?_ ?_|intro _)|(simp[*,bn]))
def ints(l:List Int):List PV:=l.map (.int .i64)
@[simp] theorem Vf(l:List Int):(ints l).length=l.length:=by simp[ints]
@[simp] theorem Kj(l:List Int)(k:Nat)(h:k<l.length):bU (ints l) k=.int .i64 (nth l k):=pW _ l k h
def cI:List Int→Int
 |[]=>0
 |e::r=>if e=0 then cI r else e
theorem dG{α:Type}[Inhabited α](l:List α)(k:Nat)(h:k<l.length):l.drop k=nth l k::l.drop (k+1):=by
 rw[List.drop_eq_getElem_cons h];simp[nth,List.getD_eq_getElem?_getD,List.getElem?_eq_getElem h]
theorem Dd(l:List Int)(h:l.length<1000):aF Tz.prog 25 [.sl l.length (ints l)] (.int .i64 (cI l)) true:=by
 refine rcK Tz.func25 ?_;simp only[Tryz.results25,Tryz.ntmps25]
 repeat' (first|(with_reducible first|refine aj ?_|refine af ?_|intro _)|(simp[*]))
 refine xF (fun k:Nat=>k≤l.length∧cI (l.drop k)=cI l) [5,6] (fun k=>[(7,.w false false (.int .i64 k))]) (fun _=>[]) (fun k=>l.length-k)
  (fun _:Unit=>cI l=0) [] (fun _=>[]) (fun _=>[]) 0 ⟨Nat.zero_le _,rfl⟩ (by simp) (by simp) (fun k hk=>?_) (fun _ hf=>?_)
 ·obtain⟨hk,hf⟩:=hk
  repeat' (first|(with_reducible first|refine aj ?_|refine aL ?_|refine aB ?_|refine aD ?_|refine aY ?_|refine af ?_|refine al ?_|refine And.intro ?_ ?_|refine je ?_ ?_|refine nX ?_ ?_|intro _)|(simp[*,cI]))
  all_goals first
   |exact aH (by omega) (by omega)
   |omega
   |(rw[←hf,dG l k (by omega)];simp_all[cI];done)
   |(refine nx (k+1) ?_ ?_;(· refine⟨by omega,?_⟩;rw[←hf,dG l k (by omega)];simp_all[cI]);(refine aG ?_ ?_<;>first|trivial|(simp[*];done)))
   |(refine bl () ?_ ?_;(· rw[←hf,List.drop_eq_nil_of_le (by omega)];rfl);(refine aG ?_ ?_<;>first|trivial|(simp[*];done)))
 ·repeat' (first|(with_reducible first|refine aj ?_|refine aD ?_|refine af ?_|intro _)|(simp[*]))
theorem tj(a b:Int):aF Tz.prog 25 [.sl 2 [.int .i64 a,.int .i64 b]] (.int .i64 (cI [a,b])) true:=Dd [a,b] (Nat.le_of_ble_eq_true rfl)
theorem De(a b c:Int):aF Tz.prog 25 [.sl 3 [.int .i64 a,.int .i64 b,.int .i64 c]] (.int .i64 (cI [a,b,c])) true:=Dd [a,b,c] (Nat.le_of_ble_eq_true rfl)
def zw(c:Nat):Bool:=decide ((97:Int)≤c)&&decide ((c:Int)≤122) || decide ((65:Int)≤c)&&decide ((c:Int)≤90)
def okB(k c:Nat):Bool:=zw c || !(decide (k=0))&&(decide (c=45) || decide ((48:Int)≤c)&&decide ((c:Int)≤57))
def l8(s:ByteArray):Nat→Bool
 |0=>true
 |k+1=>l8 s k&&okB k (qk s k)
theorem Df(s:ByteArray)(k:Nat)(h:okB k (qk s k)=false):∀n,k<n→l8 s n=false
 |0,hn=>by omega
 |n+1,hn=>by
  unfold l8;by_cases e:k=n
  ·subst e;simp[h]
  ·rw[Df s k h n (by omega)];rfl
def gv(s:ByteArray):Bool:=l8 s s.size&&decide (s.size≠0)&&decide (s.size≤12)
theorem Kk{s:ByteArray}(h:s.size=0):gv s=false:=by simp[gv,h]
theorem Km{s:ByteArray}(h:l8 s s.size=true)(h0:s.size≠0):gv s=decide (s.size≤12):=by simp[gv,h,h0]
theorem Dg(s:ByteArray)(hs:s.size<1000000):aF Tz.prog 98 [.str s] (.bool (gv s)) true:=by
 refine rcK Tz.func98 ?_;simp only[Tryz.results98,Tryz.ntmps98]
 repeat' (first|(with_reducible first|refine aj ?_|refine af ?_|intro _)|(simp[*]))
 refine xF (fun k:Nat=>k≤s.size∧l8 s k=true) [0,7,8] (fun k=>[(9,.w false false (.int .i64 k))]) (fun _=>[]) (fun k=>s.size-k)
  (fun _:Unit=>l8 s s.size=true) [0] (fun _=>[]) (fun _=>[]) 0 ⟨Nat.zero_le _,rfl⟩ (by simp) (by simp) (fun k hk=>?_) (fun _ hf=>?_)
 ·obtain⟨hk,hf⟩:=hk
  repeat' (first|(with_reducible first|refine aj ?_|refine aL ?_|refine aB ?_|refine aD ?_|refine aY ?_|refine af ?_|refine al ?_|refine And.intro ?_ ?_|refine CH ?_ ?_|refine xC ?_ ?_|refine nX ?_ ?_|intro _)|(simp[*]))
  all_goals first
   |exact aH (by omega) (by omega)
   |omega
   |(refine nx (k+1) ?_ ?_;(· refine⟨by omega,?_⟩;unfold l8;rw[hf];clear hf;simp[okB,zw] at *;omega);(refine aG ?_ ?_<;>first|trivial|(simp[*];done)))
   |(refine bl () ?_ ?_;(· rw[show s.size=k by omega];exact hf);(refine aG ?_ ?_<;>first|trivial|(simp[*];done)))
   |(unfold gv;rw[Df s k (by clear hf;simp[okB,zw] at *;omega) s.size (by omega)];rfl)
 ·repeat' (first|(with_reducible first|refine aj ?_|refine aD ?_|refine af ?_|refine CH ?_ ?_|intro _)|(simp[*]))
  ·rename_i h0
   have h0':s≠{ data:=#[] }:=by simpa using h0
   rw[Km hf (fun h=>h0' ((CL s).2 h))];simp;omega
  ·rename_i h0;rw[Kk ((CL s).1 (by have h1:s = { data:=#[] }:=by simpa using h0
                                   exact h1))]
abbrev Car:=ByteArray×Int×Bool
abbrev Ord:=ByteArray×Int×Bool×Int
abbrev Par:=Int×Int
def bN(l:List Car):List PV:=l.flatMap Tw.cC
@[simp] theorem Vg(l:List Car):(bN l).length=l.length*3:=sV Tw.cC 3 (fun _=>rfl) l
@[simp] theorem Vh(l:List Car)(k:Nat)(h:k<l.length):((bN l).drop (k*3)).take 3=Tw.cC (nth l k):=sX Tw.cC 3 (fun _=>rfl) l k h
@[simp] theorem Vi(l:List Car)(k:Nat)(h:k<l.length):bU (bN l) (k*3)=.str (nth l k).1:=pT Tw.cC 3 (fun _=>rfl) l k 0 h (by omega)
def bL(l:List Ord):List PV:=l.flatMap Tw.bS
@[simp] theorem Vj(l:List Ord):(bL l).length=l.length*4:=sV Tw.bS 4 (fun _=>rfl) l
@[simp] theorem Vk(l:List Ord)(k:Nat)(h:k<l.length):((bL l).drop (k*4)).take 4=Tw.bS (nth l k):=sX Tw.bS 4 (fun _=>rfl) l k h
@[simp] theorem Vl(l:List Ord)(k:Nat)(h:k<l.length):bU (bL l) (k*4)=.str (nth l k).1:=pT Tw.bS 4 (fun _=>rfl) l k 0 h (by omega)
@[simp] theorem Vm(l:List Ord)(k:Nat)(h:k<l.length):bU (bL l) (k*4+3)=.int .i64 (nth l k).2.2.2:=pT Tw.bS 4 (fun _=>rfl) l k 3 h (by omega)
def bQ(l:List Par):List PV:=l.flatMap Tw.cP
@[simp] theorem Vn(l:List Par):(bQ l).length=l.length*2:=sV Tw.cP 2 (fun _=>rfl) l
@[simp] theorem Vo(l:List Par)(k:Nat)(h:k<l.length):((bQ l).drop (k*2)).take 2=Tw.cP (nth l k):=sX Tw.cP 2 (fun _=>rfl) l k h
@[simp] theorem Vp(l:List Par)(k:Nat)(h:k<l.length):bU (bQ l) (k*2)=.int .i64 (nth l k).1:=pT Tw.cP 2 (fun _=>rfl) l k 0 h (by omega)
theorem xL(n:Int):aF Tz.prog 57 [.int .i64 n] (.bool (bn n 1 8)) true:=by
 refine rcK Tz.func57 ?_;simp only[Tryz.results57,Tryz.ntmps57]
 repeat' (first|(with_reducible first|refine aj ?_|refine aD ?_|refine af ?_|refine And.intro ?_ ?_|refine cw (fM _ _ _) ?_|intro _)|(simp[*])|(refine az (fM _ _ _) ?_ ?_;(· (simp[*];done))))
theorem xM(x:Car):aF Tz.prog 55 [.agg (Tw.cC x)] (.str x.1) true:=by
 unfold Tw.cC;refine rcK Tz.func55 ?_;simp only[Tryz.results55,Tryz.ntmps55]
 repeat' (first|(with_reducible first|refine aj ?_|refine aD ?_|refine af ?_|intro _)|(simp[*]))
theorem xN(x:Ord):aF Tz.prog 59 [.agg (Tw.bS x)] (.str x.1) true:=by
 unfold Tw.bS;refine rcK Tz.func59 ?_;simp only[Tryz.results59,Tryz.ntmps59]
 repeat' (first|(with_reducible first|refine aj ?_|refine aD ?_|refine af ?_|intro _)|(simp[*]))
def gw(x:Car):Int:=a8 (bn x.2.1 1 8) 2
theorem Kn(i:Int)(x:Car):aF Tz.prog 56 [.int .i64 i,.agg (Tw.cC x)] (.int .i64 (gw x)) true:=by
 unfold Tw.cC gw;refine rcK Tz.func56 ?_;simp only[Tryz.results56,Tryz.ntmps56]
 repeat' (first|(with_reducible first|refine aj ?_|refine aD ?_|refine af ?_|refine And.intro ?_ ?_|refine cw (xL _) ?_|refine cw (dk _ _) ?_|intro _)|(simp[*])|(refine az (xL _) ?_ ?_;(· (simp[*];done)))|(refine az (dk _ _) ?_ ?_;(· (simp[*];done))))
def gz(x:Ord):Int:=a8 (bn x.2.1 1 8&&bn x.2.2.2 0 6) 2
theorem Ko(i:Int)(x:Ord):aF Tz.prog 60 [.int .i64 i,.agg (Tw.bS x)] (.int .i64 (gz x)) true:=by
 unfold Tw.bS gz;have c1:=xL x.2.1;generalize bn x.2.1 1 8=b at c1 ⊢
 cases b with
 |true=>
  refine rcK Tz.func60 ?_;simp only[Tryz.results60,Tryz.ntmps60]
  repeat' (first|(with_reducible first|refine aj ?_|refine aD ?_|refine af ?_|refine And.intro ?_ ?_|refine cw (c1) ?_|refine cw (fM _ _ _) ?_|refine cw (dk _ _) ?_|intro _)|(simp[*])|(refine az (c1) ?_ ?_;(· (simp[*];done)))|(refine az (fM _ _ _) ?_ ?_;(· (simp[*];done)))|(refine az (dk _ _) ?_ ?_;(· (simp[*];done))))
 |false=>
  refine rcK Tz.func60 ?_;simp only[Tryz.results60,Tryz.ntmps60]
  repeat' (first|(with_reducible first|refine aj ?_|refine aD ?_|refine af ?_|refine And.intro ?_ ?_|refine cw (c1) ?_|refine cw (dk _ _) ?_|intro _)|(simp[*])|(refine az (c1) ?_ ?_;(· (simp[*];done)))|(refine az (fM _ _ _) ?_ ?_;(· (simp[*];done)))|(refine az (dk _ _) ?_ ?_;(· (simp[*];done))))
theorem Ks(x:Int):aF Tz.prog 61 [.int .i64 x] (.bool (!bn x 0 100000)) true:=by
 refine rcK Tz.func61 ?_;simp only[Tryz.results61,Tryz.ntmps61]
 repeat' (first|(with_reducible first|refine aj ?_|refine aD ?_|refine af ?_|refine And.intro ?_ ?_|refine cw (fM _ _ _) ?_|intro _)|(simp[*])|(refine az (fM _ _ _) ?_ ?_;(· (simp[*];done))))
def aR(p:Prop):Prop:=p
theorem keep{p:Prop}(h:p):aR p:=h
def dh{α:Type}(p:α→Bool):List α→Nat→Int
 |[],_=>-1
 |x::r,i=>if p x=true then (i:Int) else dh p r (i+1)
def idxOf{α:Type}(p:α→Bool)(l:List α):Int:=dh p l 0
theorem Dh{α:Type}(p:α→Bool):∀(l:List α)(i:Nat),decide (0≤dh p l i)=l.any p
 |[],i=>rfl
 |x::r,i=>by
  unfold dh
  cases h:p x with
  |true=>simp[h]
  |false=>simp[h];have:=Dh p r (i+1);simpa using this
theorem oc{α:Type}(p:α→Bool)(l:List α):decide (0≤idxOf p l)=l.any p:=Dh p l 0
theorem Kt(l:List Int)(hl:l.length<100000)(g:FuncId)(ar:List PV)(p:Int→Bool)(h:∀x,aF Tz.prog g (.int .i64 x::ar) (.bool (p x)) true):aF Tz.prog 95 [.sl l.length (ints l),.fn g ar] (.int .i64 (idxOf p l)) true:=by
 generalize hR:idxOf p l=R;have kR:aR (dh p l 0=R):=keep hR;clear hR;refine rcK Tz.func95 ?_;simp only[Tryz.results95,Tryz.ntmps95]
 repeat' (first|(with_reducible first|refine aj ?_|refine af ?_|intro _)|(simp[*]))
 refine du (fun(k:Nat)=>k≤l.length∧dh p (l.drop k) k=R) [0,1,7] (fun(k:Nat)=>[(8,.w false false (.int .i64 k))]) [] (fun(k:Nat)=>[]) (fun(k:Nat)=>l.length-k) (fun(_u:Unit)=>R=-1) [] (fun(_u:Unit)=>[]) [] (fun(_u:Unit)=>[]) (0) ⟨Nat.zero_le _,kR⟩ (by simp) (by simp) (fun k hk=>?_) (fun _u hf=>?_)
 ·obtain⟨hk,hj⟩:=hk;by_cases hlt:k<l.length
  ·have c1:=h (nth l k);have hj':=hj;rw[dG l k hlt] at hj';unfold dh at hj';have kj:=keep hj';clear hj hj' h
   repeat' (first|(with_reducible first|refine aj ?_|refine aL ?_|refine aB ?_|refine aD ?_|refine af ?_|refine al ?_|refine And.intro ?_ ?_|refine nW ?_ ?_|refine cw (c1) ?_|intro _)|(simp[*,hlt])|(refine az (c1) ?_ ?_;(· (simp[*];done))))
   all_goals first
    |exact aH (by omega) (by omega)
    |omega
    |(rename_i hp;rw[if_pos hp] at kj;exact kj)
    |(rename_i hp;rw[if_neg (by rw[hp];decide)] at kj;(refine nx (k+1) ?_ ?_;(· exact⟨by omega,kj⟩);(refine aG ?_ ?_<;>first|trivial|(simp[*];done))))
    |skip
  ·have hke:k=l.length:=by omega
   subst hke
   repeat' (first|(with_reducible first|refine aj ?_|refine aY ?_|refine af ?_|refine al ?_|intro _)|(simp[*]))
   all_goals (refine bl () ?_ ?_;(· rw[←hj,List.drop_length];rfl);(refine aG ?_ ?_<;>first|trivial|(simp[*];done)))
 ·subst hf
  repeat' (first|(with_reducible first|refine aj ?_|refine aD ?_|refine af ?_|intro _)|(simp[*]))
theorem Ku(l:List Int)(hl:l.length<100000)(g:FuncId)(ar:List PV)(p:Int→Bool)(h:∀x,aF Tz.prog g (.int .i64 x::ar) (.bool (p x)) true):aF Tz.prog 52 [.sl l.length (ints l),.fn g ar] (.bool (l.any p)) true:=by
 have c1:=Kt l hl g ar p h;have h:=oc p l;generalize idxOf p l=i at *;rw[←h];clear h;refine rcK Tz.func52 ?_;simp only[Tryz.results52,Tryz.ntmps52]
 repeat' (first|(with_reducible first|refine aj ?_|refine aD ?_|refine af ?_|refine And.intro ?_ ?_|refine cw (c1) ?_|intro _)|(simp[*])|(refine az (c1) ?_ ?_;(· (simp[*];done))))
theorem Kw(l:List Car)(hl:l.length<100000)(g:FuncId)(ar:List PV)(p:Car→Bool)(h:∀x,aF Tz.prog g (.agg (Tw.cC x)::ar) (.bool (p x)) true):aF Tz.prog 112 [.sl l.length (bN l),.fn g ar] (.int .i64 (idxOf p l)) true:=by
 generalize hR:idxOf p l=R;have kR:aR (dh p l 0=R):=keep hR;clear hR;refine rcK Tz.func112 ?_;simp only[Tryz.results112,Tryz.ntmps112]
 repeat' (first|(with_reducible first|refine aj ?_|refine af ?_|intro _)|(simp[*]))
 refine du (fun(k:Nat)=>k≤l.length∧dh p (l.drop k) k=R) [0,1,7] (fun(k:Nat)=>[(8,.w false false (.int .i64 k))]) [] (fun(k:Nat)=>[]) (fun(k:Nat)=>l.length-k) (fun(_u:Unit)=>R=-1) [] (fun(_u:Unit)=>[]) [] (fun(_u:Unit)=>[]) (0) ⟨Nat.zero_le _,kR⟩ (by simp) (by simp) (fun k hk=>?_) (fun _u hf=>?_)
 ·obtain⟨hk,hj⟩:=hk;by_cases hlt:k<l.length
  ·have c1:=h (nth l k);have hj':=hj;rw[dG l k hlt] at hj';unfold dh at hj';have kj:=keep hj';clear hj hj' h
   repeat' (first|(with_reducible first|refine aj ?_|refine aL ?_|refine aB ?_|refine aD ?_|refine af ?_|refine al ?_|refine And.intro ?_ ?_|refine nW ?_ ?_|refine cw (c1) ?_|intro _)|(simp[*,hlt])|(refine az (c1) ?_ ?_;(· (simp[*];done))))
   all_goals first
    |exact aH (by omega) (by omega)
    |omega
    |(rename_i hp;rw[if_pos hp] at kj;exact kj)
    |(rename_i hp;rw[if_neg (by rw[hp];decide)] at kj;(refine nx (k+1) ?_ ?_;(· exact⟨by omega,kj⟩);(refine aG ?_ ?_<;>first|trivial|(simp[*];done))))
    |skip
  ·have hke:k=l.length:=by omega
   subst hke
   repeat' (first|(with_reducible first|refine aj ?_|refine aY ?_|refine af ?_|refine al ?_|intro _)|(simp[*]))
   all_goals (refine bl () ?_ ?_;(· rw[←hj,List.drop_length];rfl);(refine aG ?_ ?_<;>first|trivial|(simp[*];done)))
 ·subst hf
  repeat' (first|(with_reducible first|refine aj ?_|refine aD ?_|refine af ?_|intro _)|(simp[*]))
theorem Kx(l:List Car)(hl:l.length<100000)(g:FuncId)(ar:List PV)(p:Car→Bool)(h:∀x,aF Tz.prog g (.agg (Tw.cC x)::ar) (.bool (p x)) true):aF Tz.prog 96 [.sl l.length (bN l),.fn g ar] (.bool (l.any p)) true:=by
 have c1:=Kw l hl g ar p h;have h:=oc p l;generalize idxOf p l=i at *;rw[←h];clear h;refine rcK Tz.func96 ?_;simp only[Tryz.results96,Tryz.ntmps96]
 repeat' (first|(with_reducible first|refine aj ?_|refine aD ?_|refine af ?_|refine And.intro ?_ ?_|refine cw (c1) ?_|intro _)|(simp[*])|(refine az (c1) ?_ ?_;(· (simp[*];done))))
theorem Ky(l:List Ord)(hl:l.length<100000)(g:FuncId)(ar:List PV)(p:Ord→Bool)(h:∀x,aF Tz.prog g (.agg (Tw.bS x)::ar) (.bool (p x)) true):aF Tz.prog 113 [.sl l.length (bL l),.fn g ar] (.int .i64 (idxOf p l)) true:=by
 generalize hR:idxOf p l=R;have kR:aR (dh p l 0=R):=keep hR;clear hR;refine rcK Tz.func113 ?_;simp only[Tryz.results113,Tryz.ntmps113]
 repeat' (first|(with_reducible first|refine aj ?_|refine af ?_|intro _)|(simp[*]))
 refine du (fun(k:Nat)=>k≤l.length∧dh p (l.drop k) k=R) [0,1,7] (fun(k:Nat)=>[(8,.w false false (.int .i64 k))]) [] (fun(k:Nat)=>[]) (fun(k:Nat)=>l.length-k) (fun(_u:Unit)=>R=-1) [] (fun(_u:Unit)=>[]) [] (fun(_u:Unit)=>[]) (0) ⟨Nat.zero_le _,kR⟩ (by simp) (by simp) (fun k hk=>?_) (fun _u hf=>?_)
 ·obtain⟨hk,hj⟩:=hk;by_cases hlt:k<l.length
  ·have c1:=h (nth l k);have hj':=hj;rw[dG l k hlt] at hj';unfold dh at hj';have kj:=keep hj';clear hj hj' h
   repeat' (first|(with_reducible first|refine aj ?_|refine aL ?_|refine aB ?_|refine aD ?_|refine af ?_|refine al ?_|refine And.intro ?_ ?_|refine nW ?_ ?_|refine cw (c1) ?_|intro _)|(simp[*,hlt])|(refine az (c1) ?_ ?_;(· (simp[*];done))))
   all_goals first
    |exact aH (by omega) (by omega)
    |omega
    |(rename_i hp;rw[if_pos hp] at kj;exact kj)
    |(rename_i hp;rw[if_neg (by rw[hp];decide)] at kj;(refine nx (k+1) ?_ ?_;(· exact⟨by omega,kj⟩);(refine aG ?_ ?_<;>first|trivial|(simp[*];done))))
    |skip
  ·have hke:k=l.length:=by omega
   subst hke
   repeat' (first|(with_reducible first|refine aj ?_|refine aY ?_|refine af ?_|refine al ?_|intro _)|(simp[*]))
   all_goals (refine bl () ?_ ?_;(· rw[←hj,List.drop_length];rfl);(refine aG ?_ ?_<;>first|trivial|(simp[*];done)))
 ·subst hf
  repeat' (first|(with_reducible first|refine aj ?_|refine aD ?_|refine af ?_|intro _)|(simp[*]))
theorem Kz(l:List Ord)(hl:l.length<100000)(g:FuncId)(ar:List PV)(p:Ord→Bool)(h:∀x,aF Tz.prog g (.agg (Tw.bS x)::ar) (.bool (p x)) true):aF Tz.prog 99 [.sl l.length (bL l),.fn g ar] (.bool (l.any p)) true:=by
 have c1:=Ky l hl g ar p h;have h:=oc p l;generalize idxOf p l=i at *;rw[←h];clear h;refine rcK Tz.func99 ?_;simp only[Tryz.results99,Tryz.ntmps99]
 repeat' (first|(with_reducible first|refine aj ?_|refine aD ?_|refine af ?_|refine And.intro ?_ ?_|refine cw (c1) ?_|intro _)|(simp[*])|(refine az (c1) ?_ ?_;(· (simp[*];done))))
theorem KA(x y:Car):aF Tz.prog 97 [.agg (Tw.cC y),.ip [.fn 55 []] 0,.ip (Tw.cC x) 0] (.bool (decide (y.1=x.1))) true:=by
 have c1:=xM y;have c2:=xM x;unfold Tw.cC at *;refine rcK Tz.func97 ?_;simp only[Tryz.results97,Tryz.ntmps97]
 repeat' (first|(with_reducible first|refine aj ?_|refine aD ?_|refine af ?_|refine bF (id:=1) 8 mixed (by decide +kernel) ?_|refine And.intro ?_ ?_|refine cw (c1) ?_|refine cw (c2) ?_|intro _)|(simp[*])|(refine az (c1) ?_ ?_;(· (simp[*];done)))|(refine az (c2) ?_ ?_;(· (simp[*];done))))
theorem KB(x y:Ord):aF Tz.prog 100 [.agg (Tw.bS y),.ip [.fn 59 []] 0,.ip (Tw.bS x) 0] (.bool (decide (y.1=x.1))) true:=by
 have c1:=xN y;have c2:=xN x;unfold Tw.bS at *;refine rcK Tz.func100 ?_;simp only[Tryz.results100,Tryz.ntmps100]
 repeat' (first|(with_reducible first|refine aj ?_|refine aD ?_|refine af ?_|refine bF (id:=1) 8 mixed (by decide +kernel) ?_|refine And.intro ?_ ?_|refine cw (c1) ?_|refine cw (c2) ?_|intro _)|(simp[*])|(refine az (c1) ?_ ?_;(· (simp[*];done)))|(refine az (c2) ?_ ?_;(· (simp[*];done))))
def oZ{α:Type}(nm:α→ByteArray)(mr:α→Int)(l:List α)(k:Nat)(x:α):Int:=cI [a8 (gv (nm x)) 4,a8 (!(l.take k).any (fun y=>decide (nm y=nm x))) 5,mr x]
def fV{α:Type}(nm:α→ByteArray)(mr:α→Int)(l:List α):List α→Nat→Int×Int
 |[],_=>(0,0)
 |x::r,k=>if oZ nm mr l k x=0 then fV nm mr l r (k+1) else (k,oZ nm mr l k x)
def ia{α:Type}(nm:α→ByteArray)(mr:α→Int)(l:List α):Int×Int:=fV nm mr l l 0
@[simp] theorem Vq(l:List Car)(k:Nat):(bN l).take (k*3)=bN (l.take k):=by
 induction l generalizing k with
 |nil=>simp[bN]
 |cons x r ih=>
  cases k with
  |zero=>simp[bN]
  |succ k=>
   have e:bN (x::r)=Tw.cC x++bN r:=rfl;rw[e,List.take_succ_cons,show bN (x::r.take k)=Tw.cC x++bN (r.take k) from rfl,←ih,Nat.add_mul,List.take_append];simp[Tw.cC]
@[simp] theorem Vr(l:List Ord)(k:Nat):(bL l).take (k*4)=bL (l.take k):=by
 induction l generalizing k with
 |nil=>simp[bL]
 |cons x r ih=>
  cases k with
  |zero=>simp[bL]
  |succ k=>
   have e:bL (x::r)=Tw.bS x++bL r:=rfl;rw[e,List.take_succ_cons,show bL (x::r.take k)=Tw.bS x++bL (r.take k) from rfl,←ih,Nat.add_mul,List.take_append];simp[Tw.bS]
theorem KC(l:List Car)(hl:l.length<100000)(hs:∀x∈l,x.1.size<1000000):aF Tz.prog 54 [.sl l.length (bN l),.fn 55 [],.fn 56 []] (.tup [.int .i64 (ia Prod.fst gw l).1,.int .i64 (ia Prod.fst gw l).2]) true:=by
 generalize hR:ia Prod.fst gw l=R;obtain⟨R1,R2⟩:=R;have kR:aR (fV Prod.fst gw l l 0=(R1,R2)):=keep hR;clear hR;refine rcK Tz.func54 ?_;simp only[Tryz.results54,Tryz.ntmps54]
 repeat' (first|(with_reducible first|refine aj ?_|refine af ?_|intro _)|(simp[*]))
 refine du (fun(k:Nat)=>k≤l.length∧fV Prod.fst gw l (l.drop k) k=(R1,R2)) [0,2,4,12,13] (fun(k:Nat)=>[(14,.w false false (.int .i64 k))]) [0] (fun(k:Nat)=>[]) (fun(k:Nat)=>l.length-k) (fun(_u:Unit)=>R1=0∧R2=0) [] (fun(_u:Unit)=>[]) [0] (fun(_u:Unit)=>[]) (0) ⟨Nat.zero_le _,kR⟩ (by simp) (by simp) (fun k hk=>?_) (fun _u hf=>?_)
 ·obtain⟨hk,hj⟩:=hk;by_cases hlt:k<l.length
  ·have c1:=Kx (l.take k) (by rw[List.length_take];omega) 97 [.ip [.fn 55 []] 0,.ip (Tw.cC (nth l k)) 0] (fun y=>decide (y.1=(nth l k).1)) (fun y=>KA (nth l k) y);rw[List.length_take_of_le hk] at c1;have c2:=Dg (nth l k).1 (hs _ (lB hlt));have c3:=xM (nth l k);have c4:=Kn k (nth l k);have c5:=De (a8 (gv (nth l k).1) 4) (a8 (!(l.take k).any (fun y=>decide (y.1=(nth l k).1))) 5) (gw (nth l k));have hj':=hj;rw[dG l k hlt] at hj';unfold fV oZ at hj';generalize cI [a8 (gv (nth l k).1) 4,a8 (!(l.take k).any (fun y=>decide (y.1=(nth l k).1))) 5,gw (nth l k)]=e at hj' c5;have kj:=keep hj';clear hj hj' hs;unfold Tw.cC at c1 c3 c4
   repeat' (first|(with_reducible first|refine aj ?_|refine aL ?_|refine aB ?_|refine aD ?_|refine af ?_|refine bF (id:=5) 15 mixed (by decide +kernel) ?_|refine al ?_|refine And.intro ?_ ?_ |  refine je ?_ ?_|refine cw (c1) ?_|refine cw (c2) ?_|refine cw (c3) ?_|refine cw (c4) ?_|refine cw (dk _ _) ?_|refine cw (c5) ?_|intro _)|(simp[*,hlt,Tw.cC])|(refine az (c1) ?_ ?_;(· (simp[*];done)))|(refine az (c2) ?_ ?_;(· (simp[*];done)))|(refine az (c3) ?_ ?_;(· (simp[*];done)))|(refine az (c4) ?_ ?_;(· (simp[*];done)))|(refine az (dk _ _) ?_ ?_;(· (simp[*];done)))|(refine az (c5) ?_ ?_;(· (simp[*];done))))
   all_goals first
    |omega
    |exact aH (by omega) (by omega)
    |(rename_i hp;rw[if_neg hp] at kj;exact (Prod.mk.inj kj).1)
    |(rename_i hp;rw[if_neg hp] at kj;exact (Prod.mk.inj kj).2)
    |(rename_i hp;rw[if_pos hp] at kj;(refine nx (k+1) ?_ ?_;(· exact⟨by omega,kj⟩);(refine aG ?_ ?_<;>first|trivial|(simp[*];done))))
  ·have hke:k=l.length:=by omega
   subst hke;rw[List.drop_length] at hj;unfold fV at hj
   repeat' (first|(with_reducible first|refine aj ?_|refine aY ?_|refine af ?_|refine al ?_|intro _)|(simp[*]))
   all_goals (refine bl () ?_ ?_;(· exact⟨(Prod.mk.inj hj).1.symm,(Prod.mk.inj hj).2.symm⟩);(refine aG ?_ ?_<;>first|trivial|(simp[*];done)))
 ·obtain⟨rfl,rfl⟩:=hf
  repeat' (first|(with_reducible first|refine aj ?_|refine aD ?_|refine af ?_|intro _)|(simp[*]))
theorem KD(l:List Ord)(hl:l.length<100000)(hs:∀x∈l,x.1.size<1000000):aF Tz.prog 58 [.sl l.length (bL l),.fn 59 [],.fn 60 []] (.tup [.int .i64 (ia Prod.fst gz l).1,.int .i64 (ia Prod.fst gz l).2]) true:=by
 generalize hR:ia Prod.fst gz l=R;obtain⟨R1,R2⟩:=R;have kR:aR (fV Prod.fst gz l l 0=(R1,R2)):=keep hR;clear hR;refine rcK Tz.func58 ?_;simp only[Tryz.results58,Tryz.ntmps58]
 repeat' (first|(with_reducible first|refine aj ?_|refine af ?_|intro _)|(simp[*]))
 refine du (fun(k:Nat)=>k≤l.length∧fV Prod.fst gz l (l.drop k) k=(R1,R2)) [0,2,4,12,13] (fun(k:Nat)=>[(14,.w false false (.int .i64 k))]) [0] (fun(k:Nat)=>[]) (fun(k:Nat)=>l.length-k) (fun(_u:Unit)=>R1=0∧R2=0) [] (fun(_u:Unit)=>[]) [0] (fun(_u:Unit)=>[]) (0) ⟨Nat.zero_le _,kR⟩ (by simp) (by simp) (fun k hk=>?_) (fun _u hf=>?_)
 ·obtain⟨hk,hj⟩:=hk;by_cases hlt:k<l.length
  ·have c1:=Kz (l.take k) (by rw[List.length_take];omega) 100 [.ip [.fn 59 []] 0,.ip (Tw.bS (nth l k)) 0] (fun y=>decide (y.1=(nth l k).1)) (fun y=>KB (nth l k) y);rw[List.length_take_of_le hk] at c1;have c2:=Dg (nth l k).1 (hs _ (lB hlt));have c3:=xN (nth l k);have c4:=Ko k (nth l k);have c5:=De (a8 (gv (nth l k).1) 4) (a8 (!(l.take k).any (fun y=>decide (y.1=(nth l k).1))) 5) (gz (nth l k));have hj':=hj;rw[dG l k hlt] at hj';unfold fV oZ at hj';generalize cI [a8 (gv (nth l k).1) 4,a8 (!(l.take k).any (fun y=>decide (y.1=(nth l k).1))) 5,gz (nth l k)]=e at hj' c5;have kj:=keep hj';clear hj hj' hs;unfold Tw.bS at c1 c3 c4
   repeat' (first|(with_reducible first|refine aj ?_|refine aL ?_|refine aB ?_|refine aD ?_|refine af ?_|refine bF (id:=5) 15 mixed (by decide +kernel) ?_|refine al ?_|refine And.intro ?_ ?_ |  refine je ?_ ?_|refine cw (c1) ?_|refine cw (c2) ?_|refine cw (c3) ?_|refine cw (c4) ?_|refine cw (dk _ _) ?_|refine cw (c5) ?_|intro _)|(simp[*,hlt,Tw.bS])|(refine az (c1) ?_ ?_;(· (simp[*];done)))|(refine az (c2) ?_ ?_;(· (simp[*];done)))|(refine az (c3) ?_ ?_;(· (simp[*];done)))|(refine az (c4) ?_ ?_;(· (simp[*];done)))|(refine az (dk _ _) ?_ ?_;(· (simp[*];done)))|(refine az (c5) ?_ ?_;(· (simp[*];done))))
   all_goals first
    |omega
    |exact aH (by omega) (by omega)
    |(rename_i hp;rw[if_neg hp] at kj;exact (Prod.mk.inj kj).1)
    |(rename_i hp;rw[if_neg hp] at kj;exact (Prod.mk.inj kj).2)
    |(rename_i hp;rw[if_pos hp] at kj;(refine nx (k+1) ?_ ?_;(· exact⟨by omega,kj⟩);(refine aG ?_ ?_<;>first|trivial|(simp[*];done))))
  ·have hke:k=l.length:=by omega
   subst hke;rw[List.drop_length] at hj;unfold fV at hj
   repeat' (first|(with_reducible first|refine aj ?_|refine aY ?_|refine af ?_|refine al ?_|intro _)|(simp[*]))
   all_goals (refine bl () ?_ ?_;(· exact⟨(Prod.mk.inj hj).1.symm,(Prod.mk.inj hj).2.symm⟩);(refine aG ?_ ?_<;>first|trivial|(simp[*];done)))
 ·obtain⟨rfl,rfl⟩:=hf
  repeat' (first|(with_reducible first|refine aj ?_|refine aD ?_|refine af ?_|intro _)|(simp[*]))
theorem KE(l:List Par)(hl:l.length<100000)(v:Par):aF Tz.prog 75 [.sl l.length (bQ l),.agg (Tw.cP v)] (.int .i64 (idxOf (fun y=>decide (v.1=y.1)&&decide (v.2=y.2)) l)) true:=by
 generalize hR:idxOf (fun y=>decide (v.1=y.1)&&decide (v.2=y.2)) l=R;have kR:aR (dh (fun y=>decide (v.1=y.1)&&decide (v.2=y.2)) l 0=R):=keep hR;clear hR;obtain⟨v1,v2⟩:=v;simp only[Tw.cP];refine rcK Tz.func75 ?_;simp only[Tryz.results75,Tryz.ntmps75]
 repeat' (first|(with_reducible first|refine aj ?_|refine af ?_|intro _)|(simp[*]))
 refine du (fun(k:Nat)=>k≤l.length∧dh (fun y=>decide (v1=y.1)&&decide (v2=y.2)) (l.drop k) k=R) [0,3,7] (fun(k:Nat)=>[(8,.w false false (.int .i64 k))]) [0] (fun(k:Nat)=>[]) (fun(k:Nat)=>l.length-k) (fun(_u:Unit)=>R=-1) [] (fun(_u:Unit)=>[]) [0] (fun(_u:Unit)=>[]) (0) ⟨Nat.zero_le _,kR⟩ (by simp) (by simp) (fun k hk=>?_) (fun _u hf=>?_)
 ·obtain⟨hk,hj⟩:=hk;by_cases hlt:k<l.length
  ·have hj':=hj;rw[dG l k hlt] at hj';unfold dh at hj';have kj:=keep hj';clear hj hj'
   repeat' (first|(with_reducible first|refine aj ?_|refine aL ?_|refine aB ?_|refine aD ?_|refine af ?_|refine bF (id:=4) 6 mixed (by decide +kernel) ?_|refine al ?_|refine And.intro ?_ ?_|refine nW ?_ ?_|intro _)|(simp[*,hlt,Tw.cP]))
   all_goals first
    |omega
    |exact aH (by omega) (by omega)
    |(rename_i hp;rw[if_pos (by simpa using hp)] at kj;exact kj)
    |(rename_i hp;rw[if_neg (by simpa using hp)] at kj;(refine nx (k+1) ?_ ?_;(· exact⟨by omega,kj⟩);(refine aG ?_ ?_<;>first|trivial|(simp[*];done))))
  ·have hke:k=l.length:=by omega
   subst hke
   repeat' (first|(with_reducible first|refine aj ?_|refine aY ?_|refine af ?_|refine al ?_|intro _)|(simp[*]))
   all_goals (refine bl () ?_ ?_;(· rw[←hj,List.drop_length];rfl);(refine aG ?_ ?_<;>first|trivial|(simp[*];done)))
 ·subst hf
  repeat' (first|(with_reducible first|refine aj ?_|refine aD ?_|refine af ?_|intro _)|(simp[*]))
theorem KF(l:List Par)(hl:l.length<100000)(v:Par):aF Tz.prog 41 [.sl l.length (bQ l),.agg (Tw.cP v)] (.bool (l.any fun y=>decide (v.1=y.1)&&decide (v.2=y.2))) true:=by
 have c1:=KE l hl v;have h:=oc (fun y=>decide (v.1=y.1)&&decide (v.2=y.2)) l;generalize idxOf (fun y:Par=>decide (v.1=y.1)&&decide (v.2=y.2)) l=i at *;rw[←h];clear h;obtain⟨v1,v2⟩:=v;simp only[Tw.cP] at *;refine rcK Tz.func41 ?_;simp only[Tryz.results41,Tryz.ntmps41]
 repeat' (first|(with_reducible first|refine aj ?_|refine aD ?_|refine af ?_|refine And.intro ?_ ?_|refine cw (c1) ?_|intro _)|(simp[*])|(refine az (c1) ?_ ?_;(· (simp[*];done))))
def eI{α:Type}(E:Nat→α→Int):List α→Nat→Int×Int
 |[],_=>(0,0)
 |x::r,k=>if E k x=0 then eI E r (k+1) else (k,E k x)
def ig(w:List (List Int)):List PV:=w.map Tw.zk
@[simp] theorem Vs(w:List (List Int)):(ig w).length=w.length:=by simp[ig]
@[simp] theorem Vt(w:List (List Int))(k:Nat)(h:k<w.length):bU (ig w) k=.sl (nth w k).length (ints (nth w k)):=pW Tw.zk w k h
@[simp] theorem Vu(l:List Par)(k:Nat):(bQ l).take (k*2)=bQ (l.take k):=by
 induction l generalizing k with
 |nil=>simp[bQ]
 |cons x r ih=>
  cases k with
  |zero=>simp[bQ]
  |succ k=>
   have e:bQ (x::r)=Tw.cP x++bQ r:=rfl;rw[e,List.take_succ_cons,show bQ (x::r.take k)=Tw.cP x++bQ (r.take k) from rfl,←ih,Nat.add_mul,List.take_append];simp[Tw.cP]
def o6(nc:Nat)(row:List Int):Int:=cI [a8 (decide ((row.length:Int)=nc)) 10,a8 (!(row.any fun x=>!bn x 0 100000)) 2]
def uo(no nc:Nat)(zs:List Par)(k:Nat)(p:Par):Int:=cI [a8 (bn p.1 0 ((no:Int)-1)&&bn p.2 0 ((nc:Int)-1)) 6,a8 (!((zs.take k).any fun y=>decide (p.1=y.1)&&decide (p.2=y.2))) 26]
def ij{α:Type}(E:Nat→α→Int)(l:List α)(k:Nat)(T:Int×Int):Int×Int:=if (eI E l k).2≠0 then eI E l k else T
theorem KG{α:Type}(E:Nat→α→Int)(x:α)(l:List α)(k:Nat)(T:Int×Int):ij E (x::l) k T=if E k x=0 then ij E l (k+1) T else ((k:Int),E k x):=by
 unfold ij;rw[eI];by_cases h:E k x=0
 ·simp only[h,if_true]
 ·simp[h]
theorem KH{α:Type}(E:Nat→α→Int)(k:Nat)(T:Int×Int):ij E [] k T=T:=by simp[ij,eI]
def nD(no nc:Nat)(zs:List Par):Int×Int:=if (64:Int)<zs.length then (0,8) else eI (uo no nc zs) zs 0
def l9(ae:List Car)(os:List Ord)(wt:List (List Int))(zs:List Par):Int×Int:=
 if (8:Int)<ae.length then (0,8) else if (ia Prod.fst gw ae).2≠0 then ia Prod.fst gw ae else if (8:Int)<os.length then (0,8) else if (ia Prod.fst gz os).2≠0 then ia Prod.fst gz os else
 if (wt.length:Int)≠os.length then (0,10) else ij (fun _=>o6 ae.length) wt 0 (nD os.length ae.length zs)
theorem KI(ae:List Car)(os:List Ord)(wt:List (List Int))(zs:List Par)(h1:ae.length<100000)(h2:os.length<100000)(h3:wt.length<100000)(h4:zs.length<100000)(hc:∀x∈ae,x.1.size<1000000)(ho:∀x∈os,x.1.size<1000000)(hw:∀x∈wt,x.length<100000):aF Tz.prog 37 [.agg [.sl ae.length (bN ae),.sl os.length (bL os),.sl wt.length (ig wt),.sl zs.length (bQ zs)]] (.tup [.int .i64 (l9 ae os wt zs).1,.int .i64 (l9 ae os wt zs).2]) true:=by
 have c54:=KC ae h1 hc;have c58:=KD os h2 ho;generalize hR:l9 ae os wt zs=R;obtain⟨R1,R2⟩:=R;unfold l9 at hR;generalize ia Prod.fst gw ae=A at *;generalize ia Prod.fst gz os=O at *;obtain⟨A1,A2⟩:=A;obtain⟨O1,O2⟩:=O;have kR:=keep hR;have kw:=keep hw;clear hR hw hc ho;simp only[] at c54 c58;refine rcK Tz.func37 ?_;simp only[Tryz.results37,Tryz.ntmps37]
 repeat' (first|(with_reducible first|refine aj ?_|refine aB ?_|refine aD ?_|refine af ?_|refine al ?_|refine And.intro ?_ ?_ |  refine je ?_ ?_|refine nX ?_ ?_|refine cw (c54) ?_|refine cw (c58) ?_|intro _)|(simp[*])|(refine az (c54) ?_ ?_;(· (simp[*];done)))|(refine az (c58) ?_ ?_;(· (simp[*];done))))
 rotate_right
 ·rename_i b1 b2 b3 b4 b5
  have kT:aR (ij (fun _=>o6 ae.length) wt 0 (nD os.length ae.length zs)=(R1,R2)):=by
   rw[if_neg b1,if_neg (by simpa using b2),if_neg b3,if_neg (by simpa using b4),if_neg (by simpa using b5)] at kR;exact kR
  have kl:=keep b5;clear kR c54 c58 b1 b2 b3 b4 b5;refine du (fun(k:Nat)=>k≤wt.length∧ij (fun _=>o6 ae.length) (wt.drop k) k (nD os.length ae.length zs)=(R1,R2)) [1,50,51] (fun(k:Nat)=>[(52,.w false false (.int .i64 k))]) [0] (fun(k:Nat)=>[]) (fun(k:Nat)=>wt.length-k) (fun(_u:Unit)=>nD os.length ae.length zs=(R1,R2)) [1] (fun(_u:Unit)=>[]) [0] (fun(_u:Unit)=>[]) (0) ⟨Nat.zero_le _,kT⟩ (by simp) (by simp) (fun k hk=>?_) (fun _u hf=>?_)
  ·obtain⟨hk,hj⟩:=hk
   have hlen:wt.length=os.length:=by have:=kl;unfold aR at this;omega
   by_cases hlt:k<wt.length
   ·have hlt2:k<os.length:=by omega
    have c1:=Ku (nth wt k) (kw _ (lB hlt)) 61 [] _ Ks;have c2:=tj (a8 (decide (((nth wt k).length:Int)=ae.length)) 10) (a8 (!((nth wt k).any fun x=>!bn x 0 100000)) 2);rw[dG wt k hlt,KG] at hj;unfold o6 at hj;generalize cI [a8 (decide (((nth wt k).length:Int)=ae.length)) 10,a8 (!((nth wt k).any fun x=>!bn x 0 100000)) 2]=e at hj c2;have kj:=keep hj;clear hj hlen
    repeat' (first|(with_reducible first|refine aj ?_|refine aL ?_|refine aB ?_|refine aD ?_|refine af ?_|refine al ?_|refine And.intro ?_ ?_ |  refine je ?_ ?_|refine cw (c1) ?_|refine cw (c2) ?_|refine cw (dk _ _) ?_|intro _)|(simp[*,hlt,hlt2])|(refine az (c1) ?_ ?_;(· (simp[*];done)))|(refine az (c2) ?_ ?_;(· (simp[*];done)))|(refine az (dk _ _) ?_ ?_;(· (simp[*];done))))
    all_goals first
     |omega
     |exact aH (by omega) (by omega)
     |(rename_i hp;rw[if_neg hp] at kj;exact (Prod.mk.inj kj).1)
     |(rename_i hp;rw[if_neg hp] at kj;exact (Prod.mk.inj kj).2)
     |(rename_i hp;rw[if_pos hp] at kj;(refine nx (k+1) ?_ ?_;(· exact⟨by omega,kj⟩);(refine aG ?_ ?_<;>first|trivial|(simp[*];done))))
   ·have hlt2:¬k<os.length:=by omega
    have hke:k=wt.length:=by omega
    rw[hke,List.drop_length,KH] at hj;have kj:=keep hj;clear hj hlen hke
    repeat' (first|(with_reducible first|refine aj ?_|refine aY ?_|refine af ?_|refine al ?_|intro _)|(simp[*,hlt,hlt2]))
    all_goals first
     |omega
     |(refine bl () ?_ ?_;(· exact kj);(refine aG ?_ ?_<;>first|trivial|(simp[*];done)))
  ·unfold nD at hf;have kf:=keep hf;clear hf kT kw kl
   repeat' (first|(with_reducible first|refine aj ?_|refine aB ?_|refine aD ?_|refine af ?_|refine al ?_|refine And.intro ?_ ?_|refine nX ?_ ?_|intro _)|(simp[*]))
   rotate_right
   ·rename_i b6;rw[if_neg b6] at kf;have k2:=keep b6;clear b6;refine du (fun(k:Nat)=>k≤zs.length∧eI (uo os.length ae.length zs) (zs.drop k) k=(R1,R2)) [1,81,82] (fun(k:Nat)=>[(83,.w false false (.int .i64 k))]) [0] (fun(k:Nat)=>[]) (fun(k:Nat)=>zs.length-k) (fun(_u:Unit)=>R1=0∧R2=0) [] (fun(_u:Unit)=>[]) [0] (fun(_u:Unit)=>[]) (0) ⟨Nat.zero_le _,kf⟩ (by simp) (by simp) (fun k hk=>?_) (fun _u hf=>?_)
    ·obtain⟨hk,hj⟩:=hk;by_cases hlt:k<zs.length
     ·have c1:=KF (zs.take k) (by rw[List.length_take];omega) (nth zs k);rw[List.length_take_of_le hk] at c1;have w1:=fM (nth zs k).1 0 ((os.length:Int)-1);have w2:=fM (nth zs k).2 0 ((ae.length:Int)-1);have c2:=tj (a8 (bn (nth zs k).1 0 ((os.length:Int)-1)&&bn (nth zs k).2 0 ((ae.length:Int)-1)) 6) (a8 (!((zs.take k).any fun y=>decide ((nth zs k).1=y.1)&&decide ((nth zs k).2=y.2))) 26);rw[dG zs k hlt,eI] at hj;have hE:uo os.length ae.length zs k (nth zs k)=cI [a8 (bn (nth zs k).1 0 ((os.length:Int)-1)&&bn (nth zs k).2 0 ((ae.length:Int)-1)) 6,a8 (!((zs.take k).any fun y=>decide ((nth zs k).1=y.1)&&decide ((nth zs k).2=y.2))) 26]:=rfl;rw[hE] at hj;clear hE;generalize cI [a8 (bn (nth zs k).1 0 ((os.length:Int)-1)&&bn (nth zs k).2 0 ((ae.length:Int)-1)) 6,a8 (!((zs.take k).any fun y=>decide ((nth zs k).1=y.1)&&decide ((nth zs k).2=y.2))) 26]=e at hj c2;have kj:=keep hj;clear hj;unfold Tw.cP at c1;generalize bn (nth zs k).1 0 ((os.length:Int)-1)=g1 at w1 c2;generalize bn (nth zs k).2 0 ((ae.length:Int)-1)=g2 at w2 c2
      cases g1 with
      |true=>
       simp only[Bool.true_and] at c2
       repeat' (first|(with_reducible first|refine aj ?_|refine aL ?_|refine aB ?_|refine aD ?_|refine af ?_|refine bF (id:=27) 13 mixed (by decide +kernel) ?_|refine al ?_|refine And.intro ?_ ?_ |  refine je ?_ ?_|refine cw (c1) ?_|refine cw (c2) ?_|refine cw (w1) ?_|refine cw (w2) ?_|refine cw (dk _ _) ?_|intro _)|(simp[*,hlt,Tw.cP])|(refine az (c1) ?_ ?_;(· (simp[*];done)))|(refine az (c2) ?_ ?_;(· (simp[*];done)))|(refine az (w1) ?_ ?_;(· (simp[*];done)))|(refine az (w2) ?_ ?_;(· (simp[*];done)))|(refine az (dk _ _) ?_ ?_;(· (simp[*];done))))
       all_goals first
        |omega
        |exact aH (by omega) (by omega)
        |(rename_i hp;rw[if_neg hp] at kj;exact (Prod.mk.inj kj).1)
        |(rename_i hp;rw[if_neg hp] at kj;exact (Prod.mk.inj kj).2)
        |(rename_i hp;rw[if_pos hp] at kj;(refine nx (k+1) ?_ ?_;(· exact⟨by omega,kj⟩);(refine aG ?_ ?_<;>first|trivial|(simp[*];done))))
      |false=>
       simp only[Bool.false_and] at c2
       repeat' (first|(with_reducible first|refine aj ?_|refine aL ?_|refine aB ?_|refine aD ?_|refine af ?_|refine bF (id:=27) 13 mixed (by decide +kernel) ?_|refine al ?_|refine And.intro ?_ ?_ |  refine je ?_ ?_|refine cw (c1) ?_|refine cw (c2) ?_|refine cw (w1) ?_|refine cw (dk _ _) ?_|intro _)|(simp[*,hlt,Tw.cP])|(refine az (c1) ?_ ?_;(· (simp[*];done)))|(refine az (c2) ?_ ?_;(· (simp[*];done)))|(refine az (w1) ?_ ?_;(· (simp[*];done)))|(refine az (w2) ?_ ?_;(· (simp[*];done)))|(refine az (dk _ _) ?_ ?_;(· (simp[*];done))))
       all_goals first
        |omega
        |exact aH (by omega) (by omega)
        |(rename_i hp;rw[if_neg hp] at kj;exact (Prod.mk.inj kj).1)
        |(rename_i hp;rw[if_neg hp] at kj;exact (Prod.mk.inj kj).2)
        |(rename_i hp;rw[if_pos hp] at kj;(refine nx (k+1) ?_ ?_;(· exact⟨by omega,kj⟩);(refine aG ?_ ?_<;>first|trivial|(simp[*];done))))
     ·have hke:k=zs.length:=by omega
      subst hke;rw[List.drop_length] at hj;unfold eI at hj
      repeat' (first|(with_reducible first|refine aj ?_|refine aY ?_|refine af ?_|refine al ?_|intro _)|(simp[*]))
      all_goals first
       |omega
       |(refine bl () ?_ ?_;(· exact⟨(Prod.mk.inj hj).1.symm,(Prod.mk.inj hj).2.symm⟩);(refine aG ?_ ?_<;>first|trivial|(simp[*];done)))
    ·obtain⟨rfl,rfl⟩:=hf
     repeat' (first|(with_reducible first|refine aj ?_|refine aD ?_|refine af ?_|intro _)|(simp[*]))
   all_goals first
    |(rename_i b1;rw[if_pos b1] at kf;first|exact (Prod.mk.inj kf).1|exact (Prod.mk.inj kf).2)
 all_goals first
  |(rename_i b1;rw[if_pos b1] at kR;first|exact (Prod.mk.inj kR).1|exact (Prod.mk.inj kR).2)
  |(rename_i b1 b2;rw[if_neg b1,if_pos (by simpa using b2)] at kR;first|exact (Prod.mk.inj kR).1|exact (Prod.mk.inj kR).2)
  |(rename_i b1 b2 b3;rw[if_neg b1,if_neg (by simpa using b2),if_pos b3] at kR;first|exact (Prod.mk.inj kR).1|exact (Prod.mk.inj kR).2)
  |(rename_i b1 b2 b3 b4;rw[if_neg b1,if_neg (by simpa using b2),if_neg b3,if_pos (by simpa using b4)] at kR;first|exact (Prod.mk.inj kR).1|exact (Prod.mk.inj kR).2)
  |(rename_i b1 b2 b3 b4 b5;rw[if_neg b1,if_neg (by simpa using b2),if_neg b3,if_neg (by simpa using b4),if_pos (by simpa using b5)] at kR;first|exact (Prod.mk.inj kR).1|exact (Prod.mk.inj kR).2)
end Go.Proofs.YtmaaehaedfemaaaGreat
namespace Go.Proofs.YtmaaehaedfemaaaGreat
open Go Go.Fi Go.Fc
noncomputable def ciR(r:Tw.RND):Int:=(l9 r.ae r.os r.wt r.zs).1
noncomputable def ceR(r:Tw.RND):Int:=(l9 r.ae r.os r.wt r.zs).2
theorem chk[ak](r:Tw.RND):aF Tz.prog 37 [Tw.bM r] (.tup [.int .i64 (ciR r),.int .i64 (ceR r)]) true:=
 KI r.ae r.os r.wt r.zs r.dp.2.2.2.1 r.dp.2.2.2.2.1 r.dp.2.2.2.2.2.1 r.dp.2.2.2.2.2.2 r.dp.1 r.dp.2.1 r.dp.2.2.1
theorem Di{α:Type}{E:Nat→α→Int}{l:List α}{k:Nat}{T:Int×Int}(h:(ij E l k T).2=0):ij E l k T=T:=by
 unfold ij at h ⊢;split
 ·rename_i h1;rw[if_pos h1] at h;exact absurd h h1
 ·rfl
theorem lim(r:Tw.RND)(h:ceR r=0):r.os.length≤1000∧r.zs.length≤64∧r.ae.length≤1000:=by
 unfold ceR l9 at h;split at h
 ·simp at h
 split at h
 ·rename_i h2;exact absurd h h2
 split at h
 ·simp at h
 split at h
 ·rename_i h2;exact absurd h h2
 split at h
 ·simp at h
 rename_i h1 _ h3 _ _;rw[Di h] at h;unfold nD at h;split at h
 ·simp at h
 rename_i h6;omega
theorem zn:@Tw.lX Tz.prog Tz.xfZ Tz.L0 Tz.kn ciR ceR true:=Tz.zn (fun r=>@chk Tz.L0 r) lim
@[reducible] noncomputable def LD:ak:=Tz.L1 ceR
theorem j6(K:fB):@oL Tz.xfZ LD.toEnvD Tz.prog Tryz.prog K:=@Tw.OI Tz.prog Tz.xfZ Tz.L0 Tz.kn ciR ceR true K zn
theorem oh:@nh Tz.xfZ LD.toEnvD Tz.prog Tryz.prog Tz.kn:=Tz.Fp LD.toEnvD (fun _ _ _ _ h=>h.1) (fun w t d=>⟨rfl,rfl,Nat.le_refl _,fun _ _=>rfl⟩)
theorem kB(r:Tw.RND):@aF LD Tz.prog 20 [Tw.bM r] (Tw.iR ceR r) false:=Tz.kB ceR r
end Go.Proofs.YtmaaehaedfemaaaGreat
namespace Go.Proofs.YtmaaehaedfemaaaGreat
open Go Go.Fi
variable[ak]
def bE:Nat→Int
 |0=>1000000
 |k+1=>bE k*10
@[simp] theorem Vv:bE 0=1000000:=rfl
theorem lD(k:Nat)(h:k≤6):0≤bE k∧bE k≤1000000000000:=by
 obtain rfl|rfl|rfl|rfl|rfl|rfl|rfl:k=0∨k=1∨k=2∨k=3∨k=4∨k=5∨k=6:=by omega
 all_goals decide
theorem qJ(p:Nat)(hp:p≤6):aF Tz.prog 17 [.int .i64 p] (.int .i64 (bE p)) true:=by
 refine rcK Tz.func17 ?_;simp only[Tryz.results17,Tryz.ntmps17]
 repeat' (first|(with_reducible first|refine aj ?_|refine af ?_|intro _)|(simp[*]))
 refine du (fun(k:Nat)=>k≤p) [4] (fun(k:Nat)=>[(5,.w false false (.int .i64 k)),(3,.w false false (.int .i64 (bE k)))]) [] (fun(k:Nat)=>[]) (fun(k:Nat)=>p-k) (fun(_u:Unit)=>True) [] (fun(_u:Unit)=>[(3,.w false false (.int .i64 (bE p)))]) [] (fun(_u:Unit)=>[]) (0) (Nat.zero_le _) (by simp) (by simp) (fun k hk=>?_) (fun _u hf=>?_)
 ·by_cases hlt:k<p
  ·have hb:=lD k (by omega);have e:bE (k+1)=bE k*10:=rfl;generalize bE k=n at hb e
   repeat' (first|(with_reducible first|refine aj ?_|refine nY ?_|refine aB ?_|refine af ?_|refine al ?_|refine And.intro ?_ ?_|intro _)|(simp[*,hlt]))
   all_goals first
    |omega
    |exact aH (by omega) (by omega)
    |(refine nx (k+1) ?_ ?_;(· omega);(refine aG ?_ ?_<;>first|trivial|(simp[*,e];done)))
  ·have hke:k=p:=by omega
   subst hke
   repeat' (first|(with_reducible first|refine aj ?_|refine aY ?_|refine af ?_|refine al ?_|intro _)|(simp[*]))
   all_goals first
    |omega
    |(refine bl () ?_ ?_;(· trivial);(refine aG ?_ ?_<;>first|trivial|(simp[*];done)))
 ·repeat' (first|(with_reducible first|refine aj ?_|refine aD ?_|refine af ?_|intro _)|(simp[*]))
theorem KJ(p:Nat)(hp:p≤6):aF Tz.prog 7 [.int .i64 p] (.int .i64 (bE p)) true:=by
 refine rcK Tz.func7 ?_;simp only[Tryz.results7,Tryz.ntmps7]
 repeat' (first|(with_reducible first|refine aj ?_|refine af ?_|intro _)|(simp[*]))
 refine du (fun(k:Nat)=>k≤p) [0] (fun(k:Nat)=>[(4,.w false false (.int .i64 k)),(3,.w false false (.int .i64 (bE k)))]) [] (fun(k:Nat)=>[]) (fun(k:Nat)=>p-k) (fun(_u:Unit)=>True) [] (fun(_u:Unit)=>[(3,.w false false (.int .i64 (bE p)))]) [] (fun(_u:Unit)=>[]) (0) (Nat.zero_le _) (by simp) (by simp) (fun k hk=>?_) (fun _u hf=>?_)
 ·by_cases hlt:k<p
  ·have hb:=lD k (by omega);have e:bE (k+1)=10*bE k:=Int.mul_comm _ _;generalize bE k=n at hb e
   repeat' (first|(with_reducible first|refine aj ?_|refine nY ?_|refine aB ?_|refine af ?_|refine al ?_|refine And.intro ?_ ?_|intro _)|(simp[*,hlt]))
   all_goals first
    |omega
    |exact aH (by omega) (by omega)
    |(refine nx (k+1) ?_ ?_;(· omega);(refine aG ?_ ?_<;>first|trivial|(simp[*,e];done)))
  ·have hke:k=p:=by omega
   subst hke
   repeat' (first|(with_reducible first|refine aj ?_|refine aY ?_|refine af ?_|refine al ?_|intro _)|(simp[*]))
   all_goals first
    |omega
    |(refine bl () ?_ ?_;(· trivial);(refine aG ?_ ?_<;>first|trivial|(simp[*];done)))
 ·repeat' (first|(with_reducible first|refine aj ?_|refine aD ?_|refine af ?_|intro _)|(simp[*]))
end Go.Proofs.YtmaaehaedfemaaaGreat
