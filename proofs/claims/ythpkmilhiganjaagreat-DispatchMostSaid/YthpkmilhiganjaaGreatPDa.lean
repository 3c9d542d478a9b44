/- Lemmas. -/
import Derived.Test.YthpkmilhiganjaaGreatPWg
import Derived.Test.YthpkmilhiganjaaGreatPLg
import Derived.Test.YthpkmilhiganjaaGreatPLf
set_option linter.all false
set_option maxHeartbeats 32000000
set_option maxRecDepth 100000
namespace Go.Proofs.YthpkmilhiganjaaGreat
open Go Go.Fi
variable[bI]
def dw(ok:Bool)(e:Int):Int:=if ok then 0 else e
theorem gv(ok:Bool)(e:Int):bX Tz.prog 71 [.bool ok,.int .i64 e] (.int .i64 (dw ok e)) true:=by
 refine rcK Tz.func71 ?_;simp only[Tryz.results71,Tryz.ntmps71]
 repeat' first|(with_reducible first|apply bH|apply b7|apply bT|apply bG|apply bQ|refine uu ?_ ?_|intro _)|simp[*]
 all_goals simp_all[dw]
theorem mixed:Tz.prog.follows .mixedOrders=true:=aj
def dj(n lo hi:Int):Bool:=decide (lo<=n)&&decide (n<=hi)
theorem jw(n lo hi:Int):bX Tz.prog 72 [.int .i64 n,.int .i64 lo,.int .i64 hi] (.bool (dj n lo hi)) true:=by
 refine rcK Tz.func72 ?_;simp only[Tryz.results72,Tryz.ntmps72]
 repeat' first|(with_reducible first|apply bH|apply bT|apply bG|refine xr ?_ ?_|intro _)|simp[*,dj]
theorem pg(n lo hi:Int):bX Tz.prog 75 [.int .i64 n,.int .i64 lo,.int .i64 hi] (.bool (dj n lo hi)) true:=by
 refine rcK Tz.func75 ?_;simp only[Tryz.results75,Tryz.ntmps75]
 repeat' first|(with_reducible first|apply bH|apply bT|apply bG|refine xr ?_ ?_|intro _)|simp[*,dj]
def ints(l:List Int):List PV:=l.map (.int .i64)
@[simp]theorem Zm(l:List Int):(ints l).length=l.length:=by simp[ints]
@[simp]theorem Ph(l:List Int)(k:Nat)(h:k<l.length):fg (ints l) k=.int .i64 (nth l k):=uy _ l k h
def fD:List Int->Int
 |[]=>0
 |e::r=>if e=0 then fD r else e
theorem fE{α:Type}[Inhabited α](l:List α)(k:Nat)(h:k<l.length):l.drop k=nth l k::l.drop (k+1):=by
 rw[TZ h];simp[nth,dZ,dP h]
theorem BR(l:List Int)(h:l.length<1000):bX Tz.prog 70 [.sl l.length (ints l)] (.int .i64 (fD l)) true:=by
 refine rcK Tz.func70 ?_;simp only[Tryz.results70,Tryz.ntmps70]
 repeat' first|(with_reducible first|apply bH|apply bG|intro _)|simp[*]
 refine xx (λk:Nat=>k<=l.length/\fD (l.drop k)=fD l) [5,6] (λk=>[(7,.w false false (.int .i64 k))]) (λ_=>[]) (λk=>l.length-k)
  (λ_:Unit=>fD l=0) [] (λ_=>[]) (λ_=>[]) 0 ⟨cG _,rfl⟩ ae ae (λk hk=>?_) (λ_ hf=>?_)
 .obtain⟨hk,hf⟩:=hk
  repeat' first|(with_reducible first|apply bH|apply cO|apply b7|apply bT|apply da|apply bG|apply bQ|refine And.intro ?_ ?_|refine oA ?_ ?_|refine lH ?_ ?_|intro _)|simp[*,fD]
  all_goals first
   |exact dc ab ab
   |omega
   |(rw[<-hf,fE l k ab];simp_all[fD];done)
   |(refine nx (k+1) ?_ ?_;(· refine⟨ab,?_⟩;rw[<-hf,fE l k ab];simp_all[fD]);(refine cD ?_ ?_<;>first|trivial|(simp[*];done)))
   |(refine dH () ?_ ?_;(· rw[<-hf,JX ab];rfl);(refine cD ?_ ?_<;>first|trivial|(simp[*];done)))
 .repeat' first|(with_reducible first|apply bH|apply bT|apply bG|intro _)|simp[*]
theorem Hq(a b:Int):bX Tz.prog 70 [.sl 2 [.int .i64 a,.int .i64 b]] (.int .i64 (fD [a,b])) true:=BR [a,b] (gG rfl)
theorem Hr(a b c:Int):bX Tz.prog 70 [.sl 3 [.int .i64 a,.int .i64 b,.int .i64 c]] (.int .i64 (fD [a,b,c])) true:=BR [a,b,c] (gG rfl)
def vh(c:Nat):Bool:=decide ((97:Int)<=c)&&decide ((c:Int)<=122) || decide ((65:Int)<=c)&&decide ((c:Int)<=90)
def okB(k c:Nat):Bool:=vh c || !(decide (k=0))&&(decide (c=45) || decide ((48:Int)<=c)&&decide ((c:Int)<=57))
def mX(s:ByteArray):Nat->Bool
 |0=>true
 |k+1=>mX s k&&okB k (uN s k)
theorem BS(s:ByteArray)(k:Nat)(h:okB k (uN s k)=false):∀n,k<n->mX s n=false
 |0,hn=>by omega
 |n+1,hn=>by
  unfold mX;by_cases e:k=n
  .subst e;simp[h]
  .rw[BS s k h n ab];rfl
def gD(s:ByteArray):Bool:=mX s s.size&&decide (s.size≠0)&&decide (s.size<=12)
theorem Ht{s:ByteArray}(h:s.size=0):gD s=false:=by simp[gD,h]
theorem Pj{s:ByteArray}(h:12<s.size):gD s=false:=by simp[gD];intros;omega
theorem Hu{s:ByteArray}(h:mX s s.size=true)(h0:s.size≠0):gD s=decide (s.size<=12):=by simp[gD,h,h0]
theorem Hv(s:ByteArray)(hs:s.size<1000000):bX Tz.prog 130 [.str s] (.bool (gD s)) true:=by
 refine rcK Tz.func130 ?_;simp only[Tryz.results130,Tryz.ntmps130]
 repeat' first|(with_reducible first|apply bH|apply bG|intro _)|simp[*]
 refine xx (λk:Nat=>k<=s.size/\mX s k=true) [0,7,8] (λk=>[(9,.w false false (.int .i64 k))]) (λ_=>[]) (λk=>s.size-k)
  (λ_:Unit=>mX s s.size=true) [0] (λ_=>[]) (λ_=>[]) 0 ⟨cG _,rfl⟩ ae ae (λk hk=>?_) (λ_ hf=>?_)
 .obtain⟨hk,hf⟩:=hk
  repeat' first|(with_reducible first|apply bH|apply cO|apply b7|apply bT|apply da|apply bG|apply bQ|refine And.intro ?_ ?_|refine xu ?_ ?_|refine xr ?_ ?_|refine lH ?_ ?_|intro _)|simp[*]
  all_goals first
   |exact dc ab ab
   |omega
   |(refine nx (k+1) ?_ ?_;(· refine⟨ab,?_⟩;unfold mX;rw[hf];clear hf;simp[okB,vh] at *;omega);(refine cD ?_ ?_<;>first|trivial|(simp[*];done)))
   |(refine dH () ?_ ?_;(· rw[show s.size=k by omega];exact hf);(refine cD ?_ ?_<;>first|trivial|(simp[*];done)))
   |(unfold gD;rw[BS s k (by clear hf;simp[okB,vh] at *;omega) s.size ab];rfl)
 .repeat' first|(with_reducible first|apply bH|apply bT|apply bG|refine xu ?_ ?_|intro _)|simp[*]
  .rename_i h0
   have hh:s≠{ data:=#[] }:=by simpa using h0
   rw[Hu hf (λh=>hh ((G2 s).2 h))];simp;omega
  .rename_i h0;rw[Ht ((G2 s).1 (by have h1:s = { data:=#[] }:=by simpa using h0
                                   exact h1))]
abbrev Car:=ByteArray×Int×Bool
abbrev Ord:=ByteArray×Int×Bool×Int
abbrev Par:=Int×Int
def dG(l:List Car):List PV:=l.flatMap Tw.fq
@[simp]theorem Zn(l:List Car):(dG l).length=l.length*3:=uw Tw.fq 3 (λ_=>rfl) l
@[simp]theorem Zo(l:List Car)(k:Nat)(h:k<l.length):((dG l).drop (k*3)).take 3=Tw.fq (nth l k):=xw Tw.fq 3 (λ_=>rfl) l k h
@[simp]theorem Zp(l:List Car)(k:Nat)(h:k<l.length):fg (dG l) (k*3)=.str (nth l k).1:=qI Tw.fq 3 (λ_=>rfl) l k 0 h ab
@[simp]theorem Zq(l:List Car)(k:Nat)(h:k<l.length):fg (dG l) (k*3+1)=.int .i64 (nth l k).2.1:=qI Tw.fq 3 (λ_=>rfl) l k 1 h ab
def dE(l:List Ord):List PV:=l.flatMap Tw.dY
@[simp]theorem Zr(l:List Ord):(dE l).length=l.length*4:=uw Tw.dY 4 (λ_=>rfl) l
@[simp]theorem Zs(l:List Ord)(k:Nat)(h:k<l.length):((dE l).drop (k*4)).take 4=Tw.dY (nth l k):=xw Tw.dY 4 (λ_=>rfl) l k h
@[simp]theorem Zt(l:List Ord)(k:Nat)(h:k<l.length):fg (dE l) (k*4)=.str (nth l k).1:=qI Tw.dY 4 (λ_=>rfl) l k 0 h ab
@[simp]theorem Zu(l:List Ord)(k:Nat)(h:k<l.length):fg (dE l) (k*4+1)=.int .i64 (nth l k).2.1:=qI Tw.dY 4 (λ_=>rfl) l k 1 h ab
@[simp]theorem Zv(l:List Ord)(k:Nat)(h:k<l.length):fg (dE l) (k*4+3)=.int .i64 (nth l k).2.2.2:=qI Tw.dY 4 (λ_=>rfl) l k 3 h ab
def dI(l:List Par):List PV:=l.flatMap Tw.eD
@[simp]theorem Zw(l:List Par):(dI l).length=l.length*2:=uw Tw.eD 2 (λ_=>rfl) l
@[simp]theorem Zx(l:List Par)(k:Nat)(h:k<l.length):((dI l).drop (k*2)).take 2=Tw.eD (nth l k):=xw Tw.eD 2 (λ_=>rfl) l k h
@[simp]theorem Zy(l:List Par)(k:Nat)(h:k<l.length):fg (dI l) (k*2)=.int .i64 (nth l k).1:=qI Tw.eD 2 (λ_=>rfl) l k 0 h ab
theorem BT(n:Int):bX Tz.prog 102 [.int .i64 n] (.bool (dj n 1 8)) true:=by
 refine rcK Tz.func102 ?_;simp only[Tryz.results102,Tryz.ntmps102]
 repeat' first|(with_reducible first|apply bH|apply bT|apply bG|refine And.intro ?_ ?_|refine cw (jw _ _ _) ?_|intro _)|simp[*]|(refine bN (jw _ _ _) ?_ ?_;· simp[*];done)
theorem BU(x:Car):bX Tz.prog 100 [.agg (Tw.fq x)] (.str x.1) true:=by
 unfold Tw.fq;refine rcK Tz.func100 ?_;simp only[Tryz.results100,Tryz.ntmps100]
 repeat' first|(with_reducible first|apply bH|apply bT|apply bG|intro _)|simp[*]
theorem BV(x:Ord):bX Tz.prog 104 [.agg (Tw.dY x)] (.str x.1) true:=by
 unfold Tw.dY;refine rcK Tz.func104 ?_;simp only[Tryz.results104,Tryz.ntmps104]
 repeat' first|(with_reducible first|apply bH|apply bT|apply bG|intro _)|simp[*]
def gK(x:Car):Int:=dw (dj x.2.1 1 8) 2
theorem Pk(i:Int)(x:Car):bX Tz.prog 101 [.int .i64 i,.agg (Tw.fq x)] (.int .i64 (gK x)) true:=by
 unfold Tw.fq gK;refine rcK Tz.func101 ?_;simp only[Tryz.results101,Tryz.ntmps101]
 repeat' first|(with_reducible first|apply bH|apply bT|apply bG|refine And.intro ?_ ?_|refine cw (BT _) ?_|refine cw (gv _ _) ?_|intro _)|simp[*]|(refine bN (BT _) ?_ ?_;· simp[*];done)|(refine bN (gv _ _) ?_ ?_;· simp[*];done)
def gn(x:Ord):Int:=dw (dj x.2.1 1 8&&dj x.2.2.2 0 6) 2
theorem Pl(i:Int)(x:Ord):bX Tz.prog 105 [.int .i64 i,.agg (Tw.dY x)] (.int .i64 (gn x)) true:=by
 unfold Tw.dY gn;have c1:=BT x.2.1;generalize dj x.2.1 1 8=b at c1 ⊢
 cases b with
 |true=>
  refine rcK Tz.func105 ?_;simp only[Tryz.results105,Tryz.ntmps105]
  repeat' first|(with_reducible first|apply bH|apply bT|apply bG|refine And.intro ?_ ?_|refine cw (jw _ _ _) ?_|refine cw (gv _ _) ?_|intro _)|simp[*]|(refine bN (c1) ?_ ?_;· simp[*];done)|(refine bN (jw _ _ _) ?_ ?_;· simp[*];done)|(refine bN (gv _ _) ?_ ?_;· simp[*];done)
 |false=>
  refine rcK Tz.func105 ?_;simp only[Tryz.results105,Tryz.ntmps105]
  repeat' first|(with_reducible first|apply bH|apply bT|apply bG|refine And.intro ?_ ?_|refine cw (gv _ _) ?_|intro _)|simp[*]|(refine bN (c1) ?_ ?_;· simp[*];done)|(refine bN (jw _ _ _) ?_ ?_;· simp[*];done)|(refine bN (gv _ _) ?_ ?_;· simp[*];done)
theorem Pm(x:Int):bX Tz.prog 106 [.int .i64 x] (.bool (!dj x 0 100000)) true:=by
 refine rcK Tz.func106 ?_;simp only[Tryz.results106,Tryz.ntmps106]
 repeat' first|(with_reducible first|apply bH|apply bT|apply bG|refine And.intro ?_ ?_|refine cw (jw _ _ _) ?_|intro _)|simp[*]|(refine bN (jw _ _ _) ?_ ?_;· simp[*];done)
def di(p:Prop):Prop:=p
theorem keep{p:Prop}(h:p):di p:=h
def ig{α:Type}(p:α->Bool):List α->Nat->Int
 |[],_=>-1
 |x::r,i=>if p x=true then (i:Int) else ig p r (i+1)
def idxOf{α:Type}(p:α->Bool)(l:List α):Int:=ig p l 0
theorem Hw{α:Type}(p:α->Bool):∀(l:List α)(i:Nat),decide (0<=ig p l i)=l.any p
 |[],i=>rfl
 |x::r,i=>by
  unfold ig
  cases h:p x with
  |true=>simp[h]
  |false=>simp[h];have:=Hw p r (i+1);simpa using this
theorem uG{α:Type}(p:α->Bool)(l:List α):decide (0<=idxOf p l)=l.any p:=Hw p l 0
theorem Pn(l:List Int)(hl:l.length<100000)(g:FuncId)(bY:List PV)(p:Int->Bool)(h:∀x,bX Tz.prog g (.int .i64 x::bY) (.bool (p x)) true):bX Tz.prog 124 [.sl l.length (ints l),.fn g bY] (.int .i64 (idxOf p l)) true:=by
 generalize hR:idxOf p l=R;have kR:di (ig p l 0=R):=keep hR;clear hR;refine rcK Tz.func124 ?_;simp only[Tryz.results124,Tryz.ntmps124]
 repeat' first|(with_reducible first|apply bH|apply bG|intro _)|simp[*]
 refine fp (λ(k:Nat)=>k<=l.length/\ig p (l.drop k) k=R) [0,1,7] (λ(k:Nat)=>[(8,.w false false (.int .i64 k))]) [] (λ(k:Nat)=>[]) (λ(k:Nat)=>l.length-k) (λ(_u:Unit)=>R=-1) [] (λ(_u:Unit)=>[]) [] (λ(_u:Unit)=>[]) (0) ⟨cG _,kR⟩ ae ae (λk hk=>?_) (λ_u hf=>?_)
 .obtain⟨hk,hj⟩:=hk;by_cases h5:k<l.length
  .have c1:=h (nth l k);have h8:=hj;rw[fE l k h5] at h8;unfold ig at h8;have kj:=keep h8;clear hj h8 h
   repeat' first|(with_reducible first|apply bH|apply cO|apply b7|apply bT|apply bG|apply bQ|refine And.intro ?_ ?_|refine uu ?_ ?_|intro _)|simp[*,h5]|(refine bN (c1) ?_ ?_;· simp[*];done)
   all_goals first
    |exact dc ab ab
    |omega
    |(rename_i hp;rw[b8 hp] at kj;exact kj)
    |(rename_i hp;rw[bP (by rw[hp];decide)] at kj;(refine nx (k+1) ?_ ?_;(· exact⟨ab,kj⟩);(refine cD ?_ ?_<;>first|trivial|(simp[*];done))))
    |skip
  .have h9:k=l.length:=ab
   subst h9
   repeat' first|(with_reducible first|apply bH|apply da|apply bG|apply bQ|intro _)|simp[*]
   all_goals (refine dH () ?_ ?_;(· rw[<-hj,jb];rfl);(refine cD ?_ ?_<;>first|trivial|(simp[*];done)))
 .subst hf
  repeat' first|(with_reducible first|apply bH|apply bT|apply bG|intro _)|simp[*]
theorem Po(l:List Int)(hl:l.length<100000)(g:FuncId)(bY:List PV)(p:Int->Bool)(h:∀x,bX Tz.prog g (.int .i64 x::bY) (.bool (p x)) true):bX Tz.prog 93 [.sl l.length (ints l),.fn g bY] (.bool (l.any p)) true:=by
 have c1:=Pn l hl g bY p h;have h:=uG p l;generalize idxOf p l=i at *;rw[<-h];clear h;refine rcK Tz.func93 ?_;simp only[Tryz.results93,Tryz.ntmps93]
 repeat' first|(with_reducible first|apply bH|apply bT|apply bG|refine And.intro ?_ ?_|intro _)|simp[*]|(refine bN (c1) ?_ ?_;· simp[*];done)
theorem Pp(l:List Car)(hl:l.length<100000)(g:FuncId)(bY:List PV)(p:Car->Bool)(h:∀x,bX Tz.prog g (.agg (Tw.fq x)::bY) (.bool (p x)) true):bX Tz.prog 167 [.sl l.length (dG l),.fn g bY] (.int .i64 (idxOf p l)) true:=by
 generalize hR:idxOf p l=R;have kR:di (ig p l 0=R):=keep hR;clear hR;refine rcK Tz.func167 ?_;simp only[Tryz.results167,Tryz.ntmps167]
 repeat' first|(with_reducible first|apply bH|apply bG|intro _)|simp[*]
 refine fp (λ(k:Nat)=>k<=l.length/\ig p (l.drop k) k=R) [0,1,7] (λ(k:Nat)=>[(8,.w false false (.int .i64 k))]) [] (λ(k:Nat)=>[]) (λ(k:Nat)=>l.length-k) (λ(_u:Unit)=>R=-1) [] (λ(_u:Unit)=>[]) [] (λ(_u:Unit)=>[]) (0) ⟨cG _,kR⟩ ae ae (λk hk=>?_) (λ_u hf=>?_)
 .obtain⟨hk,hj⟩:=hk;by_cases h5:k<l.length
  .have c1:=h (nth l k);have h8:=hj;rw[fE l k h5] at h8;unfold ig at h8;have kj:=keep h8;clear hj h8 h
   repeat' first|(with_reducible first|apply bH|apply cO|apply b7|apply bT|apply bG|apply bQ|refine And.intro ?_ ?_|refine uu ?_ ?_|intro _)|simp[*,h5]|(refine bN (c1) ?_ ?_;· simp[*];done)
   all_goals first
    |exact dc ab ab
    |omega
    |(rename_i hp;rw[b8 hp] at kj;exact kj)
    |(rename_i hp;rw[bP (by rw[hp];decide)] at kj;(refine nx (k+1) ?_ ?_;(· exact⟨ab,kj⟩);(refine cD ?_ ?_<;>first|trivial|(simp[*];done))))
    |skip
  .have h9:k=l.length:=ab
   subst h9
   repeat' first|(with_reducible first|apply bH|apply da|apply bG|apply bQ|intro _)|simp[*]
   all_goals (refine dH () ?_ ?_;(· rw[<-hj,jb];rfl);(refine cD ?_ ?_<;>first|trivial|(simp[*];done)))
 .subst hf
  repeat' first|(with_reducible first|apply bH|apply bT|apply bG|intro _)|simp[*]
theorem Pq(l:List Car)(hl:l.length<100000)(g:FuncId)(bY:List PV)(p:Car->Bool)(h:∀x,bX Tz.prog g (.agg (Tw.fq x)::bY) (.bool (p x)) true):bX Tz.prog 128 [.sl l.length (dG l),.fn g bY] (.bool (l.any p)) true:=by
 have c1:=Pp l hl g bY p h;have h:=uG p l;generalize idxOf p l=i at *;rw[<-h];clear h;refine rcK Tz.func128 ?_;simp only[Tryz.results128,Tryz.ntmps128]
 repeat' first|(with_reducible first|apply bH|apply bT|apply bG|refine And.intro ?_ ?_|intro _)|simp[*]|(refine bN (c1) ?_ ?_;· simp[*];done)
theorem Pr(l:List Ord)(hl:l.length<100000)(g:FuncId)(bY:List PV)(p:Ord->Bool)(h:∀x,bX Tz.prog g (.agg (Tw.dY x)::bY) (.bool (p x)) true):bX Tz.prog 168 [.sl l.length (dE l),.fn g bY] (.int .i64 (idxOf p l)) true:=by
 generalize hR:idxOf p l=R;have kR:di (ig p l 0=R):=keep hR;clear hR;refine rcK Tz.func168 ?_;simp only[Tryz.results168,Tryz.ntmps168]
 repeat' first|(with_reducible first|apply bH|apply bG|intro _)|simp[*]
 refine fp (λ(k:Nat)=>k<=l.length/\ig p (l.drop k) k=R) [0,1,7] (λ(k:Nat)=>[(8,.w false false (.int .i64 k))]) [] (λ(k:Nat)=>[]) (λ(k:Nat)=>l.length-k) (λ(_u:Unit)=>R=-1) [] (λ(_u:Unit)=>[]) [] (λ(_u:Unit)=>[]) (0) ⟨cG _,kR⟩ ae ae (λk hk=>?_) (λ_u hf=>?_)
 .obtain⟨hk,hj⟩:=hk;by_cases h5:k<l.length
  .have c1:=h (nth l k);have h8:=hj;rw[fE l k h5] at h8;unfold ig at h8;have kj:=keep h8;clear hj h8 h
   repeat' first|(with_reducible first|apply bH|apply cO|apply b7|apply bT|apply bG|apply bQ|refine And.intro ?_ ?_|refine uu ?_ ?_|intro _)|simp[*,h5]|(refine bN (c1) ?_ ?_;· simp[*];done)
   all_goals first
    |exact dc ab ab
    |omega
    |(rename_i hp;rw[b8 hp] at kj;exact kj)
    |(rename_i hp;rw[bP (by rw[hp];decide)] at kj;(refine nx (k+1) ?_ ?_;(· exact⟨ab,kj⟩);(refine cD ?_ ?_<;>first|trivial|(simp[*];done))))
    |skip
  .have h9:k=l.length:=ab
   subst h9
   repeat' first|(with_reducible first|apply bH|apply da|apply bG|apply bQ|intro _)|simp[*]
   all_goals (refine dH () ?_ ?_;(· rw[<-hj,jb];rfl);(refine cD ?_ ?_<;>first|trivial|(simp[*];done)))
 .subst hf
  repeat' first|(with_reducible first|apply bH|apply bT|apply bG|intro _)|simp[*]
theorem Ps(l:List Ord)(hl:l.length<100000)(g:FuncId)(bY:List PV)(p:Ord->Bool)(h:∀x,bX Tz.prog g (.agg (Tw.dY x)::bY) (.bool (p x)) true):bX Tz.prog 131 [.sl l.length (dE l),.fn g bY] (.bool (l.any p)) true:=by
 have c1:=Pr l hl g bY p h;have h:=uG p l;generalize idxOf p l=i at *;rw[<-h];clear h;refine rcK Tz.func131 ?_;simp only[Tryz.results131,Tryz.ntmps131]
 repeat' first|(with_reducible first|apply bH|apply bT|apply bG|refine And.intro ?_ ?_|intro _)|simp[*]|(refine bN (c1) ?_ ?_;· simp[*];done)
theorem Pt(x y:Car):bX Tz.prog 129 [.agg (Tw.fq y),.ip [.fn 100 []] 0,.ip (Tw.fq x) 0] (.bool (decide (y.1=x.1))) true:=by
 have c1:=BU y;have c2:=BU x;unfold Tw.fq at *;refine rcK Tz.func129 ?_;simp only[Tryz.results129,Tryz.ntmps129]
 repeat' first|(with_reducible first|apply bH|apply bT|apply bG|refine df (id:=1) 8 mixed ai ?_|refine And.intro ?_ ?_|intro _)|simp[*]|(refine bN (c1) ?_ ?_;· simp[*];done)|(refine bN (c2) ?_ ?_;· simp[*];done)
theorem Pu(x y:Ord):bX Tz.prog 132 [.agg (Tw.dY y),.ip [.fn 104 []] 0,.ip (Tw.dY x) 0] (.bool (decide (y.1=x.1))) true:=by
 have c1:=BV y;have c2:=BV x;unfold Tw.dY at *;refine rcK Tz.func132 ?_;simp only[Tryz.results132,Tryz.ntmps132]
 repeat' first|(with_reducible first|apply bH|apply bT|apply bG|refine df (id:=1) 8 mixed ai ?_|refine And.intro ?_ ?_|intro _)|simp[*]|(refine bN (c1) ?_ ?_;· simp[*];done)|(refine bN (c2) ?_ ?_;· simp[*];done)
def j1{α:Type}(nm:α->ByteArray)(mr:α->Int)(l:List α)(k:Nat)(x:α):Int:=fD [dw (gD (nm x)) 4,dw (!(l.take k).any (λy=>decide (nm y=nm x))) 5,mr x]
def gL{α:Type}(nm:α->ByteArray)(mr:α->Int)(l:List α):List α->Nat->Int×Int
 |[],_=>(0,0)
 |x::r,k=>if j1 nm mr l k x=0 then gL nm mr l r (k+1) else (k,j1 nm mr l k x)
def jo{α:Type}(nm:α->ByteArray)(mr:α->Int)(l:List α):Int×Int:=gL nm mr l l 0
@[simp]theorem Zz(l:List Car)(k:Nat):(dG l).take (k*3)=dG (l.take k):=by
 induction l generalizing k with
 |nil=>simp[dG]
 |cons x r ih=>
  cases k with
  |zero=>simp[dG]
  |succ k=>
   have e:dG (x::r)=Tw.fq x++dG r:=rfl;rw[e,JY,show dG (x::r.take k)=Tw.fq x++dG (r.take k) from rfl,<-ih,iY,JZ];simp[Tw.fq]
@[simp]theorem ZA(l:List Ord)(k:Nat):(dE l).take (k*4)=dE (l.take k):=by
 induction l generalizing k with
 |nil=>simp[dE]
 |cons x r ih=>
  cases k with
  |zero=>simp[dE]
  |succ k=>
   have e:dE (x::r)=Tw.dY x++dE r:=rfl;rw[e,JY,show dE (x::r.take k)=Tw.dY x++dE (r.take k) from rfl,<-ih,iY,JZ];simp[Tw.dY]
theorem Pv(l:List Car)(hl:l.length<100000)(hs:∀x∈l,x.1.size<1000000):bX Tz.prog 99 [.sl l.length (dG l),.fn 100 [],.fn 101 []] (.tup [.int .i64 (jo Prod.fst gK l).1,.int .i64 (jo Prod.fst gK l).2]) true:=by
 generalize hR:jo Prod.fst gK l=R;obtain⟨R1,R2⟩:=R;have kR:di (gL Prod.fst gK l l 0=(R1,R2)):=keep hR;clear hR;refine rcK Tz.func99 ?_;simp only[Tryz.results99,Tryz.ntmps99]
 repeat' first|(with_reducible first|apply bH|apply bG|intro _)|simp[*]
 refine fp (λ(k:Nat)=>k<=l.length/\gL Prod.fst gK l (l.drop k) k=(R1,R2)) [0,2,4,12,13] (λ(k:Nat)=>[(14,.w false false (.int .i64 k))]) [0] (λ(k:Nat)=>[]) (λ(k:Nat)=>l.length-k) (λ(_u:Unit)=>R1=0/\R2=0) [] (λ(_u:Unit)=>[]) [0] (λ(_u:Unit)=>[]) (0) ⟨cG _,kR⟩ ae ae (λk hk=>?_) (λ_u hf=>?_)
 .obtain⟨hk,hj⟩:=hk;by_cases h5:k<l.length
  .have c1:=Pq (l.take k) (by rw[lq];omega) 129 [.ip [.fn 100 []] 0,.ip (Tw.fq (nth l k)) 0] (λy=>decide (y.1=(nth l k).1)) (λy=>Pt (nth l k) y);rw[yN hk] at c1;have c2:=Hv (nth l k).1 (hs _ (iu h5));have c3:=BU (nth l k);have c4:=Pk k (nth l k);have c5:=Hr (dw (gD (nth l k).1) 4) (dw (!(l.take k).any (λy=>decide (y.1=(nth l k).1))) 5) (gK (nth l k));have h8:=hj;rw[fE l k h5] at h8;unfold gL j1 at h8;generalize fD [dw (gD (nth l k).1) 4,dw (!(l.take k).any (λy=>decide (y.1=(nth l k).1))) 5,gK (nth l k)]=e at h8 c5;have kj:=keep h8;clear hj h8 hs;unfold Tw.fq at c1 c3 c4
   repeat' first|(with_reducible first|apply bH|apply cO|apply b7|apply bT|apply bG|refine df (id:=5) 15 mixed ai ?_|apply bQ|refine And.intro ?_ ?_ |  refine oA ?_ ?_|refine cw (gv _ _) ?_|intro _)|simp[*,h5,Tw.fq]|(refine bN (c1) ?_ ?_;· simp[*];done)|(refine bN (c2) ?_ ?_;· simp[*];done)|(refine bN (c3) ?_ ?_;· simp[*];done)|(refine bN (c4) ?_ ?_;· simp[*];done)|(refine bN (gv _ _) ?_ ?_;· simp[*];done)|(refine bN (c5) ?_ ?_;· simp[*];done)
   all_goals first
    |omega
    |exact dc ab ab
    |(rename_i hp;rw[bP hp] at kj;exact (dq kj).1)
    |(rename_i hp;rw[bP hp] at kj;exact (dq kj).2)
    |(rename_i hp;rw[b8 hp] at kj;(refine nx (k+1) ?_ ?_;(· exact⟨ab,kj⟩);(refine cD ?_ ?_<;>first|trivial|(simp[*];done))))
  .have h9:k=l.length:=ab
   subst h9;rw[jb] at hj;unfold gL at hj
   repeat' first|(with_reducible first|apply bH|apply da|apply bG|apply bQ|intro _)|simp[*]
   all_goals (refine dH () ?_ ?_;(· exact⟨(dq hj).1.symm,(dq hj).2.symm⟩);(refine cD ?_ ?_<;>first|trivial|(simp[*];done)))
 .obtain⟨rfl,rfl⟩:=hf
  repeat' first|(with_reducible first|apply bH|apply bT|apply bG|intro _)|simp[*]
theorem Pw(l:List Ord)(hl:l.length<100000)(hs:∀x∈l,x.1.size<1000000):bX Tz.prog 103 [.sl l.length (dE l),.fn 104 [],.fn 105 []] (.tup [.int .i64 (jo Prod.fst gn l).1,.int .i64 (jo Prod.fst gn l).2]) true:=by
 generalize hR:jo Prod.fst gn l=R;obtain⟨R1,R2⟩:=R;have kR:di (gL Prod.fst gn l l 0=(R1,R2)):=keep hR;clear hR;refine rcK Tz.func103 ?_;simp only[Tryz.results103,Tryz.ntmps103]
 repeat' first|(with_reducible first|apply bH|apply bG|intro _)|simp[*]
 refine fp (λ(k:Nat)=>k<=l.length/\gL Prod.fst gn l (l.drop k) k=(R1,R2)) [0,2,4,12,13] (λ(k:Nat)=>[(14,.w false false (.int .i64 k))]) [0] (λ(k:Nat)=>[]) (λ(k:Nat)=>l.length-k) (λ(_u:Unit)=>R1=0/\R2=0) [] (λ(_u:Unit)=>[]) [0] (λ(_u:Unit)=>[]) (0) ⟨cG _,kR⟩ ae ae (λk hk=>?_) (λ_u hf=>?_)
 .obtain⟨hk,hj⟩:=hk;by_cases h5:k<l.length
  .have c1:=Ps (l.take k) (by rw[lq];omega) 132 [.ip [.fn 104 []] 0,.ip (Tw.dY (nth l k)) 0] (λy=>decide (y.1=(nth l k).1)) (λy=>Pu (nth l k) y);rw[yN hk] at c1;have c2:=Hv (nth l k).1 (hs _ (iu h5));have c3:=BV (nth l k);have c4:=Pl k (nth l k);have c5:=Hr (dw (gD (nth l k).1) 4) (dw (!(l.take k).any (λy=>decide (y.1=(nth l k).1))) 5) (gn (nth l k));have h8:=hj;rw[fE l k h5] at h8;unfold gL j1 at h8;generalize fD [dw (gD (nth l k).1) 4,dw (!(l.take k).any (λy=>decide (y.1=(nth l k).1))) 5,gn (nth l k)]=e at h8 c5;have kj:=keep h8;clear hj h8 hs;unfold Tw.dY at c1 c3 c4
   repeat' first|(with_reducible first|apply bH|apply cO|apply b7|apply bT|apply bG|refine df (id:=5) 15 mixed ai ?_|apply bQ|refine And.intro ?_ ?_ |  refine oA ?_ ?_|refine cw (gv _ _) ?_|intro _)|simp[*,h5,Tw.dY]|(refine bN (c1) ?_ ?_;· simp[*];done)|(refine bN (c2) ?_ ?_;· simp[*];done)|(refine bN (c3) ?_ ?_;· simp[*];done)|(refine bN (c4) ?_ ?_;· simp[*];done)|(refine bN (gv _ _) ?_ ?_;· simp[*];done)|(refine bN (c5) ?_ ?_;· simp[*];done)
   all_goals first
    |omega
    |exact dc ab ab
    |(rename_i hp;rw[bP hp] at kj;exact (dq kj).1)
    |(rename_i hp;rw[bP hp] at kj;exact (dq kj).2)
    |(rename_i hp;rw[b8 hp] at kj;(refine nx (k+1) ?_ ?_;(· exact⟨ab,kj⟩);(refine cD ?_ ?_<;>first|trivial|(simp[*];done))))
  .have h9:k=l.length:=ab
   subst h9;rw[jb] at hj;unfold gL at hj
   repeat' first|(with_reducible first|apply bH|apply da|apply bG|apply bQ|intro _)|simp[*]
   all_goals (refine dH () ?_ ?_;(· exact⟨(dq hj).1.symm,(dq hj).2.symm⟩);(refine cD ?_ ?_<;>first|trivial|(simp[*];done)))
 .obtain⟨rfl,rfl⟩:=hf
  repeat' first|(with_reducible first|apply bH|apply bT|apply bG|intro _)|simp[*]
theorem Px(l:List Par)(hl:l.length<100000)(v:Par):bX Tz.prog 133 [.sl l.length (dI l),.agg (Tw.eD v)] (.int .i64 (idxOf (λy=>decide (v.1=y.1)&&decide (v.2=y.2)) l)) true:=by
 generalize hR:idxOf (λy=>decide (v.1=y.1)&&decide (v.2=y.2)) l=R;have kR:di (ig (λy=>decide (v.1=y.1)&&decide (v.2=y.2)) l 0=R):=keep hR;clear hR;obtain⟨v1,v2⟩:=v;simp only[Tw.eD];refine rcK Tz.func133 ?_;simp only[Tryz.results133,Tryz.ntmps133]
 repeat' first|(with_reducible first|apply bH|apply bG|intro _)|simp[*]
 refine fp (λ(k:Nat)=>k<=l.length/\ig (λy=>decide (v1=y.1)&&decide (v2=y.2)) (l.drop k) k=R) [0,3,7] (λ(k:Nat)=>[(8,.w false false (.int .i64 k))]) [0] (λ(k:Nat)=>[]) (λ(k:Nat)=>l.length-k) (λ(_u:Unit)=>R=-1) [] (λ(_u:Unit)=>[]) [0] (λ(_u:Unit)=>[]) (0) ⟨cG _,kR⟩ ae ae (λk hk=>?_) (λ_u hf=>?_)
 .obtain⟨hk,hj⟩:=hk;by_cases h5:k<l.length
  .have h8:=hj;rw[fE l k h5] at h8;unfold ig at h8;have kj:=keep h8;clear hj h8
   repeat' first|(with_reducible first|apply bH|apply cO|apply b7|apply bT|apply bG|refine df (id:=4) 6 mixed ai ?_|apply bQ|refine And.intro ?_ ?_|refine uu ?_ ?_|intro _)|simp[*,h5,Tw.eD]
   all_goals first
    |omega
    |exact dc ab ab
    |(rename_i hp;rw[b8 aT] at kj;exact kj)
    |(rename_i hp;rw[bP aT] at kj;(refine nx (k+1) ?_ ?_;(· exact⟨ab,kj⟩);(refine cD ?_ ?_<;>first|trivial|(simp[*];done))))
  .have h9:k=l.length:=ab
   subst h9
   repeat' first|(with_reducible first|apply bH|apply da|apply bG|apply bQ|intro _)|simp[*]
   all_goals (refine dH () ?_ ?_;(· rw[<-hj,jb];rfl);(refine cD ?_ ?_<;>first|trivial|(simp[*];done)))
 .subst hf
  repeat' first|(with_reducible first|apply bH|apply bT|apply bG|intro _)|simp[*]
theorem Py(l:List Par)(hl:l.length<100000)(v:Par):bX Tz.prog 107 [.sl l.length (dI l),.agg (Tw.eD v)] (.bool (l.any λy=>decide (v.1=y.1)&&decide (v.2=y.2))) true:=by
 have c1:=Px l hl v;have h:=uG (λy=>decide (v.1=y.1)&&decide (v.2=y.2)) l;generalize idxOf (λy:Par=>decide (v.1=y.1)&&decide (v.2=y.2)) l=i at *;rw[<-h];clear h;obtain⟨v1,v2⟩:=v;simp only[Tw.eD] at *;refine rcK Tz.func107 ?_;simp only[Tryz.results107,Tryz.ntmps107]
 repeat' first|(with_reducible first|apply bH|apply bT|apply bG|refine And.intro ?_ ?_|intro _)|simp[*]|(refine bN (c1) ?_ ?_;· simp[*];done)
def gh{α:Type}(E:Nat->α->Int):List α->Nat->Int×Int
 |[],_=>(0,0)
 |x::r,k=>if E k x=0 then gh E r (k+1) else (k,E k x)
def dU(w:List (List Int)):List PV:=w.map Tw.Df
@[simp]theorem ZB(w:List (List Int)):(dU w).length=w.length:=by simp[dU]
@[simp]theorem ZC(w:List (List Int))(k:Nat)(h:k<w.length):fg (dU w) k=.sl (nth w k).length (ints (nth w k)):=uy Tw.Df w k h
@[simp]theorem ZD(l:List Par)(k:Nat):(dI l).take (k*2)=dI (l.take k):=by
 induction l generalizing k with
 |nil=>simp[dI]
 |cons x r ih=>
  cases k with
  |zero=>simp[dI]
  |succ k=>
   have e:dI (x::r)=Tw.eD x++dI r:=rfl;rw[e,JY,show dI (x::r.take k)=Tw.eD x++dI (r.take k) from rfl,<-ih,iY,JZ];simp[Tw.eD]
def lh(nc:Nat)(row:List Int):Int:=fD [dw (decide ((row.length:Int)=nc)) 10,dw (!(row.any λx=>!dj x 0 100000)) 2]
def oP(no nc:Nat)(zs:List Par)(k:Nat)(p:Par):Int:=fD [dw (dj p.1 0 ((no:Int)-1)&&dj p.2 0 ((nc:Int)-1)) 6,dw (!((zs.take k).any λy=>decide (p.1=y.1)&&decide (p.2=y.2))) 26]
def iH{α:Type}(E:Nat->α->Int)(l:List α)(k:Nat)(T:Int×Int):Int×Int:=if (gh E l k).2≠0 then gh E l k else T
theorem Hx{α:Type}(E:Nat->α->Int)(x:α)(l:List α)(k:Nat)(T:Int×Int):iH E (x::l) k T=if E k x=0 then iH E l (k+1) T else ((k:Int),E k x):=by
 unfold iH;rw[gh];by_cases h:E k x=0
 .simp only[h,cz]
 .simp[h]
theorem Hy{α:Type}(E:Nat->α->Int)(k:Nat)(T:Int×Int):iH E [] k T=T:=by simp[iH,gh]
def jG(no nc:Nat)(zs:List Par):Int×Int:=if (64:Int)<zs.length then (0,8) else gh (oP no nc zs) zs 0
def j3(bD:List Car)(os:List Ord)(wt:List (List Int))(zs:List Par):Int×Int:=
 if (8:Int)<bD.length then (0,8) else if (jo Prod.fst gK bD).2≠0 then jo Prod.fst gK bD else if (8:Int)<os.length then (0,8) else if (jo Prod.fst gn os).2≠0 then jo Prod.fst gn os else
 if (wt.length:Int)≠os.length then (0,10) else iH (λ_=>lh bD.length) wt 0 (jG os.length bD.length zs)
theorem Pz(bD:List Car)(os:List Ord)(wt:List (List Int))(zs:List Par)(h1:bD.length<100000)(h2:os.length<100000)(h3:wt.length<100000)(h4:zs.length<100000)(hc:∀x∈bD,x.1.size<1000000)(ho:∀x∈os,x.1.size<1000000)(hw:∀x∈wt,x.length<100000):bX Tz.prog 55 [.agg [.sl bD.length (dG bD),.sl os.length (dE os),.sl wt.length (dU wt),.sl zs.length (dI zs)]] (.tup [.int .i64 (j3 bD os wt zs).1,.int .i64 (j3 bD os wt zs).2]) true:=by
 have c54:=Pv bD h1 hc;have c58:=Pw os h2 ho;generalize hR:j3 bD os wt zs=R;obtain⟨R1,R2⟩:=R;unfold j3 at hR;generalize jo Prod.fst gK bD=A at *;generalize jo Prod.fst gn os=O at *;obtain⟨A1,A2⟩:=A;obtain⟨O1,O2⟩:=O;have kR:=keep hR;have kw:=keep hw;clear hR hw hc ho;simp only[] at c54 c58;refine rcK Tz.func55 ?_;simp only[Tryz.results55,Tryz.ntmps55]
 repeat' first|(with_reducible first|apply bH|apply b7|apply bT|apply bG|apply bQ|refine And.intro ?_ ?_ |  refine oA ?_ ?_|refine lH ?_ ?_|intro _)|simp[*]|(refine bN (c54) ?_ ?_;· simp[*];done)|(refine bN (c58) ?_ ?_;· simp[*];done)
 rotate_right
 .rename_i b1 b2 b3 b4 b5
  have kT:di (iH (λ_=>lh bD.length) wt 0 (jG os.length bD.length zs)=(R1,R2)):=by
   rw[bP b1,bP aU,bP b3,bP (by simpa using b4),bP (by simpa using b5)] at kR;exact kR
  have kl:=keep b5;clear kR c54 c58 b1 b2 b3 b4 b5;refine fp (λ(k:Nat)=>k<=wt.length/\iH (λ_=>lh bD.length) (wt.drop k) k (jG os.length bD.length zs)=(R1,R2)) [1,50,51] (λ(k:Nat)=>[(52,.w false false (.int .i64 k))]) [0] (λ(k:Nat)=>[]) (λ(k:Nat)=>wt.length-k) (λ(_u:Unit)=>jG os.length bD.length zs=(R1,R2)) [1] (λ(_u:Unit)=>[]) [0] (λ(_u:Unit)=>[]) (0) ⟨cG _,kT⟩ ae ae (λk hk=>?_) (λ_u hf=>?_)
  .obtain⟨hk,hj⟩:=hk
   have hlen:wt.length=os.length:=by have:=kl;unfold di at this;omega
   by_cases h5:k<wt.length
   .have h':k<os.length:=ab
    have c1:=Po (nth wt k) (kw _ (iu h5)) 106 [] _ Pm;have c2:=Hq (dw (decide (((nth wt k).length:Int)=bD.length)) 10) (dw (!((nth wt k).any λx=>!dj x 0 100000)) 2);rw[fE wt k h5,Hx] at hj;unfold lh at hj;generalize fD [dw (decide (((nth wt k).length:Int)=bD.length)) 10,dw (!((nth wt k).any λx=>!dj x 0 100000)) 2]=e at hj c2;have kj:=keep hj;clear hj hlen
    repeat' first|(with_reducible first|apply bH|apply cO|apply b7|apply bT|apply bG|apply bQ|refine And.intro ?_ ?_ |  refine oA ?_ ?_|refine cw (gv _ _) ?_|intro _)|simp[*,h5,h']|(refine bN (c1) ?_ ?_;· simp[*];done)|(refine bN (c2) ?_ ?_;· simp[*];done)|(refine bN (gv _ _) ?_ ?_;· simp[*];done)
    all_goals first
     |omega
     |exact dc ab ab
     |(rename_i hp;rw[bP hp] at kj;exact (dq kj).1)
     |(rename_i hp;rw[bP hp] at kj;exact (dq kj).2)
     |(rename_i hp;rw[b8 hp] at kj;(refine nx (k+1) ?_ ?_;(· exact⟨ab,kj⟩);(refine cD ?_ ?_<;>first|trivial|(simp[*];done))))
   .have h':¬k<os.length:=ab
    have h9:k=wt.length:=ab
    rw[h9,jb,Hy] at hj;have kj:=keep hj;clear hj hlen h9
    repeat' first|(with_reducible first|apply bH|apply da|apply bG|apply bQ|intro _)|simp[*,h5,h']
    all_goals first
     |omega
     |(refine dH () ?_ ?_;(· exact kj);(refine cD ?_ ?_<;>first|trivial|(simp[*];done)))
  .unfold jG at hf;have kf:=keep hf;clear hf kT kw kl
   repeat' first|(with_reducible first|apply bH|apply b7|apply bT|apply bG|apply bQ|refine And.intro ?_ ?_|refine lH ?_ ?_|intro _)|simp[*]
   rotate_right
   .rename_i b6;rw[bP b6] at kf;have k2:=keep b6;clear b6;refine fp (λ(k:Nat)=>k<=zs.length/\gh (oP os.length bD.length zs) (zs.drop k) k=(R1,R2)) [1,81,82] (λ(k:Nat)=>[(83,.w false false (.int .i64 k))]) [0] (λ(k:Nat)=>[]) (λ(k:Nat)=>zs.length-k) (λ(_u:Unit)=>R1=0/\R2=0) [] (λ(_u:Unit)=>[]) [0] (λ(_u:Unit)=>[]) (0) ⟨cG _,kf⟩ ae ae (λk hk=>?_) (λ_u hf=>?_)
    .obtain⟨hk,hj⟩:=hk;by_cases h5:k<zs.length
     .have c1:=Py (zs.take k) (by rw[lq];omega) (nth zs k);rw[yN hk] at c1;have w1:=jw (nth zs k).1 0 ((os.length:Int)-1);have w2:=jw (nth zs k).2 0 ((bD.length:Int)-1);have c2:=Hq (dw (dj (nth zs k).1 0 ((os.length:Int)-1)&&dj (nth zs k).2 0 ((bD.length:Int)-1)) 6) (dw (!((zs.take k).any λy=>decide ((nth zs k).1=y.1)&&decide ((nth zs k).2=y.2))) 26);rw[fE zs k h5,gh] at hj;have hE:oP os.length bD.length zs k (nth zs k)=fD [dw (dj (nth zs k).1 0 ((os.length:Int)-1)&&dj (nth zs k).2 0 ((bD.length:Int)-1)) 6,dw (!((zs.take k).any λy=>decide ((nth zs k).1=y.1)&&decide ((nth zs k).2=y.2))) 26]:=rfl;rw[hE] at hj;clear hE;generalize fD [dw (dj (nth zs k).1 0 ((os.length:Int)-1)&&dj (nth zs k).2 0 ((bD.length:Int)-1)) 6,dw (!((zs.take k).any λy=>decide ((nth zs k).1=y.1)&&decide ((nth zs k).2=y.2))) 26]=e at hj c2;have kj:=keep hj;clear hj;unfold Tw.eD at c1;generalize dj (nth zs k).1 0 ((os.length:Int)-1)=g1 at w1 c2;generalize dj (nth zs k).2 0 ((bD.length:Int)-1)=g2 at w2 c2
      cases g1 with
      |true=>
       simp only[fQ] at c2
       repeat' first|(with_reducible first|apply bH|apply cO|apply b7|apply bT|apply bG|refine df (id:=27) 13 mixed ai ?_|apply bQ|refine And.intro ?_ ?_ |  refine oA ?_ ?_|refine cw (gv _ _) ?_|intro _)|simp[*,h5,Tw.eD]|(refine bN (c1) ?_ ?_;· simp[*];done)|(refine bN (c2) ?_ ?_;· simp[*];done)|(refine bN (w1) ?_ ?_;· simp[*];done)|(refine bN (w2) ?_ ?_;· simp[*];done)|(refine bN (gv _ _) ?_ ?_;· simp[*];done)
       all_goals first
        |omega
        |exact dc ab ab
        |(rename_i hp;rw[bP hp] at kj;exact (dq kj).1)
        |(rename_i hp;rw[bP hp] at kj;exact (dq kj).2)
        |(rename_i hp;rw[b8 hp] at kj;(refine nx (k+1) ?_ ?_;(· exact⟨ab,kj⟩);(refine cD ?_ ?_<;>first|trivial|(simp[*];done))))
      |false=>
       simp only[iJ] at c2
       repeat' first|(with_reducible first|apply bH|apply cO|apply b7|apply bT|apply bG|refine df (id:=27) 13 mixed ai ?_|apply bQ|refine And.intro ?_ ?_ |  refine oA ?_ ?_|refine cw (gv _ _) ?_|intro _)|simp[*,h5,Tw.eD]|(refine bN (c1) ?_ ?_;· simp[*];done)|(refine bN (c2) ?_ ?_;· simp[*];done)|(refine bN (w1) ?_ ?_;· simp[*];done)|(refine bN (w2) ?_ ?_;· simp[*];done)|(refine bN (gv _ _) ?_ ?_;· simp[*];done)
       all_goals first
        |omega
        |exact dc ab ab
        |(rename_i hp;rw[bP hp] at kj;exact (dq kj).1)
        |(rename_i hp;rw[bP hp] at kj;exact (dq kj).2)
        |(rename_i hp;rw[b8 hp] at kj;(refine nx (k+1) ?_ ?_;(· exact⟨ab,kj⟩);(refine cD ?_ ?_<;>first|trivial|(simp[*];done))))
     .have h9:k=zs.length:=ab
      subst h9;rw[jb] at hj;unfold gh at hj
      repeat' first|(with_reducible first|apply bH|apply da|apply bG|apply bQ|intro _)|simp[*]
      all_goals first
       |omega
       |(refine dH () ?_ ?_;(· exact⟨(dq hj).1.symm,(dq hj).2.symm⟩);(refine cD ?_ ?_<;>first|trivial|(simp[*];done)))
    .obtain⟨rfl,rfl⟩:=hf
     repeat' first|(with_reducible first|apply bH|apply bT|apply bG|intro _)|simp[*]
   all_goals first
    |(rename_i b1;rw[b8 b1] at kf;first|exact (dq kf).1|exact (dq kf).2)
 all_goals first
  |(rename_i b1;rw[b8 b1] at kR;first|exact (dq kR).1|exact (dq kR).2)
  |(rename_i b1 b2;rw[bP b1,b8 aU] at kR;first|exact (dq kR).1|exact (dq kR).2)
  |(rename_i b1 b2 b3;rw[bP b1,bP aU,b8 b3] at kR;first|exact (dq kR).1|exact (dq kR).2)
  |(rename_i b1 b2 b3 b4;rw[bP b1,bP aU,bP b3,b8 (by simpa using b4)] at kR;first|exact (dq kR).1|exact (dq kR).2)
  |(rename_i b1 b2 b3 b4 b5;rw[bP b1,bP aU,bP b3,bP (by simpa using b4),b8 (by simpa using b5)] at kR;first|exact (dq kR).1|exact (dq kR).2)
end Go.Proofs.YthpkmilhiganjaaGreat
namespace Go.Proofs.YthpkmilhiganjaaGreat
open Go Go.Fi Go.Fc
noncomputable def ciR(r:Tw.RND):Int:=(j3 r.bD r.os r.wt r.zs).1
noncomputable def ceR(r:Tw.RND):Int:=(j3 r.bD r.os r.wt r.zs).2
theorem chk[bI](r:Tw.RND):bX Tz.prog 55 [Tw.dT r] (.tup [.int .i64 (ciR r),.int .i64 (ceR r)]) true:=
 Pz r.bD r.os r.wt r.zs r.fS.2.2.2.1 r.fS.2.2.2.2.1 r.fS.2.2.2.2.2.1 r.fS.2.2.2.2.2.2 r.fS.1 r.fS.2.1 r.fS.2.2.1
theorem Hz{α:Type}{E:Nat->α->Int}{l:List α}{k:Nat}{T:Int×Int}(h:(iH E l k T).2=0):iH E l k T=T:=by
 unfold iH at h ⊢;split
 .rename_i h1;rw[b8 h1] at h;exact absurd h h1
 .rfl
theorem lim(r:Tw.RND)(h:ceR r=0):r.os.length<=1000/\r.zs.length<=64/\r.bD.length<=1000:=by
 unfold ceR j3 at h;split at h
 .simp at h
 split at h
 .rename_i h2;exact absurd h h2
 split at h
 .simp at h
 split at h
 .rename_i h2;exact absurd h h2
 split at h
 .simp at h
 rename_i h1 _ h3 _ _;rw[Hz h] at h;unfold jG at h;split at h
 .simp at h
 rename_i h6;omega
theorem Dj:@Tw.pQ Tz.prog Tz.xfZ Tz.L0 Tz.oM ciR ceR true:=Tz.Dj (λr=>@chk Tz.L0 r) lim
@[reducible] noncomputable def LD:bI:=Tz.L1 ceR
theorem oD(K:jz):@r8 Tz.xfZ LD.toEnvD Tz.prog Tryz.prog K:=@Tw.Tf Tz.prog Tz.xfZ Tz.L0 Tz.oM ciR ceR true K Dj
theorem sb:@qO Tz.xfZ LD.toEnvD Tz.prog Tryz.prog Tz.oM:=Tz.Ji LD.toEnvD (λ_ _ _ _ h=>h.1) (λw t d=>⟨(t,d),rfl⟩)
theorem pW(r:Tw.RND):@bX LD Tz.prog 69 [Tw.dT r] (Tw.mV ceR r) false:=Tz.pW ceR r
end Go.Proofs.YthpkmilhiganjaaGreat
namespace Go.Proofs.YthpkmilhiganjaaGreat
open Go Go.Fi
variable[bI]
def fV:Nat->Int
 |0=>1000000
 |k+1=>fV k*10
@[simp]theorem ZY:fV 0=1000000:=rfl
theorem BX(k:Nat)(h:k<=6):0<=fV k/\fV k<=1000000000000:=by
 obtain rfl|rfl|rfl|rfl|rfl|rfl|rfl:k=0\/k=1\/k=2\/k=3\/k=4\/k=5\/k=6:=by omega
 all_goals decide
theorem Ju(p:Nat)(hp:p<=6):bX Tz.prog 116 [.int .i64 p] (.int .i64 (fV p)) true:=by
 refine rcK Tz.func116 ?_;simp only[Tryz.results116,Tryz.ntmps116]
 repeat' first|(with_reducible first|apply bH|apply bG|intro _)|simp[*]
 refine fp (λ(k:Nat)=>k<=p) [4] (λ(k:Nat)=>[(5,.w false false (.int .i64 k)),(3,.w false false (.int .i64 (fV k)))]) [] (λ(k:Nat)=>[]) (λ(k:Nat)=>p-k) (λ(_u:Unit)=>True) [] (λ(_u:Unit)=>[(3,.w false false (.int .i64 (fV p)))]) [] (λ(_u:Unit)=>[]) (0) (cG _) ae ae (λk hk=>?_) (λ_u hf=>?_)
 .by_cases h5:k<p
  .have hb:=BX k ab;have e:fV (k+1)=fV k*10:=rfl;generalize fV k=n at hb e
   repeat' first|(with_reducible first|apply bH|apply rZ|apply b7|apply bG|apply bQ|refine And.intro ?_ ?_|intro _)|simp[*,h5]
   all_goals first
    |omega
    |exact dc ab ab
    |(refine nx (k+1) ?_ ?_;(· omega);(refine cD ?_ ?_<;>first|trivial|(simp[*,e];done)))
  .have h9:k=p:=ab
   subst h9
   repeat' first|(with_reducible first|apply bH|apply da|apply bG|apply bQ|intro _)|simp[*]
   all_goals first
    |omega
    |(refine dH () ?_ ?_;(· trivial);(refine cD ?_ ?_<;>first|trivial|(simp[*];done)))
 .repeat' first|(with_reducible first|apply bH|apply bT|apply bG|intro _)|simp[*]
theorem PH(p:Nat)(hp:p<=6):bX Tz.prog 76 [.int .i64 p] (.int .i64 (fV p)) true:=by
 refine rcK Tz.func76 ?_;simp only[Tryz.results76,Tryz.ntmps76]
 repeat' first|(with_reducible first|apply bH|apply bG|intro _)|simp[*]
 refine fp (λ(k:Nat)=>k<=p) [0] (λ(k:Nat)=>[(4,.w false false (.int .i64 k)),(3,.w false false (.int .i64 (fV k)))]) [] (λ(k:Nat)=>[]) (λ(k:Nat)=>p-k) (λ(_u:Unit)=>True) [] (λ(_u:Unit)=>[(3,.w false false (.int .i64 (fV p)))]) [] (λ(_u:Unit)=>[]) (0) (cG _) ae ae (λk hk=>?_) (λ_u hf=>?_)
 .by_cases h5:k<p
  .have hb:=BX k ab;have e:fV (k+1)=10*fV k:=Int.mul_comm _ _;generalize fV k=n at hb e
   repeat' first|(with_reducible first|apply bH|apply rZ|apply b7|apply bG|apply bQ|refine And.intro ?_ ?_|intro _)|simp[*,h5]
   all_goals first
    |omega
    |exact dc ab ab
    |(refine nx (k+1) ?_ ?_;(· omega);(refine cD ?_ ?_<;>first|trivial|(simp[*,e];done)))
  .have h9:k=p:=ab
   subst h9
   repeat' first|(with_reducible first|apply bH|apply da|apply bG|apply bQ|intro _)|simp[*]
   all_goals first
    |omega
    |(refine dH () ?_ ?_;(· trivial);(refine cD ?_ ?_<;>first|trivial|(simp[*];done)))
 .repeat' first|(with_reducible first|apply bH|apply bT|apply bG|intro _)|simp[*]
end Go.Proofs.YthpkmilhiganjaaGreat
