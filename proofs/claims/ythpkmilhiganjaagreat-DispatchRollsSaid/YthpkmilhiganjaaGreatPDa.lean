/- Lemmas. -/
import Derived.Test.YthpkmilhiganjaaGreatPWg
import Derived.Test.YthpkmilhiganjaaGreatPLg
import Derived.Test.YthpkmilhiganjaaGreatPLf
set_option linter.all false
set_option maxHeartbeats 32000000
set_option maxRecDepth 100000
namespace Go.Proofs.YthpkmilhiganjaaGreat
open Go Go.Fi
variable[bJ]
def dt(ok:Bool)(e:Int):Int:=if ok then 0 else e
theorem fP(ok:Bool)(e:Int):bT Tz.prog 71 [.bool ok,.int .i64 e] (.int .i64 (dt ok e)) true:=by
 refine rcK Tz.func71 ?_;simp only[Tryz.results71,Tryz.ntmps71]
 repeat' first|(with_reducible first|apply bG|apply bS|apply bU|apply bE|apply bP|refine tN ?_ ?_|intro _)|simp[*]
 all_goals simp_all[dt]
theorem mixed:Tz.prog.follows .mixedOrders=true:=aj
def da(n lo hi:Int):Bool:=decide (lo<=n)&&decide (n<=hi)
theorem iG(n lo hi:Int):bT Tz.prog 72 [.int .i64 n,.int .i64 lo,.int .i64 hi] (.bool (da n lo hi)) true:=by
 refine rcK Tz.func72 ?_;simp only[Tryz.results72,Tryz.ntmps72]
 repeat' first|(with_reducible first|apply bG|apply bU|apply bE|refine wX ?_ ?_|intro _)|simp[*,da]
theorem oY(n lo hi:Int):bT Tz.prog 75 [.int .i64 n,.int .i64 lo,.int .i64 hi] (.bool (da n lo hi)) true:=by
 refine rcK Tz.func75 ?_;simp only[Tryz.results75,Tryz.ntmps75]
 repeat' first|(with_reducible first|apply bG|apply bU|apply bE|refine wX ?_ ?_|intro _)|simp[*,da]
def ints(l:List Int):List PV:=l.map (.int .i64)
@[simp]theorem Oi(l:List Int):(ints l).length=l.length:=by simp[ints]
@[simp]theorem Oj(l:List Int)(k:Nat)(h:k<l.length):fp (ints l) k=.int .i64 (nth l k):=tQ _ l k h
def fg:List Int->Int
 |[]=>0
 |e::r=>if e=0 then fg r else e
theorem fQ{α:Type}[Inhabited α](l:List α)(k:Nat)(h:k<l.length):l.drop k=nth l k::l.drop (k+1):=by
 rw[SU h];simp[nth,eu,dY h]
theorem Bo(l:List Int)(h:l.length<1000):bT Tz.prog 70 [.sl l.length (ints l)] (.int .i64 (fg l)) true:=by
 refine rcK Tz.func70 ?_;simp only[Tryz.results70,Tryz.ntmps70]
 repeat' first|(with_reducible first|apply bG|apply bE|intro _)|simp[*]
 refine w9 (λk:Nat=>k<=l.length/\fg (l.drop k)=fg l) [5,6] (λk=>[(7,.w false false (.int .i64 k))]) (λ_=>[]) (λk=>l.length-k)
  (λ_:Unit=>fg l=0) [] (λ_=>[]) (λ_=>[]) 0 ⟨cG _,rfl⟩ ae ae (λk hk=>?_) (λ_ hf=>?_)
 .obtain⟨hk,hf⟩:=hk
  repeat' first|(with_reducible first|apply bG|apply cj|apply bS|apply bU|apply cK|apply bE|apply bP|refine And.intro ?_ ?_|refine ma ?_ ?_|refine jJ ?_ ?_|intro _)|simp[*,fg]
  all_goals first
   |exact cu ab ab
   |omega
   |(rw[<-hf,fQ l k ab];simp_all[fg];done)
   |(refine nx (k+1) ?_ ?_;(· refine⟨ab,?_⟩;rw[<-hf,fQ l k ab];simp_all[fg]);(refine cg ?_ ?_<;>first|trivial|(simp[*];done)))
   |(refine dp () ?_ ?_;(· rw[<-hf,Jc ab];rfl);(refine cg ?_ ?_<;>first|trivial|(simp[*];done)))
 .repeat' first|(with_reducible first|apply bG|apply bU|apply bE|intro _)|simp[*]
theorem Bp(a b:Int):bT Tz.prog 70 [.sl 2 [.int .i64 a,.int .i64 b]] (.int .i64 (fg [a,b])) true:=Bo [a,b] (gH rfl)
theorem GH(a b c:Int):bT Tz.prog 70 [.sl 3 [.int .i64 a,.int .i64 b,.int .i64 c]] (.int .i64 (fg [a,b,c])) true:=Bo [a,b,c] (gH rfl)
def uN(c:Nat):Bool:=decide ((97:Int)<=c)&&decide ((c:Int)<=122) || decide ((65:Int)<=c)&&decide ((c:Int)<=90)
def okB(k c:Nat):Bool:=uN c || !(decide (k=0))&&(decide (c=45) || decide ((48:Int)<=c)&&decide ((c:Int)<=57))
def mQ(s:ByteArray):Nat->Bool
 |0=>true
 |k+1=>mQ s k&&okB k (um s k)
theorem Bq(s:ByteArray)(k:Nat)(h:okB k (um s k)=false):∀n,k<n->mQ s n=false
 |0,hn=>by omega
 |n+1,hn=>by
  unfold mQ;by_cases e:k=n
  .subst e;simp[h]
  .rw[Bq s k h n ab];rfl
def gr(s:ByteArray):Bool:=mQ s s.size&&decide (s.size≠0)&&decide (s.size<=12)
theorem GJ{s:ByteArray}(h:s.size=0):gr s=false:=by simp[gr,h]
theorem Ok{s:ByteArray}(h:12<s.size):gr s=false:=by simp[gr];intros;omega
theorem GK{s:ByteArray}(h:mQ s s.size=true)(h0:s.size≠0):gr s=decide (s.size<=12):=by simp[gr,h,h0]
theorem GM(s:ByteArray)(hs:s.size<1000000):bT Tz.prog 130 [.str s] (.bool (gr s)) true:=by
 refine rcK Tz.func130 ?_;simp only[Tryz.results130,Tryz.ntmps130]
 repeat' first|(with_reducible first|apply bG|apply bE|intro _)|simp[*]
 refine w9 (λk:Nat=>k<=s.size/\mQ s k=true) [0,7,8] (λk=>[(9,.w false false (.int .i64 k))]) (λ_=>[]) (λk=>s.size-k)
  (λ_:Unit=>mQ s s.size=true) [0] (λ_=>[]) (λ_=>[]) 0 ⟨cG _,rfl⟩ ae ae (λk hk=>?_) (λ_ hf=>?_)
 .obtain⟨hk,hf⟩:=hk
  repeat' first|(with_reducible first|apply bG|apply cj|apply bS|apply bU|apply cK|apply bE|apply bP|refine And.intro ?_ ?_|refine wY ?_ ?_|refine wX ?_ ?_|refine jJ ?_ ?_|intro _)|simp[*]
  all_goals first
   |exact cu ab ab
   |omega
   |(refine nx (k+1) ?_ ?_;(· refine⟨ab,?_⟩;unfold mQ;rw[hf];clear hf;simp[okB,uN] at *;omega);(refine cg ?_ ?_<;>first|trivial|(simp[*];done)))
   |(refine dp () ?_ ?_;(· rw[show s.size=k by omega];exact hf);(refine cg ?_ ?_<;>first|trivial|(simp[*];done)))
   |(unfold gr;rw[Bq s k (by clear hf;simp[okB,uN] at *;omega) s.size ab];rfl)
 .repeat' first|(with_reducible first|apply bG|apply bU|apply bE|refine wY ?_ ?_|intro _)|simp[*]
  .rename_i h0
   have hh:s≠{ data:=#[] }:=by simpa using h0
   rw[GK hf (λh=>hh ((Gj s).2 h))];simp;omega
  .rename_i h0;rw[GJ ((Gj s).1 (by have h1:s = { data:=#[] }:=by simpa using h0
                                   exact h1))]
abbrev Car:=ByteArray×Int×Bool
abbrev Ord:=ByteArray×Int×Bool×Int
abbrev Par:=Int×Int
def dk(l:List Car):List PV:=l.flatMap Tw.eX
@[simp]theorem Yu(l:List Car):(dk l).length=l.length*3:=tO Tw.eX 3 (λ_=>rfl) l
@[simp]theorem Yv(l:List Car)(k:Nat)(h:k<l.length):((dk l).drop (k*3)).take 3=Tw.eX (nth l k):=wZ Tw.eX 3 (λ_=>rfl) l k h
@[simp]theorem Yw(l:List Car)(k:Nat)(h:k<l.length):fp (dk l) (k*3)=.str (nth l k).1:=qp Tw.eX 3 (λ_=>rfl) l k 0 h ab
@[simp]theorem Yx(l:List Car)(k:Nat)(h:k<l.length):fp (dk l) (k*3+1)=.int .i64 (nth l k).2.1:=qp Tw.eX 3 (λ_=>rfl) l k 1 h ab
def dj(l:List Ord):List PV:=l.flatMap Tw.dW
@[simp]theorem Yy(l:List Ord):(dj l).length=l.length*4:=tO Tw.dW 4 (λ_=>rfl) l
@[simp]theorem Yz(l:List Ord)(k:Nat)(h:k<l.length):((dj l).drop (k*4)).take 4=Tw.dW (nth l k):=wZ Tw.dW 4 (λ_=>rfl) l k h
@[simp]theorem YA(l:List Ord)(k:Nat)(h:k<l.length):fp (dj l) (k*4)=.str (nth l k).1:=qp Tw.dW 4 (λ_=>rfl) l k 0 h ab
@[simp]theorem YB(l:List Ord)(k:Nat)(h:k<l.length):fp (dj l) (k*4+1)=.int .i64 (nth l k).2.1:=qp Tw.dW 4 (λ_=>rfl) l k 1 h ab
@[simp]theorem YC(l:List Ord)(k:Nat)(h:k<l.length):fp (dj l) (k*4+3)=.int .i64 (nth l k).2.2.2:=qp Tw.dW 4 (λ_=>rfl) l k 3 h ab
def dm(l:List Par):List PV:=l.flatMap Tw.dP
@[simp]theorem YD(l:List Par):(dm l).length=l.length*2:=tO Tw.dP 2 (λ_=>rfl) l
@[simp]theorem YE(l:List Par)(k:Nat)(h:k<l.length):((dm l).drop (k*2)).take 2=Tw.dP (nth l k):=wZ Tw.dP 2 (λ_=>rfl) l k h
@[simp]theorem YF(l:List Par)(k:Nat)(h:k<l.length):fp (dm l) (k*2)=.int .i64 (nth l k).1:=qp Tw.dP 2 (λ_=>rfl) l k 0 h ab
theorem Br(n:Int):bT Tz.prog 102 [.int .i64 n] (.bool (da n 1 8)) true:=by
 refine rcK Tz.func102 ?_;simp only[Tryz.results102,Tryz.ntmps102]
 repeat' first|(with_reducible first|apply bG|apply bU|apply bE|refine And.intro ?_ ?_|refine cw (iG _ _ _) ?_|intro _)|simp[*]|(refine bN (iG _ _ _) ?_ ?_;· simp[*];done)
theorem Bs(x:Car):bT Tz.prog 100 [.agg (Tw.eX x)] (.str x.1) true:=by
 unfold Tw.eX;refine rcK Tz.func100 ?_;simp only[Tryz.results100,Tryz.ntmps100]
 repeat' first|(with_reducible first|apply bG|apply bU|apply bE|intro _)|simp[*]
theorem Bt(x:Ord):bT Tz.prog 104 [.agg (Tw.dW x)] (.str x.1) true:=by
 unfold Tw.dW;refine rcK Tz.func104 ?_;simp only[Tryz.results104,Tryz.ntmps104]
 repeat' first|(with_reducible first|apply bG|apply bU|apply bE|intro _)|simp[*]
def gu(x:Car):Int:=dt (da x.2.1 1 8) 2
theorem Ol(i:Int)(x:Car):bT Tz.prog 101 [.int .i64 i,.agg (Tw.eX x)] (.int .i64 (gu x)) true:=by
 unfold Tw.eX gu;refine rcK Tz.func101 ?_;simp only[Tryz.results101,Tryz.ntmps101]
 repeat' first|(with_reducible first|apply bG|apply bU|apply bE|refine And.intro ?_ ?_|refine cw (Br _) ?_|refine cw (fP _ _) ?_|intro _)|simp[*]|(refine bN (Br _) ?_ ?_;· simp[*];done)|(refine bN (fP _ _) ?_ ?_;· simp[*];done)
def fU(x:Ord):Int:=dt (da x.2.1 1 8&&da x.2.2.2 0 6) 2
theorem Om(i:Int)(x:Ord):bT Tz.prog 105 [.int .i64 i,.agg (Tw.dW x)] (.int .i64 (fU x)) true:=by
 unfold Tw.dW fU;have c1:=Br x.2.1;generalize da x.2.1 1 8=b at c1 ⊢
 cases b with
 |true=>
  refine rcK Tz.func105 ?_;simp only[Tryz.results105,Tryz.ntmps105]
  repeat' first|(with_reducible first|apply bG|apply bU|apply bE|refine And.intro ?_ ?_|refine cw (iG _ _ _) ?_|refine cw (fP _ _) ?_|intro _)|simp[*]|(refine bN (c1) ?_ ?_;· simp[*];done)|(refine bN (iG _ _ _) ?_ ?_;· simp[*];done)|(refine bN (fP _ _) ?_ ?_;· simp[*];done)
 |false=>
  refine rcK Tz.func105 ?_;simp only[Tryz.results105,Tryz.ntmps105]
  repeat' first|(with_reducible first|apply bG|apply bU|apply bE|refine And.intro ?_ ?_|refine cw (fP _ _) ?_|intro _)|simp[*]|(refine bN (c1) ?_ ?_;· simp[*];done)|(refine bN (iG _ _ _) ?_ ?_;· simp[*];done)|(refine bN (fP _ _) ?_ ?_;· simp[*];done)
theorem On(x:Int):bT Tz.prog 106 [.int .i64 x] (.bool (!da x 0 100000)) true:=by
 refine rcK Tz.func106 ?_;simp only[Tryz.results106,Tryz.ntmps106]
 repeat' first|(with_reducible first|apply bG|apply bU|apply bE|refine And.intro ?_ ?_|refine cw (iG _ _ _) ?_|intro _)|simp[*]|(refine bN (iG _ _ _) ?_ ?_;· simp[*];done)
def dh(p:Prop):Prop:=p
theorem keep{p:Prop}(h:p):dh p:=h
def g9{α:Type}(p:α->Bool):List α->Nat->Int
 |[],_=>-1
 |x::r,i=>if p x=true then (i:Int) else g9 p r (i+1)
def idxOf{α:Type}(p:α->Bool)(l:List α):Int:=g9 p l 0
theorem GN{α:Type}(p:α->Bool):∀(l:List α)(i:Nat),decide (0<=g9 p l i)=l.any p
 |[],i=>rfl
 |x::r,i=>by
  unfold g9
  cases h:p x with
  |true=>simp[h]
  |false=>simp[h];have:=GN p r (i+1);simpa using this
theorem uh{α:Type}(p:α->Bool)(l:List α):decide (0<=idxOf p l)=l.any p:=GN p l 0
theorem Oo(l:List Int)(hl:l.length<100000)(g:FuncId)(b8:List PV)(p:Int->Bool)(h:∀x,bT Tz.prog g (.int .i64 x::b8) (.bool (p x)) true):bT Tz.prog 124 [.sl l.length (ints l),.fn g b8] (.int .i64 (idxOf p l)) true:=by
 generalize hR:idxOf p l=R;have kR:dh (g9 p l 0=R):=keep hR;clear hR;refine rcK Tz.func124 ?_;simp only[Tryz.results124,Tryz.ntmps124]
 repeat' first|(with_reducible first|apply bG|apply bE|intro _)|simp[*]
 refine fj (λ(k:Nat)=>k<=l.length/\g9 p (l.drop k) k=R) [0,1,7] (λ(k:Nat)=>[(8,.w false false (.int .i64 k))]) [] (λ(k:Nat)=>[]) (λ(k:Nat)=>l.length-k) (λ(_u:Unit)=>R=-1) [] (λ(_u:Unit)=>[]) [] (λ(_u:Unit)=>[]) (0) ⟨cG _,kR⟩ ae ae (λk hk=>?_) (λ_u hf=>?_)
 .obtain⟨hk,hj⟩:=hk;by_cases h8:k<l.length
  .have c1:=h (nth l k);have h5:=hj;rw[fQ l k h8] at h5;unfold g9 at h5;have kj:=keep h5;clear hj h5 h
   repeat' first|(with_reducible first|apply bG|apply cj|apply bS|apply bU|apply bE|apply bP|refine And.intro ?_ ?_|refine tN ?_ ?_|intro _)|simp[*,h8]|(refine bN (c1) ?_ ?_;· simp[*];done)
   all_goals first
    |exact cu ab ab
    |omega
    |(rename_i hp;rw[bX hp] at kj;exact kj)
    |(rename_i hp;rw[bH (by rw[hp];decide)] at kj;(refine nx (k+1) ?_ ?_;(· exact⟨ab,kj⟩);(refine cg ?_ ?_<;>first|trivial|(simp[*];done))))
    |skip
  .have h9:k=l.length:=ab
   subst h9
   repeat' first|(with_reducible first|apply bG|apply cK|apply bE|apply bP|intro _)|simp[*]
   all_goals (refine dp () ?_ ?_;(· rw[<-hj,jG];rfl);(refine cg ?_ ?_<;>first|trivial|(simp[*];done)))
 .subst hf
  repeat' first|(with_reducible first|apply bG|apply bU|apply bE|intro _)|simp[*]
theorem Oq(l:List Int)(hl:l.length<100000)(g:FuncId)(b8:List PV)(p:Int->Bool)(h:∀x,bT Tz.prog g (.int .i64 x::b8) (.bool (p x)) true):bT Tz.prog 93 [.sl l.length (ints l),.fn g b8] (.bool (l.any p)) true:=by
 have c1:=Oo l hl g b8 p h;have h:=uh p l;generalize idxOf p l=i at *;rw[<-h];clear h;refine rcK Tz.func93 ?_;simp only[Tryz.results93,Tryz.ntmps93]
 repeat' first|(with_reducible first|apply bG|apply bU|apply bE|refine And.intro ?_ ?_|intro _)|simp[*]|(refine bN (c1) ?_ ?_;· simp[*];done)
theorem Ot(l:List Car)(hl:l.length<100000)(g:FuncId)(b8:List PV)(p:Car->Bool)(h:∀x,bT Tz.prog g (.agg (Tw.eX x)::b8) (.bool (p x)) true):bT Tz.prog 167 [.sl l.length (dk l),.fn g b8] (.int .i64 (idxOf p l)) true:=by
 generalize hR:idxOf p l=R;have kR:dh (g9 p l 0=R):=keep hR;clear hR;refine rcK Tz.func167 ?_;simp only[Tryz.results167,Tryz.ntmps167]
 repeat' first|(with_reducible first|apply bG|apply bE|intro _)|simp[*]
 refine fj (λ(k:Nat)=>k<=l.length/\g9 p (l.drop k) k=R) [0,1,7] (λ(k:Nat)=>[(8,.w false false (.int .i64 k))]) [] (λ(k:Nat)=>[]) (λ(k:Nat)=>l.length-k) (λ(_u:Unit)=>R=-1) [] (λ(_u:Unit)=>[]) [] (λ(_u:Unit)=>[]) (0) ⟨cG _,kR⟩ ae ae (λk hk=>?_) (λ_u hf=>?_)
 .obtain⟨hk,hj⟩:=hk;by_cases h8:k<l.length
  .have c1:=h (nth l k);have h5:=hj;rw[fQ l k h8] at h5;unfold g9 at h5;have kj:=keep h5;clear hj h5 h
   repeat' first|(with_reducible first|apply bG|apply cj|apply bS|apply bU|apply bE|apply bP|refine And.intro ?_ ?_|refine tN ?_ ?_|intro _)|simp[*,h8]|(refine bN (c1) ?_ ?_;· simp[*];done)
   all_goals first
    |exact cu ab ab
    |omega
    |(rename_i hp;rw[bX hp] at kj;exact kj)
    |(rename_i hp;rw[bH (by rw[hp];decide)] at kj;(refine nx (k+1) ?_ ?_;(· exact⟨ab,kj⟩);(refine cg ?_ ?_<;>first|trivial|(simp[*];done))))
    |skip
  .have h9:k=l.length:=ab
   subst h9
   repeat' first|(with_reducible first|apply bG|apply cK|apply bE|apply bP|intro _)|simp[*]
   all_goals (refine dp () ?_ ?_;(· rw[<-hj,jG];rfl);(refine cg ?_ ?_<;>first|trivial|(simp[*];done)))
 .subst hf
  repeat' first|(with_reducible first|apply bG|apply bU|apply bE|intro _)|simp[*]
theorem Ou(l:List Car)(hl:l.length<100000)(g:FuncId)(b8:List PV)(p:Car->Bool)(h:∀x,bT Tz.prog g (.agg (Tw.eX x)::b8) (.bool (p x)) true):bT Tz.prog 128 [.sl l.length (dk l),.fn g b8] (.bool (l.any p)) true:=by
 have c1:=Ot l hl g b8 p h;have h:=uh p l;generalize idxOf p l=i at *;rw[<-h];clear h;refine rcK Tz.func128 ?_;simp only[Tryz.results128,Tryz.ntmps128]
 repeat' first|(with_reducible first|apply bG|apply bU|apply bE|refine And.intro ?_ ?_|intro _)|simp[*]|(refine bN (c1) ?_ ?_;· simp[*];done)
theorem Ov(l:List Ord)(hl:l.length<100000)(g:FuncId)(b8:List PV)(p:Ord->Bool)(h:∀x,bT Tz.prog g (.agg (Tw.dW x)::b8) (.bool (p x)) true):bT Tz.prog 168 [.sl l.length (dj l),.fn g b8] (.int .i64 (idxOf p l)) true:=by
 generalize hR:idxOf p l=R;have kR:dh (g9 p l 0=R):=keep hR;clear hR;refine rcK Tz.func168 ?_;simp only[Tryz.results168,Tryz.ntmps168]
 repeat' first|(with_reducible first|apply bG|apply bE|intro _)|simp[*]
 refine fj (λ(k:Nat)=>k<=l.length/\g9 p (l.drop k) k=R) [0,1,7] (λ(k:Nat)=>[(8,.w false false (.int .i64 k))]) [] (λ(k:Nat)=>[]) (λ(k:Nat)=>l.length-k) (λ(_u:Unit)=>R=-1) [] (λ(_u:Unit)=>[]) [] (λ(_u:Unit)=>[]) (0) ⟨cG _,kR⟩ ae ae (λk hk=>?_) (λ_u hf=>?_)
 .obtain⟨hk,hj⟩:=hk;by_cases h8:k<l.length
  .have c1:=h (nth l k);have h5:=hj;rw[fQ l k h8] at h5;unfold g9 at h5;have kj:=keep h5;clear hj h5 h
   repeat' first|(with_reducible first|apply bG|apply cj|apply bS|apply bU|apply bE|apply bP|refine And.intro ?_ ?_|refine tN ?_ ?_|intro _)|simp[*,h8]|(refine bN (c1) ?_ ?_;· simp[*];done)
   all_goals first
    |exact cu ab ab
    |omega
    |(rename_i hp;rw[bX hp] at kj;exact kj)
    |(rename_i hp;rw[bH (by rw[hp];decide)] at kj;(refine nx (k+1) ?_ ?_;(· exact⟨ab,kj⟩);(refine cg ?_ ?_<;>first|trivial|(simp[*];done))))
    |skip
  .have h9:k=l.length:=ab
   subst h9
   repeat' first|(with_reducible first|apply bG|apply cK|apply bE|apply bP|intro _)|simp[*]
   all_goals (refine dp () ?_ ?_;(· rw[<-hj,jG];rfl);(refine cg ?_ ?_<;>first|trivial|(simp[*];done)))
 .subst hf
  repeat' first|(with_reducible first|apply bG|apply bU|apply bE|intro _)|simp[*]
theorem Ow(l:List Ord)(hl:l.length<100000)(g:FuncId)(b8:List PV)(p:Ord->Bool)(h:∀x,bT Tz.prog g (.agg (Tw.dW x)::b8) (.bool (p x)) true):bT Tz.prog 131 [.sl l.length (dj l),.fn g b8] (.bool (l.any p)) true:=by
 have c1:=Ov l hl g b8 p h;have h:=uh p l;generalize idxOf p l=i at *;rw[<-h];clear h;refine rcK Tz.func131 ?_;simp only[Tryz.results131,Tryz.ntmps131]
 repeat' first|(with_reducible first|apply bG|apply bU|apply bE|refine And.intro ?_ ?_|intro _)|simp[*]|(refine bN (c1) ?_ ?_;· simp[*];done)
theorem Ox(x y:Car):bT Tz.prog 129 [.agg (Tw.eX y),.ip [.fn 100 []] 0,.ip (Tw.eX x) 0] (.bool (decide (y.1=x.1))) true:=by
 have c1:=Bs y;have c2:=Bs x;unfold Tw.eX at *;refine rcK Tz.func129 ?_;simp only[Tryz.results129,Tryz.ntmps129]
 repeat' first|(with_reducible first|apply bG|apply bU|apply bE|refine cT (id:=1) 8 mixed ai ?_|refine And.intro ?_ ?_|intro _)|simp[*]|(refine bN (c1) ?_ ?_;· simp[*];done)|(refine bN (c2) ?_ ?_;· simp[*];done)
theorem Oy(x y:Ord):bT Tz.prog 132 [.agg (Tw.dW y),.ip [.fn 104 []] 0,.ip (Tw.dW x) 0] (.bool (decide (y.1=x.1))) true:=by
 have c1:=Bt y;have c2:=Bt x;unfold Tw.dW at *;refine rcK Tz.func132 ?_;simp only[Tryz.results132,Tryz.ntmps132]
 repeat' first|(with_reducible first|apply bG|apply bU|apply bE|refine cT (id:=1) 8 mixed ai ?_|refine And.intro ?_ ?_|intro _)|simp[*]|(refine bN (c1) ?_ ?_;· simp[*];done)|(refine bN (c2) ?_ ?_;· simp[*];done)
def iP{α:Type}(nm:α->ByteArray)(mr:α->Int)(l:List α)(k:Nat)(x:α):Int:=fg [dt (gr (nm x)) 4,dt (!(l.take k).any (λy=>decide (nm y=nm x))) 5,mr x]
def gi{α:Type}(nm:α->ByteArray)(mr:α->Int)(l:List α):List α->Nat->Int×Int
 |[],_=>(0,0)
 |x::r,k=>if iP nm mr l k x=0 then gi nm mr l r (k+1) else (k,iP nm mr l k x)
def iu{α:Type}(nm:α->ByteArray)(mr:α->Int)(l:List α):Int×Int:=gi nm mr l l 0
@[simp]theorem YG(l:List Car)(k:Nat):(dk l).take (k*3)=dk (l.take k):=by
 induction l generalizing k with
 |nil=>simp[dk]
 |cons x r ih=>
  cases k with
  |zero=>simp[dk]
  |succ k=>
   have e:dk (x::r)=Tw.eX x++dk r:=rfl;rw[e,Jd,show dk (x::r.take k)=Tw.eX x++dk (r.take k) from rfl,<-ih,ga,Je];simp[Tw.eX]
@[simp]theorem YH(l:List Ord)(k:Nat):(dj l).take (k*4)=dj (l.take k):=by
 induction l generalizing k with
 |nil=>simp[dj]
 |cons x r ih=>
  cases k with
  |zero=>simp[dj]
  |succ k=>
   have e:dj (x::r)=Tw.dW x++dj r:=rfl;rw[e,Jd,show dj (x::r.take k)=Tw.dW x++dj (r.take k) from rfl,<-ih,ga,Je];simp[Tw.dW]
theorem Oz(l:List Car)(hl:l.length<100000)(hs:∀x∈l,x.1.size<1000000):bT Tz.prog 99 [.sl l.length (dk l),.fn 100 [],.fn 101 []] (.tup [.int .i64 (iu Prod.fst gu l).1,.int .i64 (iu Prod.fst gu l).2]) true:=by
 generalize hR:iu Prod.fst gu l=R;obtain⟨R1,R2⟩:=R;have kR:dh (gi Prod.fst gu l l 0=(R1,R2)):=keep hR;clear hR;refine rcK Tz.func99 ?_;simp only[Tryz.results99,Tryz.ntmps99]
 repeat' first|(with_reducible first|apply bG|apply bE|intro _)|simp[*]
 refine fj (λ(k:Nat)=>k<=l.length/\gi Prod.fst gu l (l.drop k) k=(R1,R2)) [0,2,4,12,13] (λ(k:Nat)=>[(14,.w false false (.int .i64 k))]) [0] (λ(k:Nat)=>[]) (λ(k:Nat)=>l.length-k) (λ(_u:Unit)=>R1=0/\R2=0) [] (λ(_u:Unit)=>[]) [0] (λ(_u:Unit)=>[]) (0) ⟨cG _,kR⟩ ae ae (λk hk=>?_) (λ_u hf=>?_)
 .obtain⟨hk,hj⟩:=hk;by_cases h8:k<l.length
  .have c1:=Ou (l.take k) aO 129 [.ip [.fn 100 []] 0,.ip (Tw.eX (nth l k)) 0] (λy=>decide (y.1=(nth l k).1)) (λy=>Ox (nth l k) y);rw[u5 hk] at c1;have c2:=GM (nth l k).1 (hs _ (lB h8));have c3:=Bs (nth l k);have c4:=Ol k (nth l k);have c5:=GH (dt (gr (nth l k).1) 4) (dt (!(l.take k).any (λy=>decide (y.1=(nth l k).1))) 5) (gu (nth l k));have h5:=hj;rw[fQ l k h8] at h5;unfold gi iP at h5;generalize fg [dt (gr (nth l k).1) 4,dt (!(l.take k).any (λy=>decide (y.1=(nth l k).1))) 5,gu (nth l k)]=e at h5 c5;have kj:=keep h5;clear hj h5 hs;unfold Tw.eX at c1 c3 c4
   repeat' first|(with_reducible first|apply bG|apply cj|apply bS|apply bU|apply bE|refine cT (id:=5) 15 mixed ai ?_|apply bP|refine And.intro ?_ ?_ |  refine ma ?_ ?_|refine cw (fP _ _) ?_|intro _)|simp[*,h8,Tw.eX]|(refine bN (c1) ?_ ?_;· simp[*];done)|(refine bN (c2) ?_ ?_;· simp[*];done)|(refine bN (c3) ?_ ?_;· simp[*];done)|(refine bN (c4) ?_ ?_;· simp[*];done)|(refine bN (fP _ _) ?_ ?_;· simp[*];done)|(refine bN (c5) ?_ ?_;· simp[*];done)
   all_goals first
    |omega
    |exact cu ab ab
    |(rename_i hp;rw[bH hp] at kj;exact (dq kj).1)
    |(rename_i hp;rw[bH hp] at kj;exact (dq kj).2)
    |(rename_i hp;rw[bX hp] at kj;(refine nx (k+1) ?_ ?_;(· exact⟨ab,kj⟩);(refine cg ?_ ?_<;>first|trivial|(simp[*];done))))
  .have h9:k=l.length:=ab
   subst h9;rw[jG] at hj;unfold gi at hj
   repeat' first|(with_reducible first|apply bG|apply cK|apply bE|apply bP|intro _)|simp[*]
   all_goals (refine dp () ?_ ?_;(· exact⟨(dq hj).1.symm,(dq hj).2.symm⟩);(refine cg ?_ ?_<;>first|trivial|(simp[*];done)))
 .obtain⟨rfl,rfl⟩:=hf
  repeat' first|(with_reducible first|apply bG|apply bU|apply bE|intro _)|simp[*]
theorem OA(l:List Ord)(hl:l.length<100000)(hs:∀x∈l,x.1.size<1000000):bT Tz.prog 103 [.sl l.length (dj l),.fn 104 [],.fn 105 []] (.tup [.int .i64 (iu Prod.fst fU l).1,.int .i64 (iu Prod.fst fU l).2]) true:=by
 generalize hR:iu Prod.fst fU l=R;obtain⟨R1,R2⟩:=R;have kR:dh (gi Prod.fst fU l l 0=(R1,R2)):=keep hR;clear hR;refine rcK Tz.func103 ?_;simp only[Tryz.results103,Tryz.ntmps103]
 repeat' first|(with_reducible first|apply bG|apply bE|intro _)|simp[*]
 refine fj (λ(k:Nat)=>k<=l.length/\gi Prod.fst fU l (l.drop k) k=(R1,R2)) [0,2,4,12,13] (λ(k:Nat)=>[(14,.w false false (.int .i64 k))]) [0] (λ(k:Nat)=>[]) (λ(k:Nat)=>l.length-k) (λ(_u:Unit)=>R1=0/\R2=0) [] (λ(_u:Unit)=>[]) [0] (λ(_u:Unit)=>[]) (0) ⟨cG _,kR⟩ ae ae (λk hk=>?_) (λ_u hf=>?_)
 .obtain⟨hk,hj⟩:=hk;by_cases h8:k<l.length
  .have c1:=Ow (l.take k) aO 132 [.ip [.fn 104 []] 0,.ip (Tw.dW (nth l k)) 0] (λy=>decide (y.1=(nth l k).1)) (λy=>Oy (nth l k) y);rw[u5 hk] at c1;have c2:=GM (nth l k).1 (hs _ (lB h8));have c3:=Bt (nth l k);have c4:=Om k (nth l k);have c5:=GH (dt (gr (nth l k).1) 4) (dt (!(l.take k).any (λy=>decide (y.1=(nth l k).1))) 5) (fU (nth l k));have h5:=hj;rw[fQ l k h8] at h5;unfold gi iP at h5;generalize fg [dt (gr (nth l k).1) 4,dt (!(l.take k).any (λy=>decide (y.1=(nth l k).1))) 5,fU (nth l k)]=e at h5 c5;have kj:=keep h5;clear hj h5 hs;unfold Tw.dW at c1 c3 c4
   repeat' first|(with_reducible first|apply bG|apply cj|apply bS|apply bU|apply bE|refine cT (id:=5) 15 mixed ai ?_|apply bP|refine And.intro ?_ ?_ |  refine ma ?_ ?_|refine cw (fP _ _) ?_|intro _)|simp[*,h8,Tw.dW]|(refine bN (c1) ?_ ?_;· simp[*];done)|(refine bN (c2) ?_ ?_;· simp[*];done)|(refine bN (c3) ?_ ?_;· simp[*];done)|(refine bN (c4) ?_ ?_;· simp[*];done)|(refine bN (fP _ _) ?_ ?_;· simp[*];done)|(refine bN (c5) ?_ ?_;· simp[*];done)
   all_goals first
    |omega
    |exact cu ab ab
    |(rename_i hp;rw[bH hp] at kj;exact (dq kj).1)
    |(rename_i hp;rw[bH hp] at kj;exact (dq kj).2)
    |(rename_i hp;rw[bX hp] at kj;(refine nx (k+1) ?_ ?_;(· exact⟨ab,kj⟩);(refine cg ?_ ?_<;>first|trivial|(simp[*];done))))
  .have h9:k=l.length:=ab
   subst h9;rw[jG] at hj;unfold gi at hj
   repeat' first|(with_reducible first|apply bG|apply cK|apply bE|apply bP|intro _)|simp[*]
   all_goals (refine dp () ?_ ?_;(· exact⟨(dq hj).1.symm,(dq hj).2.symm⟩);(refine cg ?_ ?_<;>first|trivial|(simp[*];done)))
 .obtain⟨rfl,rfl⟩:=hf
  repeat' first|(with_reducible first|apply bG|apply bU|apply bE|intro _)|simp[*]
theorem OB(l:List Par)(hl:l.length<100000)(v:Par):bT Tz.prog 133 [.sl l.length (dm l),.agg (Tw.dP v)] (.int .i64 (idxOf (λy=>decide (v.1=y.1)&&decide (v.2=y.2)) l)) true:=by
 generalize hR:idxOf (λy=>decide (v.1=y.1)&&decide (v.2=y.2)) l=R;have kR:dh (g9 (λy=>decide (v.1=y.1)&&decide (v.2=y.2)) l 0=R):=keep hR;clear hR;obtain⟨v1,v2⟩:=v;simp only[Tw.dP];refine rcK Tz.func133 ?_;simp only[Tryz.results133,Tryz.ntmps133]
 repeat' first|(with_reducible first|apply bG|apply bE|intro _)|simp[*]
 refine fj (λ(k:Nat)=>k<=l.length/\g9 (λy=>decide (v1=y.1)&&decide (v2=y.2)) (l.drop k) k=R) [0,3,7] (λ(k:Nat)=>[(8,.w false false (.int .i64 k))]) [0] (λ(k:Nat)=>[]) (λ(k:Nat)=>l.length-k) (λ(_u:Unit)=>R=-1) [] (λ(_u:Unit)=>[]) [0] (λ(_u:Unit)=>[]) (0) ⟨cG _,kR⟩ ae ae (λk hk=>?_) (λ_u hf=>?_)
 .obtain⟨hk,hj⟩:=hk;by_cases h8:k<l.length
  .have h5:=hj;rw[fQ l k h8] at h5;unfold g9 at h5;have kj:=keep h5;clear hj h5
   repeat' first|(with_reducible first|apply bG|apply cj|apply bS|apply bU|apply bE|refine cT (id:=4) 6 mixed ai ?_|apply bP|refine And.intro ?_ ?_|refine tN ?_ ?_|intro _)|simp[*,h8,Tw.dP]
   all_goals first
    |omega
    |exact cu ab ab
    |(rename_i hp;rw[bX aT] at kj;exact kj)
    |(rename_i hp;rw[bH aT] at kj;(refine nx (k+1) ?_ ?_;(· exact⟨ab,kj⟩);(refine cg ?_ ?_<;>first|trivial|(simp[*];done))))
  .have h9:k=l.length:=ab
   subst h9
   repeat' first|(with_reducible first|apply bG|apply cK|apply bE|apply bP|intro _)|simp[*]
   all_goals (refine dp () ?_ ?_;(· rw[<-hj,jG];rfl);(refine cg ?_ ?_<;>first|trivial|(simp[*];done)))
 .subst hf
  repeat' first|(with_reducible first|apply bG|apply bU|apply bE|intro _)|simp[*]
theorem OC(l:List Par)(hl:l.length<100000)(v:Par):bT Tz.prog 107 [.sl l.length (dm l),.agg (Tw.dP v)] (.bool (l.any λy=>decide (v.1=y.1)&&decide (v.2=y.2))) true:=by
 have c1:=OB l hl v;have h:=uh (λy=>decide (v.1=y.1)&&decide (v.2=y.2)) l;generalize idxOf (λy:Par=>decide (v.1=y.1)&&decide (v.2=y.2)) l=i at *;rw[<-h];clear h;obtain⟨v1,v2⟩:=v;simp only[Tw.dP] at *;refine rcK Tz.func107 ?_;simp only[Tryz.results107,Tryz.ntmps107]
 repeat' first|(with_reducible first|apply bG|apply bU|apply bE|refine And.intro ?_ ?_|intro _)|simp[*]|(refine bN (c1) ?_ ?_;· simp[*];done)
def fB{α:Type}(E:Nat->α->Int):List α->Nat->Int×Int
 |[],_=>(0,0)
 |x::r,k=>if E k x=0 then fB E r (k+1) else (k,E k x)
def dQ(w:List (List Int)):List PV:=w.map Tw.CG
@[simp]theorem YI(w:List (List Int)):(dQ w).length=w.length:=by simp[dQ]
@[simp]theorem YJ(w:List (List Int))(k:Nat)(h:k<w.length):fp (dQ w) k=.sl (nth w k).length (ints (nth w k)):=tQ Tw.CG w k h
@[simp]theorem YK(l:List Par)(k:Nat):(dm l).take (k*2)=dm (l.take k):=by
 induction l generalizing k with
 |nil=>simp[dm]
 |cons x r ih=>
  cases k with
  |zero=>simp[dm]
  |succ k=>
   have e:dm (x::r)=Tw.dP x++dm r:=rfl;rw[e,Jd,show dm (x::r.take k)=Tw.dP x++dm (r.take k) from rfl,<-ih,ga,Je];simp[Tw.dP]
def hY(nc:Nat)(row:List Int):Int:=fg [dt (decide ((row.length:Int)=nc)) 10,dt (!(row.any λx=>!da x 0 100000)) 2]
def kY(no nc:Nat)(zs:List Par)(k:Nat)(p:Par):Int:=fg [dt (da p.1 0 ((no:Int)-1)&&da p.2 0 ((nc:Int)-1)) 6,dt (!((zs.take k).any λy=>decide (p.1=y.1)&&decide (p.2=y.2))) 26]
def gO{α:Type}(E:Nat->α->Int)(l:List α)(k:Nat)(T:Int×Int):Int×Int:=if (fB E l k).2≠0 then fB E l k else T
theorem GO{α:Type}(E:Nat->α->Int)(x:α)(l:List α)(k:Nat)(T:Int×Int):gO E (x::l) k T=if E k x=0 then gO E l (k+1) T else ((k:Int),E k x):=by
 unfold gO;rw[fB];by_cases h:E k x=0
 .simp only[h,cD]
 .simp[h]
theorem GP{α:Type}(E:Nat->α->Int)(k:Nat)(T:Int×Int):gO E [] k T=T:=by simp[gO,fB]
def iQ(no nc:Nat)(zs:List Par):Int×Int:=if (64:Int)<zs.length then (0,8) else fB (kY no nc zs) zs 0
def iR(bz:List Car)(os:List Ord)(wt:List (List Int))(zs:List Par):Int×Int:=
 if (8:Int)<bz.length then (0,8) else if (iu Prod.fst gu bz).2≠0 then iu Prod.fst gu bz else if (8:Int)<os.length then (0,8) else if (iu Prod.fst fU os).2≠0 then iu Prod.fst fU os else
 if (wt.length:Int)≠os.length then (0,10) else gO (λ_=>hY bz.length) wt 0 (iQ os.length bz.length zs)
theorem OE(bz:List Car)(os:List Ord)(wt:List (List Int))(zs:List Par)(h1:bz.length<100000)(h2:os.length<100000)(h3:wt.length<100000)(h4:zs.length<100000)(hc:∀x∈bz,x.1.size<1000000)(ho:∀x∈os,x.1.size<1000000)(hw:∀x∈wt,x.length<100000):bT Tz.prog 55 [.agg [.sl bz.length (dk bz),.sl os.length (dj os),.sl wt.length (dQ wt),.sl zs.length (dm zs)]] (.tup [.int .i64 (iR bz os wt zs).1,.int .i64 (iR bz os wt zs).2]) true:=by
 have c54:=Oz bz h1 hc;have c58:=OA os h2 ho;generalize hR:iR bz os wt zs=R;obtain⟨R1,R2⟩:=R;unfold iR at hR;generalize iu Prod.fst gu bz=A at *;generalize iu Prod.fst fU os=O at *;obtain⟨A1,A2⟩:=A;obtain⟨O1,O2⟩:=O;have kR:=keep hR;have kw:=keep hw;clear hR hw hc ho;simp only[] at c54 c58;refine rcK Tz.func55 ?_;simp only[Tryz.results55,Tryz.ntmps55]
 repeat' first|(with_reducible first|apply bG|apply bS|apply bU|apply bE|apply bP|refine And.intro ?_ ?_ |  refine ma ?_ ?_|refine jJ ?_ ?_|intro _)|simp[*]|(refine bN (c54) ?_ ?_;· simp[*];done)|(refine bN (c58) ?_ ?_;· simp[*];done)
 rotate_right
 .rename_i b1 b2 b3 b4 b5
  have kT:dh (gO (λ_=>hY bz.length) wt 0 (iQ os.length bz.length zs)=(R1,R2)):=by
   rw[bH b1,bH aU,bH b3,bH (by simpa using b4),bH (by simpa using b5)] at kR;exact kR
  have kl:=keep b5;clear kR c54 c58 b1 b2 b3 b4 b5;refine fj (λ(k:Nat)=>k<=wt.length/\gO (λ_=>hY bz.length) (wt.drop k) k (iQ os.length bz.length zs)=(R1,R2)) [1,50,51] (λ(k:Nat)=>[(52,.w false false (.int .i64 k))]) [0] (λ(k:Nat)=>[]) (λ(k:Nat)=>wt.length-k) (λ(_u:Unit)=>iQ os.length bz.length zs=(R1,R2)) [1] (λ(_u:Unit)=>[]) [0] (λ(_u:Unit)=>[]) (0) ⟨cG _,kT⟩ ae ae (λk hk=>?_) (λ_u hf=>?_)
  .obtain⟨hk,hj⟩:=hk
   have hlen:wt.length=os.length:=by have:=kl;unfold dh at this;omega
   by_cases h8:k<wt.length
   .have h':k<os.length:=ab
    have c1:=Oq (nth wt k) (kw _ (lB h8)) 106 [] _ On;have c2:=Bp (dt (decide (((nth wt k).length:Int)=bz.length)) 10) (dt (!((nth wt k).any λx=>!da x 0 100000)) 2);rw[fQ wt k h8,GO] at hj;unfold hY at hj;generalize fg [dt (decide (((nth wt k).length:Int)=bz.length)) 10,dt (!((nth wt k).any λx=>!da x 0 100000)) 2]=e at hj c2;have kj:=keep hj;clear hj hlen
    repeat' first|(with_reducible first|apply bG|apply cj|apply bS|apply bU|apply bE|apply bP|refine And.intro ?_ ?_ |  refine ma ?_ ?_|refine cw (fP _ _) ?_|intro _)|simp[*,h8,h']|(refine bN (c1) ?_ ?_;· simp[*];done)|(refine bN (c2) ?_ ?_;· simp[*];done)|(refine bN (fP _ _) ?_ ?_;· simp[*];done)
    all_goals first
     |omega
     |exact cu ab ab
     |(rename_i hp;rw[bH hp] at kj;exact (dq kj).1)
     |(rename_i hp;rw[bH hp] at kj;exact (dq kj).2)
     |(rename_i hp;rw[bX hp] at kj;(refine nx (k+1) ?_ ?_;(· exact⟨ab,kj⟩);(refine cg ?_ ?_<;>first|trivial|(simp[*];done))))
   .have h':¬k<os.length:=ab
    have h9:k=wt.length:=ab
    rw[h9,jG,GP] at hj;have kj:=keep hj;clear hj hlen h9
    repeat' first|(with_reducible first|apply bG|apply cK|apply bE|apply bP|intro _)|simp[*,h8,h']
    all_goals first
     |omega
     |(refine dp () ?_ ?_;(· exact kj);(refine cg ?_ ?_<;>first|trivial|(simp[*];done)))
  .unfold iQ at hf;have kf:=keep hf;clear hf kT kw kl
   repeat' first|(with_reducible first|apply bG|apply bS|apply bU|apply bE|apply bP|refine And.intro ?_ ?_|refine jJ ?_ ?_|intro _)|simp[*]
   rotate_right
   .rename_i b6;rw[bH b6] at kf;have k2:=keep b6;clear b6;refine fj (λ(k:Nat)=>k<=zs.length/\fB (kY os.length bz.length zs) (zs.drop k) k=(R1,R2)) [1,81,82] (λ(k:Nat)=>[(83,.w false false (.int .i64 k))]) [0] (λ(k:Nat)=>[]) (λ(k:Nat)=>zs.length-k) (λ(_u:Unit)=>R1=0/\R2=0) [] (λ(_u:Unit)=>[]) [0] (λ(_u:Unit)=>[]) (0) ⟨cG _,kf⟩ ae ae (λk hk=>?_) (λ_u hf=>?_)
    .obtain⟨hk,hj⟩:=hk;by_cases h8:k<zs.length
     .have c1:=OC (zs.take k) aO (nth zs k);rw[u5 hk] at c1;have w1:=iG (nth zs k).1 0 ((os.length:Int)-1);have w2:=iG (nth zs k).2 0 ((bz.length:Int)-1);have c2:=Bp (dt (da (nth zs k).1 0 ((os.length:Int)-1)&&da (nth zs k).2 0 ((bz.length:Int)-1)) 6) (dt (!((zs.take k).any λy=>decide ((nth zs k).1=y.1)&&decide ((nth zs k).2=y.2))) 26);rw[fQ zs k h8,fB] at hj;have hE:kY os.length bz.length zs k (nth zs k)=fg [dt (da (nth zs k).1 0 ((os.length:Int)-1)&&da (nth zs k).2 0 ((bz.length:Int)-1)) 6,dt (!((zs.take k).any λy=>decide ((nth zs k).1=y.1)&&decide ((nth zs k).2=y.2))) 26]:=rfl;rw[hE] at hj;clear hE;generalize fg [dt (da (nth zs k).1 0 ((os.length:Int)-1)&&da (nth zs k).2 0 ((bz.length:Int)-1)) 6,dt (!((zs.take k).any λy=>decide ((nth zs k).1=y.1)&&decide ((nth zs k).2=y.2))) 26]=e at hj c2;have kj:=keep hj;clear hj;unfold Tw.dP at c1;generalize da (nth zs k).1 0 ((os.length:Int)-1)=g1 at w1 c2;generalize da (nth zs k).2 0 ((bz.length:Int)-1)=g2 at w2 c2
      cases g1 with
      |true=>
       simp only[fV] at c2
       repeat' first|(with_reducible first|apply bG|apply cj|apply bS|apply bU|apply bE|refine cT (id:=27) 13 mixed ai ?_|apply bP|refine And.intro ?_ ?_ |  refine ma ?_ ?_|refine cw (fP _ _) ?_|intro _)|simp[*,h8,Tw.dP]|(refine bN (c1) ?_ ?_;· simp[*];done)|(refine bN (c2) ?_ ?_;· simp[*];done)|(refine bN (w1) ?_ ?_;· simp[*];done)|(refine bN (w2) ?_ ?_;· simp[*];done)|(refine bN (fP _ _) ?_ ?_;· simp[*];done)
       all_goals first
        |omega
        |exact cu ab ab
        |(rename_i hp;rw[bH hp] at kj;exact (dq kj).1)
        |(rename_i hp;rw[bH hp] at kj;exact (dq kj).2)
        |(rename_i hp;rw[bX hp] at kj;(refine nx (k+1) ?_ ?_;(· exact⟨ab,kj⟩);(refine cg ?_ ?_<;>first|trivial|(simp[*];done))))
      |false=>
       simp only[iv] at c2
       repeat' first|(with_reducible first|apply bG|apply cj|apply bS|apply bU|apply bE|refine cT (id:=27) 13 mixed ai ?_|apply bP|refine And.intro ?_ ?_ |  refine ma ?_ ?_|refine cw (fP _ _) ?_|intro _)|simp[*,h8,Tw.dP]|(refine bN (c1) ?_ ?_;· simp[*];done)|(refine bN (c2) ?_ ?_;· simp[*];done)|(refine bN (w1) ?_ ?_;· simp[*];done)|(refine bN (w2) ?_ ?_;· simp[*];done)|(refine bN (fP _ _) ?_ ?_;· simp[*];done)
       all_goals first
        |omega
        |exact cu ab ab
        |(rename_i hp;rw[bH hp] at kj;exact (dq kj).1)
        |(rename_i hp;rw[bH hp] at kj;exact (dq kj).2)
        |(rename_i hp;rw[bX hp] at kj;(refine nx (k+1) ?_ ?_;(· exact⟨ab,kj⟩);(refine cg ?_ ?_<;>first|trivial|(simp[*];done))))
     .have h9:k=zs.length:=ab
      subst h9;rw[jG] at hj;unfold fB at hj
      repeat' first|(with_reducible first|apply bG|apply cK|apply bE|apply bP|intro _)|simp[*]
      all_goals first
       |omega
       |(refine dp () ?_ ?_;(· exact⟨(dq hj).1.symm,(dq hj).2.symm⟩);(refine cg ?_ ?_<;>first|trivial|(simp[*];done)))
    .obtain⟨rfl,rfl⟩:=hf
     repeat' first|(with_reducible first|apply bG|apply bU|apply bE|intro _)|simp[*]
   all_goals first
    |(rename_i b1;rw[bX b1] at kf;first|exact (dq kf).1|exact (dq kf).2)
 all_goals first
  |(rename_i b1;rw[bX b1] at kR;first|exact (dq kR).1|exact (dq kR).2)
  |(rename_i b1 b2;rw[bH b1,bX aU] at kR;first|exact (dq kR).1|exact (dq kR).2)
  |(rename_i b1 b2 b3;rw[bH b1,bH aU,bX b3] at kR;first|exact (dq kR).1|exact (dq kR).2)
  |(rename_i b1 b2 b3 b4;rw[bH b1,bH aU,bH b3,bX (by simpa using b4)] at kR;first|exact (dq kR).1|exact (dq kR).2)
  |(rename_i b1 b2 b3 b4 b5;rw[bH b1,bH aU,bH b3,bH (by simpa using b4),bX (by simpa using b5)] at kR;first|exact (dq kR).1|exact (dq kR).2)
end Go.Proofs.YthpkmilhiganjaaGreat
namespace Go.Proofs.YthpkmilhiganjaaGreat
open Go Go.Fi Go.Fc
noncomputable def ciR(r:Tw.RND):Int:=(iR r.bz r.os r.wt r.zs).1
noncomputable def ceR(r:Tw.RND):Int:=(iR r.bz r.os r.wt r.zs).2
theorem chk[bJ](r:Tw.RND):bT Tz.prog 55 [Tw.dB r] (.tup [.int .i64 (ciR r),.int .i64 (ceR r)]) true:=
 OE r.bz r.os r.wt r.zs r.eU.2.2.2.1 r.eU.2.2.2.2.1 r.eU.2.2.2.2.2.1 r.eU.2.2.2.2.2.2 r.eU.1 r.eU.2.1 r.eU.2.2.1
theorem Bu{α:Type}{E:Nat->α->Int}{l:List α}{k:Nat}{T:Int×Int}(h:(gO E l k T).2=0):gO E l k T=T:=by
 unfold gO at h ⊢;split
 .rename_i h1;rw[bX h1] at h;exact absurd h h1
 .rfl
theorem lim(r:Tw.RND)(h:ceR r=0):r.os.length<=1000/\r.zs.length<=64/\r.bz.length<=1000:=by
 unfold ceR iR at h;split at h
 .simp at h
 split at h
 .rename_i h2;exact absurd h h2
 split at h
 .simp at h
 split at h
 .rename_i h2;exact absurd h h2
 split at h
 .simp at h
 rename_i h1 _ h3 _ _;rw[Bu h] at h;unfold iQ at h;split at h
 .simp at h
 rename_i h6;omega
theorem CJ:@Tw.pF Tz.prog Tz.xfZ Tz.L0 Tz.oC ciR ceR true:=Tz.CJ (λr=>@chk Tz.L0 r) lim
@[reducible] noncomputable def LD:bJ:=Tz.L1 ceR
theorem oz(K:ju):@r5 Tz.xfZ LD.toEnvD Tz.prog Tryz.prog K:=@Tw.R7 Tz.prog Tz.xfZ Tz.L0 Tz.oC ciR ceR true K CJ
theorem rJ:@qF Tz.xfZ LD.toEnvD Tz.prog Tryz.prog Tz.oC:=Tz.Iu LD.toEnvD (λ_ _ _ _ h=>h.1) (λw t d=>⟨rfl,rfl,bV _,λ_ _=>rfl⟩)
theorem qI(r:Tw.RND):@bT LD Tz.prog 69 [Tw.dB r] (Tw.mN ceR r) false:=Tz.qI ceR r
end Go.Proofs.YthpkmilhiganjaaGreat
namespace Go.Proofs.YthpkmilhiganjaaGreat
open Go Go.Fi
variable[bJ]
def dR:Nat->Int
 |0=>1000000
 |k+1=>dR k*10
@[simp]theorem YL:dR 0=1000000:=rfl
theorem rC(k:Nat)(h:k<=6):0<=dR k/\dR k<=1000000000000:=by
 obtain rfl|rfl|rfl|rfl|rfl|rfl|rfl:k=0\/k=1\/k=2\/k=3\/k=4\/k=5\/k=6:=by omega
 all_goals decide
theorem sD(p:Nat)(hp:p<=6):bT Tz.prog 116 [.int .i64 p] (.int .i64 (dR p)) true:=by
 refine rcK Tz.func116 ?_;simp only[Tryz.results116,Tryz.ntmps116]
 repeat' first|(with_reducible first|apply bG|apply bE|intro _)|simp[*]
 refine fj (λ(k:Nat)=>k<=p) [4] (λ(k:Nat)=>[(5,.w false false (.int .i64 k)),(3,.w false false (.int .i64 (dR k)))]) [] (λ(k:Nat)=>[]) (λ(k:Nat)=>p-k) (λ(_u:Unit)=>True) [] (λ(_u:Unit)=>[(3,.w false false (.int .i64 (dR p)))]) [] (λ(_u:Unit)=>[]) (0) (cG _) ae ae (λk hk=>?_) (λ_u hf=>?_)
 .by_cases h8:k<p
  .have hb:=rC k ab;have e:dR (k+1)=dR k*10:=rfl;generalize dR k=n at hb e
   repeat' first|(with_reducible first|apply bG|apply ry|apply bS|apply bE|apply bP|refine And.intro ?_ ?_|intro _)|simp[*,h8]
   all_goals first
    |omega
    |exact cu ab ab
    |(refine nx (k+1) ?_ ?_;(· omega);(refine cg ?_ ?_<;>first|trivial|(simp[*,e];done)))
  .have h9:k=p:=ab
   subst h9
   repeat' first|(with_reducible first|apply bG|apply cK|apply bE|apply bP|intro _)|simp[*]
   all_goals first
    |omega
    |(refine dp () ?_ ?_;(· trivial);(refine cg ?_ ?_<;>first|trivial|(simp[*];done)))
 .repeat' first|(with_reducible first|apply bG|apply bU|apply bE|intro _)|simp[*]
end Go.Proofs.YthpkmilhiganjaaGreat
namespace Go.Proofs.YthpkmilhiganjaaGreat
open Go Go.Fi
structure Rd where
 bz:List Car
 os:List Ord
 wt:List (List Int)
 zs:List Par
 fit:List (List Bool)
def oG(l:List Bool):List PV:=l.map PV.bool
@[simp]theorem YM(l:List Bool):(oG l).length=l.length:=by simp[oG]
@[simp]theorem OF(l:List Bool)(k:Nat)(h:k<l.length):fp (oG l) k=.bool (nth l k):=tQ _ l k h
def IA(l:List Bool):PV:=.sl l.length (oG l)
def oH(f:List (List Bool)):List PV:=f.map IA
@[simp]theorem YN(f:List (List Bool)):(oH f).length=f.length:=by simp[oH]
@[simp]theorem YO(f:List (List Bool))(k:Nat)(h:k<f.length):fp (oH f) k=.sl (nth f k).length (oG (nth f k)):=tQ IA f k h
def Rd.pv(x:Rd):PV:=.ip [.sl x.bz.length (dk x.bz),.sl x.os.length (dj x.os),.sl x.wt.length (dQ x.wt),.sl x.zs.length (dm x.zs),.sl x.fit.length (oH x.fit)] 0
noncomputable def bQ(r:Tw.RND):Rd:=⟨r.bz,r.os,r.wt,r.zs,(List.range r.os.length).map (Tw.mM r)⟩
theorem OG(r:Tw.RND):Tw.si r=.sl (bQ r).fit.length (oH (bQ r).fit):=by
 unfold Tw.si bQ oH;simp only[iV,qT,sX];rfl
theorem xi(r:Tw.RND)(h:ceR r=0):Tw.mN ceR r=.tup [(bQ r).pv,.int .i64 0]:=by
 unfold Tw.mN;rw[bX h,OG];rfl
theorem OH(r:Tw.RND)(h:ceR r≠0):Tw.mN ceR r=.tup [.gJ,.int .i64 (ceR r)]:=by
 unfold Tw.mN;rw[bH h]
variable[bJ]
theorem OI(x:Rd)(h:x.bz.length<100000)(n:Int):bT Tz.prog 91 [x.pv,.int .i64 n] (.int .i64 (dt (da n 0 ((x.bz.length:Int)-1)) 6)) true:=by
 obtain⟨bz,os,wt,zs,fit⟩:=x;unfold Rd.pv;simp only[] at h ⊢;refine rcK Tz.func91 ?_;simp only[Tryz.results91,Tryz.ntmps91]
 repeat' first|(with_reducible first|apply bG|apply bU|apply bE|refine And.intro ?_ ?_|refine cw (iG _ _ _) ?_|refine cw (fP _ _) ?_|intro _)|simp[*]|(refine bN (iG _ _ _) ?_ ?_;· simp[*];done)|(refine bN (fP _ _) ?_ ?_;· simp[*];done)
 all_goals first
  |exact cu ab ab
  |omega
theorem OJ(l:List Int)(hl:l.length<100000)(v:Int):bT Tz.prog 166 [.sl l.length (ints l),.int .i64 v] (.int .i64 (idxOf (λy=>decide (v=y)) l)) true:=by
 generalize hR:idxOf (λy=>decide (v=y)) l=R;have kR:dh (g9 (λy=>decide (v=y)) l 0=R):=keep hR;clear hR;refine rcK Tz.func166 ?_;simp only[Tryz.results166,Tryz.ntmps166]
 repeat' first|(with_reducible first|apply bG|apply bE|intro _)|simp[*]
 refine fj (λ(k:Nat)=>k<=l.length/\g9 (λy=>decide (v=y)) (l.drop k) k=R) [0,1,7] (λ(k:Nat)=>[(8,.w false false (.int .i64 k))]) [] (λ(k:Nat)=>[]) (λ(k:Nat)=>l.length-k) (λ(_u:Unit)=>R=-1) [] (λ(_u:Unit)=>[]) [] (λ(_u:Unit)=>[]) (0) ⟨cG _,kR⟩ ae ae (λk hk=>?_) (λ_u hf=>?_)
 .obtain⟨hk,hj⟩:=hk;by_cases h8:k<l.length
  .have h5:=hj;rw[fQ l k h8] at h5;unfold g9 at h5;have kj:=keep h5;clear hj h5
   repeat' first|(with_reducible first|apply bG|apply cj|apply bS|apply bU|apply bE|apply bP|refine And.intro ?_ ?_|refine jJ ?_ ?_|intro _)|simp[*,h8]
   all_goals first
    |omega
    |exact cu ab ab
    |(rename_i hp;rw[bX aT] at kj;exact kj)
    |(rename_i hp;rw[bH aT] at kj;(refine nx (k+1) ?_ ?_;(· exact⟨ab,kj⟩);(refine cg ?_ ?_<;>first|trivial|(simp[*];done))))
  .have h9:k=l.length:=ab
   subst h9
   repeat' first|(with_reducible first|apply bG|apply cK|apply bE|apply bP|intro _)|simp[*]
   all_goals (refine dp () ?_ ?_;(· rw[<-hj,jG];rfl);(refine cg ?_ ?_<;>first|trivial|(simp[*];done)))
 .subst hf
  repeat' first|(with_reducible first|apply bG|apply bU|apply bE|intro _)|simp[*]
theorem oZ(l:List Int)(hl:l.length<100000)(v:Int):bT Tz.prog 123 [.sl l.length (ints l),.int .i64 v] (.bool (l.any λy=>decide (v=y))) true:=by
 have c1:=OJ l hl v;have h:=uh (λy=>decide (v=y)) l;generalize idxOf (λy:Int=>decide (v=y)) l=i at *;rw[<-h];clear h;refine rcK Tz.func123 ?_;simp only[Tryz.results123,Tryz.ntmps123]
 repeat' first|(with_reducible first|apply bG|apply bU|apply bE|refine And.intro ?_ ?_|intro _)|simp[*]|(refine bN (c1) ?_ ?_;· simp[*];done)
end Go.Proofs.YthpkmilhiganjaaGreat
