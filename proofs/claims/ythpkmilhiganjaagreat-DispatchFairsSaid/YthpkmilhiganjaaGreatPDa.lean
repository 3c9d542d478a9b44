/- Lemmas. -/
import Derived.Test.YthpkmilhiganjaaGreatPWg
import Derived.Test.YthpkmilhiganjaaGreatPLg
import Derived.Test.YthpkmilhiganjaaGreatPLf
set_option linter.all false
set_option maxHeartbeats 32000000
set_option maxRecDepth 100000
namespace Go.Proofs.YthpkmilhiganjaaGreat
open Go Go.Fi
variable[bE]
def da(ok:Bool)(e:Int):Int:=if ok then 0 else e
theorem fC(ok:Bool)(e:Int):bX Tz.prog 71 [.bool ok,.int .i64 e] (.int .i64 (da ok e)) true:=by
 refine rcK Tz.func71 ?_;simp only[Tryz.results71,Tryz.ntmps71]
 repeat' first|(with_reducible first|apply bI|apply cg|apply bV|apply bH|apply bP|refine tR ?_ ?_|intro _)|simp[*]
 all_goals simp_all[da]
theorem mixed:Tz.prog.follows .mixedOrders=true:=aj
def cj(n lo hi:Int):Bool:=decide (lo<=n)&&decide (n<=hi)
theorem gL(n lo hi:Int):bX Tz.prog 72 [.int .i64 n,.int .i64 lo,.int .i64 hi] (.bool (cj n lo hi)) true:=by
 refine rcK Tz.func72 ?_;simp only[Tryz.results72,Tryz.ntmps72]
 repeat' first|(with_reducible first|apply bI|apply bV|apply bH|refine wS ?_ ?_|intro _)|simp[*,cj]
theorem m7(n lo hi:Int):bX Tz.prog 75 [.int .i64 n,.int .i64 lo,.int .i64 hi] (.bool (cj n lo hi)) true:=by
 refine rcK Tz.func75 ?_;simp only[Tryz.results75,Tryz.ntmps75]
 repeat' first|(with_reducible first|apply bI|apply bV|apply bH|refine wS ?_ ?_|intro _)|simp[*,cj]
def ints(l:List Int):List PV:=l.map (.int .i64)
@[simp]theorem Zb(l:List Int):(ints l).length=l.length:=by simp[ints]
@[simp]theorem OO(l:List Int)(k:Nat)(h:k<l.length):fw (ints l) k=.int .i64 (nth l k):=Gn _ l k h
def eo:List Int->Int
 |[]=>0
 |e::r=>if e=0 then eo r else e
theorem gb{α:Type}[Inhabited α](l:List α)(k:Nat)(h:k<l.length):l.drop k=nth l k::l.drop (k+1):=by
 rw[TM h];simp[nth,dT,dO h]
theorem rC(l:List Int)(h:l.length<1000):bX Tz.prog 70 [.sl l.length (ints l)] (.int .i64 (eo l)) true:=by
 refine rcK Tz.func70 ?_;simp only[Tryz.results70,Tryz.ntmps70]
 repeat' first|(with_reducible first|apply bI|apply bH|intro _)|simp[*]
 refine wV (λk:Nat=>k<=l.length/\eo (l.drop k)=eo l) [5,6] (λk=>[(7,.w false false (.int .i64 k))]) (λ_=>[]) (λk=>l.length-k)
  (λ_:Unit=>eo l=0) [] (λ_=>[]) (λ_=>[]) 0 ⟨cG _,rfl⟩ ae ae (λk hk=>?_) (λ_ hf=>?_)
 .obtain⟨hk,hf⟩:=hk
  repeat' first|(with_reducible first|apply bI|apply dk|apply cg|apply bV|apply dg|apply bH|apply bP|refine And.intro ?_ ?_|refine oU ?_ ?_|refine j0 ?_ ?_|intro _)|simp[*,eo]
  all_goals first
   |exact db ab ab
   |omega
   |(rw[<-hf,gb l k ab];simp_all[eo];done)
   |(refine nx (k+1) ?_ ?_;(· refine⟨ab,?_⟩;rw[<-hf,gb l k ab];simp_all[eo]);(refine cY ?_ ?_<;>first|trivial|(simp[*];done)))
   |(refine dQ () ?_ ?_;(· rw[<-hf,JB ab];rfl);(refine cY ?_ ?_<;>first|trivial|(simp[*];done)))
 .repeat' first|(with_reducible first|apply bI|apply bV|apply bH|intro _)|simp[*]
theorem GP(a b:Int):bX Tz.prog 70 [.sl 2 [.int .i64 a,.int .i64 b]] (.int .i64 (eo [a,b])) true:=rC [a,b] (ij rfl)
theorem GQ(a b c:Int):bX Tz.prog 70 [.sl 3 [.int .i64 a,.int .i64 b,.int .i64 c]] (.int .i64 (eo [a,b,c])) true:=rC [a,b,c] (ij rfl)
def uO(c:Nat):Bool:=decide ((97:Int)<=c)&&decide ((c:Int)<=122) || decide ((65:Int)<=c)&&decide ((c:Int)<=90)
def okB(k c:Nat):Bool:=uO c || !(decide (k=0))&&(decide (c=45) || decide ((48:Int)<=c)&&decide ((c:Int)<=57))
def mJ(s:ByteArray):Nat->Bool
 |0=>true
 |k+1=>mJ s k&&okB k (uo s k)
theorem Bn(s:ByteArray)(k:Nat)(h:okB k (uo s k)=false):∀n,k<n->mJ s n=false
 |0,hn=>by omega
 |n+1,hn=>by
  unfold mJ;by_cases e:k=n
  .subst e;simp[h]
  .rw[Bn s k h n ab];rfl
def gl(s:ByteArray):Bool:=mJ s s.size&&decide (s.size≠0)&&decide (s.size<=12)
theorem GR{s:ByteArray}(h:s.size=0):gl s=false:=by simp[gl,h]
theorem OP{s:ByteArray}(h:12<s.size):gl s=false:=by simp[gl];intros;omega
theorem GU{s:ByteArray}(h:mJ s s.size=true)(h0:s.size≠0):gl s=decide (s.size<=12):=by simp[gl,h,h0]
theorem GV(s:ByteArray)(hs:s.size<1000000):bX Tz.prog 130 [.str s] (.bool (gl s)) true:=by
 refine rcK Tz.func130 ?_;simp only[Tryz.results130,Tryz.ntmps130]
 repeat' first|(with_reducible first|apply bI|apply bH|intro _)|simp[*]
 refine wV (λk:Nat=>k<=s.size/\mJ s k=true) [0,7,8] (λk=>[(9,.w false false (.int .i64 k))]) (λ_=>[]) (λk=>s.size-k)
  (λ_:Unit=>mJ s s.size=true) [0] (λ_=>[]) (λ_=>[]) 0 ⟨cG _,rfl⟩ ae ae (λk hk=>?_) (λ_ hf=>?_)
 .obtain⟨hk,hf⟩:=hk
  repeat' first|(with_reducible first|apply bI|apply dk|apply cg|apply bV|apply dg|apply bH|apply bP|refine And.intro ?_ ?_|refine wT ?_ ?_|refine wS ?_ ?_|refine j0 ?_ ?_|intro _)|simp[*]
  all_goals first
   |exact db ab ab
   |omega
   |(refine nx (k+1) ?_ ?_;(· refine⟨ab,?_⟩;unfold mJ;rw[hf];clear hf;simp[okB,uO] at *;omega);(refine cY ?_ ?_<;>first|trivial|(simp[*];done)))
   |(refine dQ () ?_ ?_;(· rw[show s.size=k by omega];exact hf);(refine cY ?_ ?_<;>first|trivial|(simp[*];done)))
   |(unfold gl;rw[Bn s k (by clear hf;simp[okB,uO] at *;omega) s.size ab];rfl)
 .repeat' first|(with_reducible first|apply bI|apply bV|apply bH|refine wT ?_ ?_|intro _)|simp[*]
  .rename_i h0
   have hh:s≠{ data:=#[] }:=by simpa using h0
   rw[GU hf (λh=>hh ((Gm s).2 h))];simp;omega
  .rename_i h0;rw[GR ((Gm s).1 (by have h1:s = { data:=#[] }:=by simpa using h0
                                   exact h1))]
abbrev Car:=ByteArray×Int×Bool
abbrev Ord:=ByteArray×Int×Bool×Int
abbrev Par:=Int×Int
def di(l:List Car):List PV:=l.flatMap Tw.fA
@[simp]theorem Zc(l:List Car):(di l).length=l.length*3:=tT Tw.fA 3 (λ_=>rfl) l
@[simp]theorem Zd(l:List Car)(k:Nat)(h:k<l.length):((di l).drop (k*3)).take 3=Tw.fA (nth l k):=wU Tw.fA 3 (λ_=>rfl) l k h
@[simp]theorem Ze(l:List Car)(k:Nat)(h:k<l.length):fw (di l) (k*3)=.str (nth l k).1:=qn Tw.fA 3 (λ_=>rfl) l k 0 h ab
@[simp]theorem Zf(l:List Car)(k:Nat)(h:k<l.length):fw (di l) (k*3+1)=.int .i64 (nth l k).2.1:=qn Tw.fA 3 (λ_=>rfl) l k 1 h ab
def dh(l:List Ord):List PV:=l.flatMap Tw.eH
@[simp]theorem Zg(l:List Ord):(dh l).length=l.length*4:=tT Tw.eH 4 (λ_=>rfl) l
@[simp]theorem Zh(l:List Ord)(k:Nat)(h:k<l.length):((dh l).drop (k*4)).take 4=Tw.eH (nth l k):=wU Tw.eH 4 (λ_=>rfl) l k h
@[simp]theorem Zi(l:List Ord)(k:Nat)(h:k<l.length):fw (dh l) (k*4)=.str (nth l k).1:=qn Tw.eH 4 (λ_=>rfl) l k 0 h ab
@[simp]theorem Zj(l:List Ord)(k:Nat)(h:k<l.length):fw (dh l) (k*4+1)=.int .i64 (nth l k).2.1:=qn Tw.eH 4 (λ_=>rfl) l k 1 h ab
@[simp]theorem Zk(l:List Ord)(k:Nat)(h:k<l.length):fw (dh l) (k*4+3)=.int .i64 (nth l k).2.2.2:=qn Tw.eH 4 (λ_=>rfl) l k 3 h ab
def dc(l:List Par):List PV:=l.flatMap Tw.eI
@[simp]theorem Zl(l:List Par):(dc l).length=l.length*2:=tT Tw.eI 2 (λ_=>rfl) l
@[simp]theorem Zm(l:List Par)(k:Nat)(h:k<l.length):((dc l).drop (k*2)).take 2=Tw.eI (nth l k):=wU Tw.eI 2 (λ_=>rfl) l k h
@[simp]theorem Zn(l:List Par)(k:Nat)(h:k<l.length):fw (dc l) (k*2)=.int .i64 (nth l k).1:=qn Tw.eI 2 (λ_=>rfl) l k 0 h ab
theorem Bo(n:Int):bX Tz.prog 102 [.int .i64 n] (.bool (cj n 1 8)) true:=by
 refine rcK Tz.func102 ?_;simp only[Tryz.results102,Tryz.ntmps102]
 repeat' first|(with_reducible first|apply bI|apply bV|apply bH|refine And.intro ?_ ?_|refine cw (gL _ _ _) ?_|intro _)|simp[*]|(refine bJ (gL _ _ _) ?_ ?_;· simp[*];done)
theorem Bp(x:Car):bX Tz.prog 100 [.agg (Tw.fA x)] (.str x.1) true:=by
 unfold Tw.fA;refine rcK Tz.func100 ?_;simp only[Tryz.results100,Tryz.ntmps100]
 repeat' first|(with_reducible first|apply bI|apply bV|apply bH|intro _)|simp[*]
theorem Bq(x:Ord):bX Tz.prog 104 [.agg (Tw.eH x)] (.str x.1) true:=by
 unfold Tw.eH;refine rcK Tz.func104 ?_;simp only[Tryz.results104,Tryz.ntmps104]
 repeat' first|(with_reducible first|apply bI|apply bV|apply bH|intro _)|simp[*]
def gr(x:Car):Int:=da (cj x.2.1 1 8) 2
theorem OQ(i:Int)(x:Car):bX Tz.prog 101 [.int .i64 i,.agg (Tw.fA x)] (.int .i64 (gr x)) true:=by
 unfold Tw.fA gr;refine rcK Tz.func101 ?_;simp only[Tryz.results101,Tryz.ntmps101]
 repeat' first|(with_reducible first|apply bI|apply bV|apply bH|refine And.intro ?_ ?_|refine cw (Bo _) ?_|refine cw (fC _ _) ?_|intro _)|simp[*]|(refine bJ (Bo _) ?_ ?_;· simp[*];done)|(refine bJ (fC _ _) ?_ ?_;· simp[*];done)
def fQ(x:Ord):Int:=da (cj x.2.1 1 8&&cj x.2.2.2 0 6) 2
theorem OR(i:Int)(x:Ord):bX Tz.prog 105 [.int .i64 i,.agg (Tw.eH x)] (.int .i64 (fQ x)) true:=by
 unfold Tw.eH fQ;have c1:=Bo x.2.1;generalize cj x.2.1 1 8=b at c1 ⊢
 cases b with
 |true=>
  refine rcK Tz.func105 ?_;simp only[Tryz.results105,Tryz.ntmps105]
  repeat' first|(with_reducible first|apply bI|apply bV|apply bH|refine And.intro ?_ ?_|refine cw (gL _ _ _) ?_|refine cw (fC _ _) ?_|intro _)|simp[*]|(refine bJ (c1) ?_ ?_;· simp[*];done)|(refine bJ (gL _ _ _) ?_ ?_;· simp[*];done)|(refine bJ (fC _ _) ?_ ?_;· simp[*];done)
 |false=>
  refine rcK Tz.func105 ?_;simp only[Tryz.results105,Tryz.ntmps105]
  repeat' first|(with_reducible first|apply bI|apply bV|apply bH|refine And.intro ?_ ?_|refine cw (fC _ _) ?_|intro _)|simp[*]|(refine bJ (c1) ?_ ?_;· simp[*];done)|(refine bJ (gL _ _ _) ?_ ?_;· simp[*];done)|(refine bJ (fC _ _) ?_ ?_;· simp[*];done)
theorem OS(x:Int):bX Tz.prog 106 [.int .i64 x] (.bool (!cj x 0 100000)) true:=by
 refine rcK Tz.func106 ?_;simp only[Tryz.results106,Tryz.ntmps106]
 repeat' first|(with_reducible first|apply bI|apply bV|apply bH|refine And.intro ?_ ?_|refine cw (gL _ _ _) ?_|intro _)|simp[*]|(refine bJ (gL _ _ _) ?_ ?_;· simp[*];done)
def dp(p:Prop):Prop:=p
theorem keep{p:Prop}(h:p):dp p:=h
def gT{α:Type}(p:α->Bool):List α->Nat->Int
 |[],_=>-1
 |x::r,i=>if p x=true then (i:Int) else gT p r (i+1)
def idxOf{α:Type}(p:α->Bool)(l:List α):Int:=gT p l 0
theorem GW{α:Type}(p:α->Bool):∀(l:List α)(i:Nat),decide (0<=gT p l i)=l.any p
 |[],i=>rfl
 |x::r,i=>by
  unfold gT
  cases h:p x with
  |true=>simp[h]
  |false=>simp[h];have:=GW p r (i+1);simpa using this
theorem ug{α:Type}(p:α->Bool)(l:List α):decide (0<=idxOf p l)=l.any p:=GW p l 0
theorem OT(l:List Int)(hl:l.length<100000)(g:FuncId)(bT:List PV)(p:Int->Bool)(h:∀x,bX Tz.prog g (.int .i64 x::bT) (.bool (p x)) true):bX Tz.prog 124 [.sl l.length (ints l),.fn g bT] (.int .i64 (idxOf p l)) true:=by
 generalize hR:idxOf p l=R;have kR:dp (gT p l 0=R):=keep hR;clear hR;refine rcK Tz.func124 ?_;simp only[Tryz.results124,Tryz.ntmps124]
 repeat' first|(with_reducible first|apply bI|apply bH|intro _)|simp[*]
 refine fH (λ(k:Nat)=>k<=l.length/\gT p (l.drop k) k=R) [0,1,7] (λ(k:Nat)=>[(8,.w false false (.int .i64 k))]) [] (λ(k:Nat)=>[]) (λ(k:Nat)=>l.length-k) (λ(_u:Unit)=>R=-1) [] (λ(_u:Unit)=>[]) [] (λ(_u:Unit)=>[]) (0) ⟨cG _,kR⟩ ae ae (λk hk=>?_) (λ_u hf=>?_)
 .obtain⟨hk,hj⟩:=hk;by_cases h8:k<l.length
  .have c1:=h (nth l k);have h5:=hj;rw[gb l k h8] at h5;unfold gT at h5;have kj:=keep h5;clear hj h5 h
   repeat' first|(with_reducible first|apply bI|apply dk|apply cg|apply bV|apply bH|apply bP|refine And.intro ?_ ?_|refine tR ?_ ?_|intro _)|simp[*,h8]|(refine bJ (c1) ?_ ?_;· simp[*];done)
   all_goals first
    |exact db ab ab
    |omega
    |(rename_i hp;rw[cu hp] at kj;exact kj)
    |(rename_i hp;rw[bN (by rw[hp];decide)] at kj;(refine nx (k+1) ?_ ?_;(· exact⟨ab,kj⟩);(refine cY ?_ ?_<;>first|trivial|(simp[*];done))))
    |skip
  .have h9:k=l.length:=ab
   subst h9
   repeat' first|(with_reducible first|apply bI|apply dg|apply bH|apply bP|intro _)|simp[*]
   all_goals (refine dQ () ?_ ?_;(· rw[<-hj,kI];rfl);(refine cY ?_ ?_<;>first|trivial|(simp[*];done)))
 .subst hf
  repeat' first|(with_reducible first|apply bI|apply bV|apply bH|intro _)|simp[*]
theorem w9(l:List Int)(hl:l.length<100000)(g:FuncId)(bT:List PV)(p:Int->Bool)(h:∀x,bX Tz.prog g (.int .i64 x::bT) (.bool (p x)) true):bX Tz.prog 93 [.sl l.length (ints l),.fn g bT] (.bool (l.any p)) true:=by
 have c1:=OT l hl g bT p h;have h:=ug p l;generalize idxOf p l=i at *;rw[<-h];clear h;refine rcK Tz.func93 ?_;simp only[Tryz.results93,Tryz.ntmps93]
 repeat' first|(with_reducible first|apply bI|apply bV|apply bH|refine And.intro ?_ ?_|intro _)|simp[*]|(refine bJ (c1) ?_ ?_;· simp[*];done)
theorem OU(l:List Car)(hl:l.length<100000)(g:FuncId)(bT:List PV)(p:Car->Bool)(h:∀x,bX Tz.prog g (.agg (Tw.fA x)::bT) (.bool (p x)) true):bX Tz.prog 167 [.sl l.length (di l),.fn g bT] (.int .i64 (idxOf p l)) true:=by
 generalize hR:idxOf p l=R;have kR:dp (gT p l 0=R):=keep hR;clear hR;refine rcK Tz.func167 ?_;simp only[Tryz.results167,Tryz.ntmps167]
 repeat' first|(with_reducible first|apply bI|apply bH|intro _)|simp[*]
 refine fH (λ(k:Nat)=>k<=l.length/\gT p (l.drop k) k=R) [0,1,7] (λ(k:Nat)=>[(8,.w false false (.int .i64 k))]) [] (λ(k:Nat)=>[]) (λ(k:Nat)=>l.length-k) (λ(_u:Unit)=>R=-1) [] (λ(_u:Unit)=>[]) [] (λ(_u:Unit)=>[]) (0) ⟨cG _,kR⟩ ae ae (λk hk=>?_) (λ_u hf=>?_)
 .obtain⟨hk,hj⟩:=hk;by_cases h8:k<l.length
  .have c1:=h (nth l k);have h5:=hj;rw[gb l k h8] at h5;unfold gT at h5;have kj:=keep h5;clear hj h5 h
   repeat' first|(with_reducible first|apply bI|apply dk|apply cg|apply bV|apply bH|apply bP|refine And.intro ?_ ?_|refine tR ?_ ?_|intro _)|simp[*,h8]|(refine bJ (c1) ?_ ?_;· simp[*];done)
   all_goals first
    |exact db ab ab
    |omega
    |(rename_i hp;rw[cu hp] at kj;exact kj)
    |(rename_i hp;rw[bN (by rw[hp];decide)] at kj;(refine nx (k+1) ?_ ?_;(· exact⟨ab,kj⟩);(refine cY ?_ ?_<;>first|trivial|(simp[*];done))))
    |skip
  .have h9:k=l.length:=ab
   subst h9
   repeat' first|(with_reducible first|apply bI|apply dg|apply bH|apply bP|intro _)|simp[*]
   all_goals (refine dQ () ?_ ?_;(· rw[<-hj,kI];rfl);(refine cY ?_ ?_<;>first|trivial|(simp[*];done)))
 .subst hf
  repeat' first|(with_reducible first|apply bI|apply bV|apply bH|intro _)|simp[*]
theorem OV(l:List Car)(hl:l.length<100000)(g:FuncId)(bT:List PV)(p:Car->Bool)(h:∀x,bX Tz.prog g (.agg (Tw.fA x)::bT) (.bool (p x)) true):bX Tz.prog 128 [.sl l.length (di l),.fn g bT] (.bool (l.any p)) true:=by
 have c1:=OU l hl g bT p h;have h:=ug p l;generalize idxOf p l=i at *;rw[<-h];clear h;refine rcK Tz.func128 ?_;simp only[Tryz.results128,Tryz.ntmps128]
 repeat' first|(with_reducible first|apply bI|apply bV|apply bH|refine And.intro ?_ ?_|intro _)|simp[*]|(refine bJ (c1) ?_ ?_;· simp[*];done)
theorem OX(l:List Ord)(hl:l.length<100000)(g:FuncId)(bT:List PV)(p:Ord->Bool)(h:∀x,bX Tz.prog g (.agg (Tw.eH x)::bT) (.bool (p x)) true):bX Tz.prog 168 [.sl l.length (dh l),.fn g bT] (.int .i64 (idxOf p l)) true:=by
 generalize hR:idxOf p l=R;have kR:dp (gT p l 0=R):=keep hR;clear hR;refine rcK Tz.func168 ?_;simp only[Tryz.results168,Tryz.ntmps168]
 repeat' first|(with_reducible first|apply bI|apply bH|intro _)|simp[*]
 refine fH (λ(k:Nat)=>k<=l.length/\gT p (l.drop k) k=R) [0,1,7] (λ(k:Nat)=>[(8,.w false false (.int .i64 k))]) [] (λ(k:Nat)=>[]) (λ(k:Nat)=>l.length-k) (λ(_u:Unit)=>R=-1) [] (λ(_u:Unit)=>[]) [] (λ(_u:Unit)=>[]) (0) ⟨cG _,kR⟩ ae ae (λk hk=>?_) (λ_u hf=>?_)
 .obtain⟨hk,hj⟩:=hk;by_cases h8:k<l.length
  .have c1:=h (nth l k);have h5:=hj;rw[gb l k h8] at h5;unfold gT at h5;have kj:=keep h5;clear hj h5 h
   repeat' first|(with_reducible first|apply bI|apply dk|apply cg|apply bV|apply bH|apply bP|refine And.intro ?_ ?_|refine tR ?_ ?_|intro _)|simp[*,h8]|(refine bJ (c1) ?_ ?_;· simp[*];done)
   all_goals first
    |exact db ab ab
    |omega
    |(rename_i hp;rw[cu hp] at kj;exact kj)
    |(rename_i hp;rw[bN (by rw[hp];decide)] at kj;(refine nx (k+1) ?_ ?_;(· exact⟨ab,kj⟩);(refine cY ?_ ?_<;>first|trivial|(simp[*];done))))
    |skip
  .have h9:k=l.length:=ab
   subst h9
   repeat' first|(with_reducible first|apply bI|apply dg|apply bH|apply bP|intro _)|simp[*]
   all_goals (refine dQ () ?_ ?_;(· rw[<-hj,kI];rfl);(refine cY ?_ ?_<;>first|trivial|(simp[*];done)))
 .subst hf
  repeat' first|(with_reducible first|apply bI|apply bV|apply bH|intro _)|simp[*]
theorem OY(l:List Ord)(hl:l.length<100000)(g:FuncId)(bT:List PV)(p:Ord->Bool)(h:∀x,bX Tz.prog g (.agg (Tw.eH x)::bT) (.bool (p x)) true):bX Tz.prog 131 [.sl l.length (dh l),.fn g bT] (.bool (l.any p)) true:=by
 have c1:=OX l hl g bT p h;have h:=ug p l;generalize idxOf p l=i at *;rw[<-h];clear h;refine rcK Tz.func131 ?_;simp only[Tryz.results131,Tryz.ntmps131]
 repeat' first|(with_reducible first|apply bI|apply bV|apply bH|refine And.intro ?_ ?_|intro _)|simp[*]|(refine bJ (c1) ?_ ?_;· simp[*];done)
theorem OZ(x y:Car):bX Tz.prog 129 [.agg (Tw.fA y),.ip [.fn 100 []] 0,.ip (Tw.fA x) 0] (.bool (decide (y.1=x.1))) true:=by
 have c1:=Bp y;have c2:=Bp x;unfold Tw.fA at *;refine rcK Tz.func129 ?_;simp only[Tryz.results129,Tryz.ntmps129]
 repeat' first|(with_reducible first|apply bI|apply bV|apply bH|refine dD (id:=1) 8 mixed ai ?_|refine And.intro ?_ ?_|intro _)|simp[*]|(refine bJ (c1) ?_ ?_;· simp[*];done)|(refine bJ (c2) ?_ ?_;· simp[*];done)
theorem O0(x y:Ord):bX Tz.prog 132 [.agg (Tw.eH y),.ip [.fn 104 []] 0,.ip (Tw.eH x) 0] (.bool (decide (y.1=x.1))) true:=by
 have c1:=Bq y;have c2:=Bq x;unfold Tw.eH at *;refine rcK Tz.func132 ?_;simp only[Tryz.results132,Tryz.ntmps132]
 repeat' first|(with_reducible first|apply bI|apply bV|apply bH|refine dD (id:=1) 8 mixed ai ?_|refine And.intro ?_ ?_|intro _)|simp[*]|(refine bJ (c1) ?_ ?_;· simp[*];done)|(refine bJ (c2) ?_ ?_;· simp[*];done)
def iF{α:Type}(nm:α->ByteArray)(mr:α->Int)(l:List α)(k:Nat)(x:α):Int:=eo [da (gl (nm x)) 4,da (!(l.take k).any (λy=>decide (nm y=nm x))) 5,mr x]
def gu{α:Type}(nm:α->ByteArray)(mr:α->Int)(l:List α):List α->Nat->Int×Int
 |[],_=>(0,0)
 |x::r,k=>if iF nm mr l k x=0 then gu nm mr l r (k+1) else (k,iF nm mr l k x)
def hZ{α:Type}(nm:α->ByteArray)(mr:α->Int)(l:List α):Int×Int:=gu nm mr l l 0
@[simp]theorem Zo(l:List Car)(k:Nat):(di l).take (k*3)=di (l.take k):=by
 induction l generalizing k with
 |nil=>simp[di]
 |cons x r ih=>
  cases k with
  |zero=>simp[di]
  |succ k=>
   have e:di (x::r)=Tw.fA x++di r:=rfl;rw[e,JC,show di (x::r.take k)=Tw.fA x++di (r.take k) from rfl,<-ih,eU,JD];simp[Tw.fA]
@[simp]theorem Zp(l:List Ord)(k:Nat):(dh l).take (k*4)=dh (l.take k):=by
 induction l generalizing k with
 |nil=>simp[dh]
 |cons x r ih=>
  cases k with
  |zero=>simp[dh]
  |succ k=>
   have e:dh (x::r)=Tw.eH x++dh r:=rfl;rw[e,JC,show dh (x::r.take k)=Tw.eH x++dh (r.take k) from rfl,<-ih,eU,JD];simp[Tw.eH]
theorem O3(l:List Car)(hl:l.length<100000)(hs:∀x∈l,x.1.size<1000000):bX Tz.prog 99 [.sl l.length (di l),.fn 100 [],.fn 101 []] (.tup [.int .i64 (hZ Prod.fst gr l).1,.int .i64 (hZ Prod.fst gr l).2]) true:=by
 generalize hR:hZ Prod.fst gr l=R;obtain⟨R1,R2⟩:=R;have kR:dp (gu Prod.fst gr l l 0=(R1,R2)):=keep hR;clear hR;refine rcK Tz.func99 ?_;simp only[Tryz.results99,Tryz.ntmps99]
 repeat' first|(with_reducible first|apply bI|apply bH|intro _)|simp[*]
 refine fH (λ(k:Nat)=>k<=l.length/\gu Prod.fst gr l (l.drop k) k=(R1,R2)) [0,2,4,12,13] (λ(k:Nat)=>[(14,.w false false (.int .i64 k))]) [0] (λ(k:Nat)=>[]) (λ(k:Nat)=>l.length-k) (λ(_u:Unit)=>R1=0/\R2=0) [] (λ(_u:Unit)=>[]) [0] (λ(_u:Unit)=>[]) (0) ⟨cG _,kR⟩ ae ae (λk hk=>?_) (λ_u hf=>?_)
 .obtain⟨hk,hj⟩:=hk;by_cases h8:k<l.length
  .have c1:=OV (l.take k) (by rw[jP];omega) 129 [.ip [.fn 100 []] 0,.ip (Tw.fA (nth l k)) 0] (λy=>decide (y.1=(nth l k).1)) (λy=>OZ (nth l k) y);rw[Df hk] at c1;have c2:=GV (nth l k).1 (hs _ (mZ h8));have c3:=Bp (nth l k);have c4:=OQ k (nth l k);have c5:=GQ (da (gl (nth l k).1) 4) (da (!(l.take k).any (λy=>decide (y.1=(nth l k).1))) 5) (gr (nth l k));have h5:=hj;rw[gb l k h8] at h5;unfold gu iF at h5;generalize eo [da (gl (nth l k).1) 4,da (!(l.take k).any (λy=>decide (y.1=(nth l k).1))) 5,gr (nth l k)]=e at h5 c5;have kj:=keep h5;clear hj h5 hs;unfold Tw.fA at c1 c3 c4
   repeat' first|(with_reducible first|apply bI|apply dk|apply cg|apply bV|apply bH|refine dD (id:=5) 15 mixed ai ?_|apply bP|refine And.intro ?_ ?_ |  refine oU ?_ ?_|refine cw (fC _ _) ?_|intro _)|simp[*,h8,Tw.fA]|(refine bJ (c1) ?_ ?_;· simp[*];done)|(refine bJ (c2) ?_ ?_;· simp[*];done)|(refine bJ (c3) ?_ ?_;· simp[*];done)|(refine bJ (c4) ?_ ?_;· simp[*];done)|(refine bJ (fC _ _) ?_ ?_;· simp[*];done)|(refine bJ (c5) ?_ ?_;· simp[*];done)
   all_goals first
    |omega
    |exact db ab ab
    |(rename_i hp;rw[bN hp] at kj;exact (dK kj).1)
    |(rename_i hp;rw[bN hp] at kj;exact (dK kj).2)
    |(rename_i hp;rw[cu hp] at kj;(refine nx (k+1) ?_ ?_;(· exact⟨ab,kj⟩);(refine cY ?_ ?_<;>first|trivial|(simp[*];done))))
  .have h9:k=l.length:=ab
   subst h9;rw[kI] at hj;unfold gu at hj
   repeat' first|(with_reducible first|apply bI|apply dg|apply bH|apply bP|intro _)|simp[*]
   all_goals (refine dQ () ?_ ?_;(· exact⟨(dK hj).1.symm,(dK hj).2.symm⟩);(refine cY ?_ ?_<;>first|trivial|(simp[*];done)))
 .obtain⟨rfl,rfl⟩:=hf
  repeat' first|(with_reducible first|apply bI|apply bV|apply bH|intro _)|simp[*]
theorem O4(l:List Ord)(hl:l.length<100000)(hs:∀x∈l,x.1.size<1000000):bX Tz.prog 103 [.sl l.length (dh l),.fn 104 [],.fn 105 []] (.tup [.int .i64 (hZ Prod.fst fQ l).1,.int .i64 (hZ Prod.fst fQ l).2]) true:=by
 generalize hR:hZ Prod.fst fQ l=R;obtain⟨R1,R2⟩:=R;have kR:dp (gu Prod.fst fQ l l 0=(R1,R2)):=keep hR;clear hR;refine rcK Tz.func103 ?_;simp only[Tryz.results103,Tryz.ntmps103]
 repeat' first|(with_reducible first|apply bI|apply bH|intro _)|simp[*]
 refine fH (λ(k:Nat)=>k<=l.length/\gu Prod.fst fQ l (l.drop k) k=(R1,R2)) [0,2,4,12,13] (λ(k:Nat)=>[(14,.w false false (.int .i64 k))]) [0] (λ(k:Nat)=>[]) (λ(k:Nat)=>l.length-k) (λ(_u:Unit)=>R1=0/\R2=0) [] (λ(_u:Unit)=>[]) [0] (λ(_u:Unit)=>[]) (0) ⟨cG _,kR⟩ ae ae (λk hk=>?_) (λ_u hf=>?_)
 .obtain⟨hk,hj⟩:=hk;by_cases h8:k<l.length
  .have c1:=OY (l.take k) (by rw[jP];omega) 132 [.ip [.fn 104 []] 0,.ip (Tw.eH (nth l k)) 0] (λy=>decide (y.1=(nth l k).1)) (λy=>O0 (nth l k) y);rw[Df hk] at c1;have c2:=GV (nth l k).1 (hs _ (mZ h8));have c3:=Bq (nth l k);have c4:=OR k (nth l k);have c5:=GQ (da (gl (nth l k).1) 4) (da (!(l.take k).any (λy=>decide (y.1=(nth l k).1))) 5) (fQ (nth l k));have h5:=hj;rw[gb l k h8] at h5;unfold gu iF at h5;generalize eo [da (gl (nth l k).1) 4,da (!(l.take k).any (λy=>decide (y.1=(nth l k).1))) 5,fQ (nth l k)]=e at h5 c5;have kj:=keep h5;clear hj h5 hs;unfold Tw.eH at c1 c3 c4
   repeat' first|(with_reducible first|apply bI|apply dk|apply cg|apply bV|apply bH|refine dD (id:=5) 15 mixed ai ?_|apply bP|refine And.intro ?_ ?_ |  refine oU ?_ ?_|refine cw (fC _ _) ?_|intro _)|simp[*,h8,Tw.eH]|(refine bJ (c1) ?_ ?_;· simp[*];done)|(refine bJ (c2) ?_ ?_;· simp[*];done)|(refine bJ (c3) ?_ ?_;· simp[*];done)|(refine bJ (c4) ?_ ?_;· simp[*];done)|(refine bJ (fC _ _) ?_ ?_;· simp[*];done)|(refine bJ (c5) ?_ ?_;· simp[*];done)
   all_goals first
    |omega
    |exact db ab ab
    |(rename_i hp;rw[bN hp] at kj;exact (dK kj).1)
    |(rename_i hp;rw[bN hp] at kj;exact (dK kj).2)
    |(rename_i hp;rw[cu hp] at kj;(refine nx (k+1) ?_ ?_;(· exact⟨ab,kj⟩);(refine cY ?_ ?_<;>first|trivial|(simp[*];done))))
  .have h9:k=l.length:=ab
   subst h9;rw[kI] at hj;unfold gu at hj
   repeat' first|(with_reducible first|apply bI|apply dg|apply bH|apply bP|intro _)|simp[*]
   all_goals (refine dQ () ?_ ?_;(· exact⟨(dK hj).1.symm,(dK hj).2.symm⟩);(refine cY ?_ ?_<;>first|trivial|(simp[*];done)))
 .obtain⟨rfl,rfl⟩:=hf
  repeat' first|(with_reducible first|apply bI|apply bV|apply bH|intro _)|simp[*]
theorem O5(l:List Par)(hl:l.length<100000)(v:Par):bX Tz.prog 133 [.sl l.length (dc l),.agg (Tw.eI v)] (.int .i64 (idxOf (λy=>decide (v.1=y.1)&&decide (v.2=y.2)) l)) true:=by
 generalize hR:idxOf (λy=>decide (v.1=y.1)&&decide (v.2=y.2)) l=R;have kR:dp (gT (λy=>decide (v.1=y.1)&&decide (v.2=y.2)) l 0=R):=keep hR;clear hR;obtain⟨v1,v2⟩:=v;simp only[Tw.eI];refine rcK Tz.func133 ?_;simp only[Tryz.results133,Tryz.ntmps133]
 repeat' first|(with_reducible first|apply bI|apply bH|intro _)|simp[*]
 refine fH (λ(k:Nat)=>k<=l.length/\gT (λy=>decide (v1=y.1)&&decide (v2=y.2)) (l.drop k) k=R) [0,3,7] (λ(k:Nat)=>[(8,.w false false (.int .i64 k))]) [0] (λ(k:Nat)=>[]) (λ(k:Nat)=>l.length-k) (λ(_u:Unit)=>R=-1) [] (λ(_u:Unit)=>[]) [0] (λ(_u:Unit)=>[]) (0) ⟨cG _,kR⟩ ae ae (λk hk=>?_) (λ_u hf=>?_)
 .obtain⟨hk,hj⟩:=hk;by_cases h8:k<l.length
  .have h5:=hj;rw[gb l k h8] at h5;unfold gT at h5;have kj:=keep h5;clear hj h5
   repeat' first|(with_reducible first|apply bI|apply dk|apply cg|apply bV|apply bH|refine dD (id:=4) 6 mixed ai ?_|apply bP|refine And.intro ?_ ?_|refine tR ?_ ?_|intro _)|simp[*,h8,Tw.eI]
   all_goals first
    |omega
    |exact db ab ab
    |(rename_i hp;rw[cu aT] at kj;exact kj)
    |(rename_i hp;rw[bN aT] at kj;(refine nx (k+1) ?_ ?_;(· exact⟨ab,kj⟩);(refine cY ?_ ?_<;>first|trivial|(simp[*];done))))
  .have h9:k=l.length:=ab
   subst h9
   repeat' first|(with_reducible first|apply bI|apply dg|apply bH|apply bP|intro _)|simp[*]
   all_goals (refine dQ () ?_ ?_;(· rw[<-hj,kI];rfl);(refine cY ?_ ?_<;>first|trivial|(simp[*];done)))
 .subst hf
  repeat' first|(with_reducible first|apply bI|apply bV|apply bH|intro _)|simp[*]
theorem O6(l:List Par)(hl:l.length<100000)(v:Par):bX Tz.prog 107 [.sl l.length (dc l),.agg (Tw.eI v)] (.bool (l.any λy=>decide (v.1=y.1)&&decide (v.2=y.2))) true:=by
 have c1:=O5 l hl v;have h:=ug (λy=>decide (v.1=y.1)&&decide (v.2=y.2)) l;generalize idxOf (λy:Par=>decide (v.1=y.1)&&decide (v.2=y.2)) l=i at *;rw[<-h];clear h;obtain⟨v1,v2⟩:=v;simp only[Tw.eI] at *;refine rcK Tz.func107 ?_;simp only[Tryz.results107,Tryz.ntmps107]
 repeat' first|(with_reducible first|apply bI|apply bV|apply bH|refine And.intro ?_ ?_|intro _)|simp[*]|(refine bJ (c1) ?_ ?_;· simp[*];done)
def gG{α:Type}(E:Nat->α->Int):List α->Nat->Int×Int
 |[],_=>(0,0)
 |x::r,k=>if E k x=0 then gG E r (k+1) else (k,E k x)
def dH(w:List (List Int)):List PV:=w.map Tw.uG
@[simp]theorem Zq(w:List (List Int)):(dH w).length=w.length:=by simp[dH]
@[simp]theorem Zr(w:List (List Int))(k:Nat)(h:k<w.length):fw (dH w) k=.sl (nth w k).length (ints (nth w k)):=Gn Tw.uG w k h
@[simp]theorem Zs(l:List Par)(k:Nat):(dc l).take (k*2)=dc (l.take k):=by
 induction l generalizing k with
 |nil=>simp[dc]
 |cons x r ih=>
  cases k with
  |zero=>simp[dc]
  |succ k=>
   have e:dc (x::r)=Tw.eI x++dc r:=rfl;rw[e,JC,show dc (x::r.take k)=Tw.eI x++dc (r.take k) from rfl,<-ih,eU,JD];simp[Tw.eI]
def iG(nc:Nat)(row:List Int):Int:=eo [da (decide ((row.length:Int)=nc)) 10,da (!(row.any λx=>!cj x 0 100000)) 2]
def lN(no nc:Nat)(zs:List Par)(k:Nat)(p:Par):Int:=eo [da (cj p.1 0 ((no:Int)-1)&&cj p.2 0 ((nc:Int)-1)) 6,da (!((zs.take k).any λy=>decide (p.1=y.1)&&decide (p.2=y.2))) 26]
def gU{α:Type}(E:Nat->α->Int)(l:List α)(k:Nat)(T:Int×Int):Int×Int:=if (gG E l k).2≠0 then gG E l k else T
theorem GX{α:Type}(E:Nat->α->Int)(x:α)(l:List α)(k:Nat)(T:Int×Int):gU E (x::l) k T=if E k x=0 then gU E l (k+1) T else ((k:Int),E k x):=by
 unfold gU;rw[gG];by_cases h:E k x=0
 .simp only[h,cz]
 .simp[h]
theorem GY{α:Type}(E:Nat->α->Int)(k:Nat)(T:Int×Int):gU E [] k T=T:=by simp[gU,gG]
def iU(no nc:Nat)(zs:List Par):Int×Int:=if (64:Int)<zs.length then (0,8) else gG (lN no nc zs) zs 0
def iV(bD:List Car)(os:List Ord)(wt:List (List Int))(zs:List Par):Int×Int:=
 if (8:Int)<bD.length then (0,8) else if (hZ Prod.fst gr bD).2≠0 then hZ Prod.fst gr bD else if (8:Int)<os.length then (0,8) else if (hZ Prod.fst fQ os).2≠0 then hZ Prod.fst fQ os else
 if (wt.length:Int)≠os.length then (0,10) else gU (λ_=>iG bD.length) wt 0 (iU os.length bD.length zs)
theorem O7(bD:List Car)(os:List Ord)(wt:List (List Int))(zs:List Par)(h1:bD.length<100000)(h2:os.length<100000)(h3:wt.length<100000)(h4:zs.length<100000)(hc:∀x∈bD,x.1.size<1000000)(ho:∀x∈os,x.1.size<1000000)(hw:∀x∈wt,x.length<100000):bX Tz.prog 55 [.agg [.sl bD.length (di bD),.sl os.length (dh os),.sl wt.length (dH wt),.sl zs.length (dc zs)]] (.tup [.int .i64 (iV bD os wt zs).1,.int .i64 (iV bD os wt zs).2]) true:=by
 have c54:=O3 bD h1 hc;have c58:=O4 os h2 ho;generalize hR:iV bD os wt zs=R;obtain⟨R1,R2⟩:=R;unfold iV at hR;generalize hZ Prod.fst gr bD=A at *;generalize hZ Prod.fst fQ os=O at *;obtain⟨A1,A2⟩:=A;obtain⟨O1,O2⟩:=O;have kR:=keep hR;have kw:=keep hw;clear hR hw hc ho;simp only[] at c54 c58;refine rcK Tz.func55 ?_;simp only[Tryz.results55,Tryz.ntmps55]
 repeat' first|(with_reducible first|apply bI|apply cg|apply bV|apply bH|apply bP|refine And.intro ?_ ?_ |  refine oU ?_ ?_|refine j0 ?_ ?_|intro _)|simp[*]|(refine bJ (c54) ?_ ?_;· simp[*];done)|(refine bJ (c58) ?_ ?_;· simp[*];done)
 rotate_right
 .rename_i b1 b2 b3 b4 b5
  have kT:dp (gU (λ_=>iG bD.length) wt 0 (iU os.length bD.length zs)=(R1,R2)):=by
   rw[bN b1,bN aU,bN b3,bN (by simpa using b4),bN (by simpa using b5)] at kR;exact kR
  have kl:=keep b5;clear kR c54 c58 b1 b2 b3 b4 b5;refine fH (λ(k:Nat)=>k<=wt.length/\gU (λ_=>iG bD.length) (wt.drop k) k (iU os.length bD.length zs)=(R1,R2)) [1,50,51] (λ(k:Nat)=>[(52,.w false false (.int .i64 k))]) [0] (λ(k:Nat)=>[]) (λ(k:Nat)=>wt.length-k) (λ(_u:Unit)=>iU os.length bD.length zs=(R1,R2)) [1] (λ(_u:Unit)=>[]) [0] (λ(_u:Unit)=>[]) (0) ⟨cG _,kT⟩ ae ae (λk hk=>?_) (λ_u hf=>?_)
  .obtain⟨hk,hj⟩:=hk
   have hlen:wt.length=os.length:=by have:=kl;unfold dp at this;omega
   by_cases h8:k<wt.length
   .have h':k<os.length:=ab
    have c1:=w9 (nth wt k) (kw _ (mZ h8)) 106 [] _ OS;have c2:=GP (da (decide (((nth wt k).length:Int)=bD.length)) 10) (da (!((nth wt k).any λx=>!cj x 0 100000)) 2);rw[gb wt k h8,GX] at hj;unfold iG at hj;generalize eo [da (decide (((nth wt k).length:Int)=bD.length)) 10,da (!((nth wt k).any λx=>!cj x 0 100000)) 2]=e at hj c2;have kj:=keep hj;clear hj hlen
    repeat' first|(with_reducible first|apply bI|apply dk|apply cg|apply bV|apply bH|apply bP|refine And.intro ?_ ?_ |  refine oU ?_ ?_|refine cw (fC _ _) ?_|intro _)|simp[*,h8,h']|(refine bJ (c1) ?_ ?_;· simp[*];done)|(refine bJ (c2) ?_ ?_;· simp[*];done)|(refine bJ (fC _ _) ?_ ?_;· simp[*];done)
    all_goals first
     |omega
     |exact db ab ab
     |(rename_i hp;rw[bN hp] at kj;exact (dK kj).1)
     |(rename_i hp;rw[bN hp] at kj;exact (dK kj).2)
     |(rename_i hp;rw[cu hp] at kj;(refine nx (k+1) ?_ ?_;(· exact⟨ab,kj⟩);(refine cY ?_ ?_<;>first|trivial|(simp[*];done))))
   .have h':¬k<os.length:=ab
    have h9:k=wt.length:=ab
    rw[h9,kI,GY] at hj;have kj:=keep hj;clear hj hlen h9
    repeat' first|(with_reducible first|apply bI|apply dg|apply bH|apply bP|intro _)|simp[*,h8,h']
    all_goals first
     |omega
     |(refine dQ () ?_ ?_;(· exact kj);(refine cY ?_ ?_<;>first|trivial|(simp[*];done)))
  .unfold iU at hf;have kf:=keep hf;clear hf kT kw kl
   repeat' first|(with_reducible first|apply bI|apply cg|apply bV|apply bH|apply bP|refine And.intro ?_ ?_|refine j0 ?_ ?_|intro _)|simp[*]
   rotate_right
   .rename_i b6;rw[bN b6] at kf;have k2:=keep b6;clear b6;refine fH (λ(k:Nat)=>k<=zs.length/\gG (lN os.length bD.length zs) (zs.drop k) k=(R1,R2)) [1,81,82] (λ(k:Nat)=>[(83,.w false false (.int .i64 k))]) [0] (λ(k:Nat)=>[]) (λ(k:Nat)=>zs.length-k) (λ(_u:Unit)=>R1=0/\R2=0) [] (λ(_u:Unit)=>[]) [0] (λ(_u:Unit)=>[]) (0) ⟨cG _,kf⟩ ae ae (λk hk=>?_) (λ_u hf=>?_)
    .obtain⟨hk,hj⟩:=hk;by_cases h8:k<zs.length
     .have c1:=O6 (zs.take k) (by rw[jP];omega) (nth zs k);rw[Df hk] at c1;have w1:=gL (nth zs k).1 0 ((os.length:Int)-1);have w2:=gL (nth zs k).2 0 ((bD.length:Int)-1);have c2:=GP (da (cj (nth zs k).1 0 ((os.length:Int)-1)&&cj (nth zs k).2 0 ((bD.length:Int)-1)) 6) (da (!((zs.take k).any λy=>decide ((nth zs k).1=y.1)&&decide ((nth zs k).2=y.2))) 26);rw[gb zs k h8,gG] at hj;have hE:lN os.length bD.length zs k (nth zs k)=eo [da (cj (nth zs k).1 0 ((os.length:Int)-1)&&cj (nth zs k).2 0 ((bD.length:Int)-1)) 6,da (!((zs.take k).any λy=>decide ((nth zs k).1=y.1)&&decide ((nth zs k).2=y.2))) 26]:=rfl;rw[hE] at hj;clear hE;generalize eo [da (cj (nth zs k).1 0 ((os.length:Int)-1)&&cj (nth zs k).2 0 ((bD.length:Int)-1)) 6,da (!((zs.take k).any λy=>decide ((nth zs k).1=y.1)&&decide ((nth zs k).2=y.2))) 26]=e at hj c2;have kj:=keep hj;clear hj;unfold Tw.eI at c1;generalize cj (nth zs k).1 0 ((os.length:Int)-1)=g1 at w1 c2;generalize cj (nth zs k).2 0 ((bD.length:Int)-1)=g2 at w2 c2
      cases g1 with
      |true=>
       simp only[fY] at c2
       repeat' first|(with_reducible first|apply bI|apply dk|apply cg|apply bV|apply bH|refine dD (id:=27) 13 mixed ai ?_|apply bP|refine And.intro ?_ ?_ |  refine oU ?_ ?_|refine cw (fC _ _) ?_|intro _)|simp[*,h8,Tw.eI]|(refine bJ (c1) ?_ ?_;· simp[*];done)|(refine bJ (c2) ?_ ?_;· simp[*];done)|(refine bJ (w1) ?_ ?_;· simp[*];done)|(refine bJ (w2) ?_ ?_;· simp[*];done)|(refine bJ (fC _ _) ?_ ?_;· simp[*];done)
       all_goals first
        |omega
        |exact db ab ab
        |(rename_i hp;rw[bN hp] at kj;exact (dK kj).1)
        |(rename_i hp;rw[bN hp] at kj;exact (dK kj).2)
        |(rename_i hp;rw[cu hp] at kj;(refine nx (k+1) ?_ ?_;(· exact⟨ab,kj⟩);(refine cY ?_ ?_<;>first|trivial|(simp[*];done))))
      |false=>
       simp only[jb] at c2
       repeat' first|(with_reducible first|apply bI|apply dk|apply cg|apply bV|apply bH|refine dD (id:=27) 13 mixed ai ?_|apply bP|refine And.intro ?_ ?_ |  refine oU ?_ ?_|refine cw (fC _ _) ?_|intro _)|simp[*,h8,Tw.eI]|(refine bJ (c1) ?_ ?_;· simp[*];done)|(refine bJ (c2) ?_ ?_;· simp[*];done)|(refine bJ (w1) ?_ ?_;· simp[*];done)|(refine bJ (w2) ?_ ?_;· simp[*];done)|(refine bJ (fC _ _) ?_ ?_;· simp[*];done)
       all_goals first
        |omega
        |exact db ab ab
        |(rename_i hp;rw[bN hp] at kj;exact (dK kj).1)
        |(rename_i hp;rw[bN hp] at kj;exact (dK kj).2)
        |(rename_i hp;rw[cu hp] at kj;(refine nx (k+1) ?_ ?_;(· exact⟨ab,kj⟩);(refine cY ?_ ?_<;>first|trivial|(simp[*];done))))
     .have h9:k=zs.length:=ab
      subst h9;rw[kI] at hj;unfold gG at hj
      repeat' first|(with_reducible first|apply bI|apply dg|apply bH|apply bP|intro _)|simp[*]
      all_goals first
       |omega
       |(refine dQ () ?_ ?_;(· exact⟨(dK hj).1.symm,(dK hj).2.symm⟩);(refine cY ?_ ?_<;>first|trivial|(simp[*];done)))
    .obtain⟨rfl,rfl⟩:=hf
     repeat' first|(with_reducible first|apply bI|apply bV|apply bH|intro _)|simp[*]
   all_goals first
    |(rename_i b1;rw[cu b1] at kf;first|exact (dK kf).1|exact (dK kf).2)
 all_goals first
  |(rename_i b1;rw[cu b1] at kR;first|exact (dK kR).1|exact (dK kR).2)
  |(rename_i b1 b2;rw[bN b1,cu aU] at kR;first|exact (dK kR).1|exact (dK kR).2)
  |(rename_i b1 b2 b3;rw[bN b1,bN aU,cu b3] at kR;first|exact (dK kR).1|exact (dK kR).2)
  |(rename_i b1 b2 b3 b4;rw[bN b1,bN aU,bN b3,cu (by simpa using b4)] at kR;first|exact (dK kR).1|exact (dK kR).2)
  |(rename_i b1 b2 b3 b4 b5;rw[bN b1,bN aU,bN b3,bN (by simpa using b4),cu (by simpa using b5)] at kR;first|exact (dK kR).1|exact (dK kR).2)
end Go.Proofs.YthpkmilhiganjaaGreat
namespace Go.Proofs.YthpkmilhiganjaaGreat
open Go Go.Fi Go.Fc
noncomputable def ciR(r:Tw.RND):Int:=(iV r.bD r.os r.wt r.zs).1
noncomputable def ceR(r:Tw.RND):Int:=(iV r.bD r.os r.wt r.zs).2
theorem chk[bE](r:Tw.RND):bX Tz.prog 55 [Tw.dR r] (.tup [.int .i64 (ciR r),.int .i64 (ceR r)]) true:=
 O7 r.bD r.os r.wt r.zs r.fj.2.2.2.1 r.fj.2.2.2.2.1 r.fj.2.2.2.2.2.1 r.fj.2.2.2.2.2.2 r.fj.1 r.fj.2.1 r.fj.2.2.1
theorem GZ{α:Type}{E:Nat->α->Int}{l:List α}{k:Nat}{T:Int×Int}(h:(gU E l k T).2=0):gU E l k T=T:=by
 unfold gU at h ⊢;split
 .rename_i h1;rw[cu h1] at h;exact absurd h h1
 .rfl
theorem lim(r:Tw.RND)(h:ceR r=0):r.os.length<=1000/\r.zs.length<=64/\r.bD.length<=1000:=by
 unfold ceR iV at h;split at h
 .simp at h
 split at h
 .rename_i h2;exact absurd h h2
 split at h
 .simp at h
 split at h
 .rename_i h2;exact absurd h h2
 split at h
 .simp at h
 rename_i h1 _ h3 _ _;rw[GZ h] at h;unfold iU at h;split at h
 .simp at h
 rename_i h6;omega
theorem Cv:@Tw.pC Tz.prog Tz.xfZ Tz.L0 Tz.oC ciR ceR true:=Tz.Cv (λr=>@chk Tz.L0 r) lim
@[reducible] noncomputable def LD:bE:=Tz.L1 ceR
theorem ou(K:je):@rY Tz.xfZ LD.toEnvD Tz.prog Tryz.prog K:=@Tw.SY Tz.prog Tz.xfZ Tz.L0 Tz.oC ciR ceR true K Cv
theorem rK:@qD Tz.xfZ LD.toEnvD Tz.prog Tryz.prog Tz.oC:=Tz.IU LD.toEnvD (λ_ _ _ _ h=>h.1) (λw t d=>⟨rfl,rfl,bU _,λ_ _=>rfl⟩)
theorem qI(r:Tw.RND):@bX LD Tz.prog 69 [Tw.dR r] (Tw.mB ceR r) false:=Tz.qI ceR r
end Go.Proofs.YthpkmilhiganjaaGreat
namespace Go.Proofs.YthpkmilhiganjaaGreat
open Go Go.Fi
variable[bE]
def jj:Nat->Int
 |0=>1000000
 |k+1=>jj k*10
@[simp]theorem Zt:jj 0=1000000:=rfl
theorem O8(k:Nat)(h:k<=6):0<=jj k/\jj k<=1000000000000:=by
 obtain rfl|rfl|rfl|rfl|rfl|rfl|rfl:k=0\/k=1\/k=2\/k=3\/k=4\/k=5\/k=6:=by omega
 all_goals decide
theorem I4(p:Nat)(hp:p<=6):bX Tz.prog 116 [.int .i64 p] (.int .i64 (jj p)) true:=by
 refine rcK Tz.func116 ?_;simp only[Tryz.results116,Tryz.ntmps116]
 repeat' first|(with_reducible first|apply bI|apply bH|intro _)|simp[*]
 refine fH (λ(k:Nat)=>k<=p) [4] (λ(k:Nat)=>[(5,.w false false (.int .i64 k)),(3,.w false false (.int .i64 (jj k)))]) [] (λ(k:Nat)=>[]) (λ(k:Nat)=>p-k) (λ(_u:Unit)=>True) [] (λ(_u:Unit)=>[(3,.w false false (.int .i64 (jj p)))]) [] (λ(_u:Unit)=>[]) (0) (cG _) ae ae (λk hk=>?_) (λ_u hf=>?_)
 .by_cases h8:k<p
  .have hb:=O8 k ab;have e:jj (k+1)=jj k*10:=rfl;generalize jj k=n at hb e
   repeat' first|(with_reducible first|apply bI|apply A9|apply cg|apply bH|apply bP|refine And.intro ?_ ?_|intro _)|simp[*,h8]
   all_goals first
    |omega
    |exact db ab ab
    |(refine nx (k+1) ?_ ?_;(· omega);(refine cY ?_ ?_<;>first|trivial|(simp[*,e];done)))
  .have h9:k=p:=ab
   subst h9
   repeat' first|(with_reducible first|apply bI|apply dg|apply bH|apply bP|intro _)|simp[*]
   all_goals first
    |omega
    |(refine dQ () ?_ ?_;(· trivial);(refine cY ?_ ?_<;>first|trivial|(simp[*];done)))
 .repeat' first|(with_reducible first|apply bI|apply bV|apply bH|intro _)|simp[*]
end Go.Proofs.YthpkmilhiganjaaGreat
namespace Go.Proofs.YthpkmilhiganjaaGreat
open Go Go.Fi
structure Rd where
 bD:List Car
 os:List Ord
 wt:List (List Int)
 zs:List Par
 fit:List (List Bool)
def To(l:List Bool):List PV:=l.map PV.bool
def Tp(l:List Bool):PV:=.sl l.length (To l)
def CG(f:List (List Bool)):List PV:=f.map Tp
def Rd.pv(x:Rd):PV:=.ip [.sl x.bD.length (di x.bD),.sl x.os.length (dh x.os),.sl x.wt.length (dH x.wt),.sl x.zs.length (dc x.zs),.sl x.fit.length (CG x.fit)] 0
noncomputable def ni(r:Tw.RND):Rd:=⟨r.bD,r.os,r.wt,r.zs,(List.range r.os.length).map (Tw.qG r)⟩
theorem O9(r:Tw.RND):Tw.se r=.sl (ni r).fit.length (CG (ni r).fit):=by
 unfold Tw.se ni CG;simp only[jq,sH,qW];rfl
theorem xc(r:Tw.RND)(h:ceR r=0):Tw.mB ceR r=.tup [(ni r).pv,.int .i64 0]:=by
 unfold Tw.mB;rw[cu h,O9];rfl
theorem Pa(r:Tw.RND)(h:ceR r≠0):Tw.mB ceR r=.tup [.gN,.int .i64 (ceR r)]:=by
 unfold Tw.mB;rw[bN h]
variable[bE]
theorem Pb(l:List Int)(hl:l.length<100000)(v:Int):bX Tz.prog 166 [.sl l.length (ints l),.int .i64 v] (.int .i64 (idxOf (λy=>decide (v=y)) l)) true:=by
 generalize hR:idxOf (λy=>decide (v=y)) l=R;have kR:dp (gT (λy=>decide (v=y)) l 0=R):=keep hR;clear hR;refine rcK Tz.func166 ?_;simp only[Tryz.results166,Tryz.ntmps166]
 repeat' first|(with_reducible first|apply bI|apply bH|intro _)|simp[*]
 refine fH (λ(k:Nat)=>k<=l.length/\gT (λy=>decide (v=y)) (l.drop k) k=R) [0,1,7] (λ(k:Nat)=>[(8,.w false false (.int .i64 k))]) [] (λ(k:Nat)=>[]) (λ(k:Nat)=>l.length-k) (λ(_u:Unit)=>R=-1) [] (λ(_u:Unit)=>[]) [] (λ(_u:Unit)=>[]) (0) ⟨cG _,kR⟩ ae ae (λk hk=>?_) (λ_u hf=>?_)
 .obtain⟨hk,hj⟩:=hk;by_cases h8:k<l.length
  .have h5:=hj;rw[gb l k h8] at h5;unfold gT at h5;have kj:=keep h5;clear hj h5
   repeat' first|(with_reducible first|apply bI|apply dk|apply cg|apply bV|apply bH|apply bP|refine And.intro ?_ ?_|refine j0 ?_ ?_|intro _)|simp[*,h8]
   all_goals first
    |omega
    |exact db ab ab
    |(rename_i hp;rw[cu aT] at kj;exact kj)
    |(rename_i hp;rw[bN aT] at kj;(refine nx (k+1) ?_ ?_;(· exact⟨ab,kj⟩);(refine cY ?_ ?_<;>first|trivial|(simp[*];done))))
  .have h9:k=l.length:=ab
   subst h9
   repeat' first|(with_reducible first|apply bI|apply dg|apply bH|apply bP|intro _)|simp[*]
   all_goals (refine dQ () ?_ ?_;(· rw[<-hj,kI];rfl);(refine cY ?_ ?_<;>first|trivial|(simp[*];done)))
 .subst hf
  repeat' first|(with_reducible first|apply bI|apply bV|apply bH|intro _)|simp[*]
theorem rD(l:List Int)(hl:l.length<100000)(v:Int):bX Tz.prog 123 [.sl l.length (ints l),.int .i64 v] (.bool (l.any λy=>decide (v=y))) true:=by
 have c1:=Pb l hl v;have h:=ug (λy=>decide (v=y)) l;generalize idxOf (λy:Int=>decide (v=y)) l=i at *;rw[<-h];clear h;refine rcK Tz.func123 ?_;simp only[Tryz.results123,Tryz.ntmps123]
 repeat' first|(with_reducible first|apply bI|apply bV|apply bH|refine And.intro ?_ ?_|intro _)|simp[*]|(refine bJ (c1) ?_ ?_;· simp[*];done)
end Go.Proofs.YthpkmilhiganjaaGreat
namespace Go.Proofs.YthpkmilhiganjaaGreat
open Go Go.Fi
variable[bE]
def mL:Tw.RND where
 bD:=[(⟨#[97]⟩,4,false),(⟨#[98]⟩,4,false)]
 os:=[(⟨#[112]⟩,1,false,0),(⟨#[113]⟩,1,false,0)]
 wt:=[[100,200],[150,400]]
 zs:=[]
 fj:=by
  refine⟨?_,?_,?_,af,af,af,af⟩
  .intro c hc;simp only[dU,mQ,or_false] at hc
   rcases hc with rfl|rfl<;>decide
  .intro c hc;simp only[dU,mQ,or_false] at hc
   rcases hc with rfl|rfl<;>decide
  .intro c hc;simp only[dU,mQ,or_false] at hc
   rcases hc with rfl|rfl<;>decide
theorem Tq:bX Tz.prog 68 [] (.agg [.sl 2 [.str ⟨#[97]⟩,.int .i64 4,.bool false,.str ⟨#[98]⟩,.int .i64 4,.bool false],.sl 2 [.str ⟨#[112]⟩,.int .i64 1,.bool false,.int .i64 0,.str ⟨#[113]⟩,.int .i64 1,.bool false,.int .i64 0],.sl 2 [.sl 2 [.int .i64 100,.int .i64 200],.sl 2 [.int .i64 150,.int .i64 400]],.sl 0 []]) false:=by
 refine rcK Tz.func68 ?_;simp only[Tryz.results68,Tryz.ntmps68]
 repeat' first|(with_reducible first|apply bI|apply bV|apply bH|intro _)|simp[*]
theorem qo:Tw.dR mL=.agg [.sl 2 [.str ⟨#[97]⟩,.int .i64 4,.bool false,.str ⟨#[98]⟩,.int .i64 4,.bool false],.sl 2 [.str ⟨#[112]⟩,.int .i64 1,.bool false,.int .i64 0,.str ⟨#[113]⟩,.int .i64 1,.bool false,.int .i64 0],.sl 2 [.sl 2 [.int .i64 100,.int .i64 200],.sl 2 [.int .i64 150,.int .i64 400]],.sl 0 []]:=rfl
end Go.Proofs.YthpkmilhiganjaaGreat
