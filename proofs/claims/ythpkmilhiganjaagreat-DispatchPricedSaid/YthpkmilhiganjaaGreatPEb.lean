/- Lemmas. -/
import Derived.Test.YthpkmilhiganjaaGreatPEa
import Derived.Test.YthpkmilhiganjaaGreatPLg
set_option linter.unusedSimpArgs false
set_option linter.unusedVariables false
set_option linter.unusedSectionVars false
set_option maxHeartbeats 32000000
set_option maxRecDepth 100000
namespace Go.Proofs.YthpkmilhiganjaaGreat
open Go Go.Fi
noncomputable instance instLD19:ar:=LD
def bB(n:Int):Bool:=!aL n (-100000000000000) 100000000000000
def bA(n:Int):Bool:=!aL n 0 100000000000000
def ah(l:List Int):Nat→Int
 |0=>0
 |k+1=>ah l k+nth l k
@[simp] theorem l9(l:List Int):ah l 0=0:=rfl
theorem cp(l:List Int)(m:Int)(hm:0≤m):∀k,(∀j,j<k→-m≤nth l j∧nth l j≤m)→-(m*k)≤ah l k∧ah l k≤m*k
 |0,_=>by simp
 |k+1,h=>by
  obtain⟨h1,h2⟩:=cp l m hm k fun j hj=>h j (by omega)
  obtain⟨h3,h4⟩:=h k (by omega)
  have e:m*((k+1:Nat):Int)=m*k+m:=by rw[Int.natCast_add,Int.mul_add];simp
  rw[e];unfold ah;omega
def bC(x:Rd)(pc:List Int):List Int→Nat→Bool
 |[],_=>false
 |n::r,k=>decide (cq x k pc<n) || bC x pc r (k+1)
def cm(x:Rd)(po pc:List Int):Int×Int:=
 if po.any bB=true then (0,2) else if pc.any bA=true then (0,2) else if bC x pc po 0=true then (0,20) else (ah po po.length-ah pc pc.length,0)
theorem kz(r:Tw.RND)(po pc:List Int)(h:ceR r=0)(hpo:po.length=r.os.length)(hpc:pc.length=r.ab.length):aA Tz.prog 17 [Tw.aR r,.agg [.sl po.length (ints po),.sl pc.length (ints pc)]] (.tup [.int .i64 (cm (al r) po pc).1,.int .i64 (cm (al r) po pc).2]) false:=by
 have ok:=ej r h;have c1:=cQ r;rw[fe r h] at c1;generalize hR:cm (al r) po pc=R;obtain⟨R1,R2⟩:=R;unfold cm at hR;have kR:=keep hR;have kok:=keep ok;have c2:=hZ 0 (aU true 10);rw[show bL [0,aU true 10]=0 from rfl,show aU true 10=0 from rfl] at c2;have c3:=cH true 10;rw[show aU true 10=0 from rfl] at c3;clear hR ok h;unfold Tw.aR Tw.RND.bS Tw.RND.osP Tw.RND.bU Tw.RND.zsP at *;generalize hx:al r=x at *;obtain⟨cs,hcs⟩:∃cs,x.pv=.ip cs 0:=⟨_,rfl⟩;rw[hcs] at c1;rw[←hpo,←hpc] at c1 ⊢
 have hlo:po.length≤8:=by have:=kok.lo;rw[←hx] at this;have e:(al r).os.length=r.os.length:=rfl;omega
 have hlc:pc.length≤8:=by have:=kok.lc;rw[←hx] at this;have e:(al r).ab.length=r.ab.length:=rfl;omega
 have hlo2:=keep hlo;have hlc2:=keep hlc;have kpo:=keep hpo;have kpc:=keep hpc;clear hlo hlc hpo hpc;refine rcK Tz.func17 ?_;simp only[Tryz.results17,Tryz.ntmps17]
 repeat' (first|(with_reducible first|refine af ?_|refine av ?_|refine ae ?_|refine ak ?_|refine And.intro ?_ ?_|refine cw (c1) ?_|refine cw (c2) ?_|refine cw (c3) ?_|intro _)|(simp[*])|(refine ai (c1) ?_ ?_;(· (simp[*];done)))|(refine ai (c2) ?_ ?_;(· (simp[*];done)))|(refine ai (c3) ?_ ?_;(· (simp[*];done))))
 clear c1 c2 c3;generalize hA:po.any bB=A at kR;have kA:aI ((po.drop 0).any bB=A):=hA;clear hA;refine bF (fun(k:Nat)=>k≤po.length∧(po.drop k).any bB=A∧aI (∀j,j<k→-100000000000000≤nth po j∧nth po j≤100000000000000)) [3,6,44,45] (fun(k:Nat)=>[(46,.w false false (.int .i64 k)),(8,.w false false (.int .i64 (ah po k)))]) [1] (fun(k:Nat)=>[]) (fun(k:Nat)=>po.length-k) (fun(_u:Unit)=>A=false∧aI (∀j,j<po.length→-100000000000000≤nth po j∧nth po j≤100000000000000)) [3,6] (fun(_u:Unit)=>[(8,.w false false (.int .i64 (ah po po.length)))]) [1] (fun(_u:Unit)=>[]) (0) ⟨Nat.zero_le _,kA,keep (fun j hj=>absurd hj (Nat.not_lt_zero j))⟩ (by simp) (by simp) (fun k hk=>?_) (fun _u hf=>?_)
 ·obtain⟨hk,hj,hg⟩:=hk;by_cases hlt:k<po.length
  ·rw[b8 po k hlt,List.any_cons] at hj;have w:=dL (nth po k) (-100000000000000) 100000000000000;obtain⟨b1,b2⟩:=cp po 100000000000000 (by decide) k hg
   have h8:(k:Int)<8:=by have:=hlo2;unfold aI at this;omega
   cases hw:aL (nth po k) (-100000000000000) 100000000000000 with
   |true=>
    rw[hw] at w;have hb:=bW.1 hw
    have hj2:(po.drop (k+1)).any bB=A:=by rw[←hj];unfold bB;rw[hw];rfl
    have kj:=keep hj2
    have hg2:aI (∀j,j<k+1→-100000000000000≤nth po j∧nth po j≤100000000000000):=fun j hj=>by
     rcases Nat.lt_succ_iff_lt_or_eq.1 hj with h|rfl
     ·exact hg j h
     ·exact hb
    have hi2:inI .i64 (ah po k+nth po k):=aF (by omega) (by omega);have hi1:inI .i64 ((k:Int)+1):=aF (by omega) (by omega);have es:ah po (k+1)=ah po k+nth po k:=rfl
    have hz:k+1≤po.length:=by omega
    clear hj hj2 hb hw b1 b2 h8 hg
    repeat' (first|(with_reducible first|refine af ?_|refine aD ?_|refine av ?_|refine ae ?_|refine ak ?_|refine And.intro ?_ ?_|refine cw (w) ?_|intro _)|(simp[*,hlt,hi1,hi2])|(refine ai (w) ?_ ?_;(· (simp[*];done))))
    all_goals first
     |omega
     |assumption
     |(refine nx (k+1) ?_ ?_;(· exact⟨hz,kj,hg2⟩);(refine aB ?_ ?_<;>first|trivial|(simp[*,es];done)))
   |false=>
    rw[hw] at w
    have hA:A=true:=by rw[←hj];unfold bB;rw[hw];rfl
    subst hA;have kr2:aI (((0:Int),(2:Int))=(R1,R2)):=kR;clear hj hw b1 b2 h8 hg kR
    repeat' (first|(with_reducible first|refine af ?_|refine aD ?_|refine av ?_|refine az ?_|refine ae ?_|refine ak ?_|refine And.intro ?_ ?_|refine cw (w) ?_|intro _)|(simp[*,hlt])|(refine ai (w) ?_ ?_;(· (simp[*];done))))
    all_goals first
     |omega
     |exact (Prod.mk.inj kr2).1
     |exact (Prod.mk.inj kr2).2
  ·have hke:k=po.length:=by omega
   rw[show po.drop k=[] from List.drop_eq_nil_of_le (by omega)] at hj;have kj:aI (false=A):=hj
   have hg2:aI (∀j,j<po.length→-100000000000000≤nth po j∧nth po j≤100000000000000):=by rw[←hke];exact hg
   have es:ah po k=ah po po.length:=by rw[hke]
   clear hj hg hke
   repeat' (first|(with_reducible first|refine af ?_|refine aJ ?_|refine ae ?_|refine ak ?_|intro _)|(simp[*,hlt]))
   all_goals first
    |omega
    |(refine aT () ?_ ?_;(· first|exact⟨Eq.symm kj,hg2⟩|exact Eq.symm kj);(refine aB ?_ ?_<;>first|trivial|(simp[*,es];done)))
 ·obtain⟨rfl,hg⟩:=hf;have kg:=keep hg;have kR2:aI ((if pc.any bA=true then ((0:Int),(2:Int)) else if bC x pc po 0=true then (0,20) else (ah po po.length-ah pc pc.length,0))=(R1,R2)):=kR;have bs:=cp po 100000000000000 (by decide) po.length hg;generalize ah po po.length=so at bs kR2 ⊢
  have kbs:aI (-800000000000000≤so∧so≤800000000000000):=by have:=hlo2;unfold aI at this ⊢;omega
  generalize hA2:pc.any bA=A2 at kR2;have kA2:aI ((pc.drop 0).any bA=A2):=hA2;clear hg kR kA hA2 bs
  repeat' (first|(with_reducible first|refine af ?_|refine ae ?_|intro _)|(simp[*]))
  refine bF (fun(k:Nat)=>k≤pc.length∧(pc.drop k).any bA=A2∧aI (∀j,j<k→0≤nth pc j∧nth pc j≤100000000000000)) [3,6,58,59] (fun(k:Nat)=>[(60,.w false false (.int .i64 k)),(8,.w false false (.int .i64 (so-ah pc k)))]) [1] (fun(k:Nat)=>[]) (fun(k:Nat)=>pc.length-k) (fun(_u:Unit)=>A2=false∧aI (∀j,j<pc.length→0≤nth pc j∧nth pc j≤100000000000000)) [3,6] (fun(_u:Unit)=>[(8,.w false false (.int .i64 (so-ah pc pc.length)))]) [1] (fun(_u:Unit)=>[]) (0) ⟨Nat.zero_le _,kA2,keep (fun j hj=>absurd hj (Nat.not_lt_zero j))⟩ (by simp) (by simp) (fun k hk=>?_) (fun _u hf=>?_)
  ·obtain⟨hk,hj,hg⟩:=hk;by_cases hlt:k<pc.length
   ·rw[b8 pc k hlt,List.any_cons] at hj;have w:=dL (nth pc k) 0 100000000000000;obtain⟨b1,b2⟩:=cp pc 100000000000000 (by decide) k (fun j hj=>by have:=hg j hj;omega)
    have h8:(k:Int)<8:=by have:=hlc2;unfold aI at this;omega
    cases hw:aL (nth pc k) 0 100000000000000 with
    |true=>
     rw[hw] at w;have hb:=bW.1 hw
     have hj2:(pc.drop (k+1)).any bA=A2:=by rw[←hj];unfold bA;rw[hw];rfl
     have kj:=keep hj2
     have hg2:aI (∀j,j<k+1→0≤nth pc j∧nth pc j≤100000000000000):=fun j hj=>by
      rcases Nat.lt_succ_iff_lt_or_eq.1 hj with h|rfl
      ·exact hg j h
      ·exact hb
     have hso:-800000000000000≤so∧so≤800000000000000:=kbs;have hi2:inI .i64 (so-ah pc k-nth pc k):=aF (by omega) (by omega);have hi1:inI .i64 ((k:Int)+1):=aF (by omega) (by omega)
     have es:so-ah pc (k+1)=so-ah pc k-nth pc k:=by rw[show ah pc (k+1)=ah pc k+nth pc k from rfl];omega
     have hz:k+1≤pc.length:=by omega
     clear hj hj2 hb hw b1 b2 h8 hg hso
     repeat' (first|(with_reducible first|refine af ?_|refine aD ?_|refine av ?_|refine ae ?_|refine ak ?_|refine And.intro ?_ ?_|refine cw (w) ?_|intro _)|(simp[*,hlt,hi1,hi2])|(refine ai (w) ?_ ?_;(· (simp[*];done))))
     all_goals first
      |omega
      |assumption
      |(refine nx (k+1) ?_ ?_;(· exact⟨hz,kj,hg2⟩);(refine aB ?_ ?_<;>first|trivial|(simp[*,es];done)))
    |false=>
     rw[hw] at w
     have hA:A2=true:=by rw[←hj];unfold bA;rw[hw];rfl
     subst hA;have kr2:aI (((0:Int),(2:Int))=(R1,R2)):=kR2;clear hj hw b1 b2 h8 hg kR2
     repeat' (first|(with_reducible first|refine af ?_|refine aD ?_|refine av ?_|refine az ?_|refine ae ?_|refine ak ?_|refine And.intro ?_ ?_|refine cw (w) ?_|intro _)|(simp[*,hlt])|(refine ai (w) ?_ ?_;(· (simp[*];done))))
     all_goals first
      |omega
      |exact (Prod.mk.inj kr2).1
      |exact (Prod.mk.inj kr2).2
   ·have hke:k=pc.length:=by omega
    rw[show pc.drop k=[] from List.drop_eq_nil_of_le (by omega)] at hj;have kj:aI (false=A2):=hj
    have hg2:aI (∀j,j<pc.length→0≤nth pc j∧nth pc j≤100000000000000):=by rw[←hke];exact hg
    have es:ah pc k=ah pc pc.length:=by rw[hke]
    clear hj hg hke
    repeat' (first|(with_reducible first|refine af ?_|refine aJ ?_|refine ae ?_|refine ak ?_|intro _)|(simp[*,hlt]))
    all_goals first
     |omega
     |(refine aT () ?_ ?_;(· first|exact⟨Eq.symm kj,hg2⟩|exact Eq.symm kj);(refine aB ?_ ?_<;>first|trivial|(simp[*,es];done)))
  ·obtain⟨rfl,hg⟩:=hf;have kg2:=keep hg;have kR3:aI ((if bC x pc po 0=true then ((0:Int),(20:Int)) else (so-ah pc pc.length,0))=(R1,R2)):=kR2;generalize so-ah pc pc.length=d at kR3 ⊢;generalize hA3:bC x pc po 0=A3 at kR3;have kA3:aI (bC x pc (po.drop 0) 0=A3):=hA3;have kx:=keep hx;have kcs:=keep hcs;clear hg kR2 kA2 hA3 hx hcs
   repeat' (first|(with_reducible first|refine af ?_|refine ae ?_|intro _)|(simp[*]))
   refine bF (fun(k:Nat)=>k≤po.length∧bC x pc (po.drop k) k=A3) [3,6,8,72,73] (fun(k:Nat)=>[(74,.w false false (.int .i64 k))]) [1] (fun(k:Nat)=>[]) (fun(k:Nat)=>po.length-k) (fun(_u:Unit)=>A3=false) [8] (fun(_u:Unit)=>[]) [1] (fun(_u:Unit)=>[]) (0) ⟨Nat.zero_le _,kA3⟩ (by simp) (by simp) (fun k hk=>?_) (fun _u hf=>?_)
   ·obtain⟨hk,hj⟩:=hk;by_cases hlt:k<po.length
    ·rw[b8 po k hlt] at hj;unfold bC at hj
     have e1:x.os.length=po.length:=by rw[←show al r=x from kx];exact (show po.length=r.os.length from kpo).symm
     have e2:x.ab.length=pc.length:=by rw[←show al r=x from kx];exact (show pc.length=r.ab.length from kpc).symm
     have o:=kok
     have hko:k<x.os.length:=by omega
     have hcl:x.ab.length<100000:=by have:=o.lc;omega
     have c:=ku x k pc hko hcl (by have:=o.lf;omega) (by have:=o.lw;omega) (o.fr k hko) (o.wr k hko) e2.symm (o.pr k hko) (o.wn k hko) (fun j hj=>by have:=kg2 j (by omega);omega);rw[show x.pv=.ip cs 0 from kcs] at c;generalize cq x k pc=q at hj c;have kj:=keep hj
     have h8:(k:Int)<8:=by have:=hlo2;unfold aI at this;omega
     have hi1:inI .i64 ((k:Int)+1):=aF (by omega) (by omega);clear hj e1 e2 o hko hcl h8
     repeat' (first|(with_reducible first|refine af ?_|refine aD ?_|refine av ?_|refine az ?_|refine ae ?_|refine ak ?_|refine And.intro ?_ ?_|refine dO ?_ ?_|refine cw (c) ?_|intro _)|(simp[*,hlt,hi1])|(refine ai (c) ?_ ?_;(· (simp[*];done))))
     all_goals first
      |omega
      |assumption
      |(rename_i hq
        have hA:A3=true:=by rw[←show _=A3 from kj,decide_eq_true hq,Bool.true_or]
        subst hA
        first|exact (Prod.mk.inj (show ((0:Int),(20:Int))=(R1,R2) from kR3)).1|exact (Prod.mk.inj (show ((0:Int),(20:Int))=(R1,R2) from kR3)).2)
      |(rename_i hq
        have kj2:aI (bC x pc (po.drop (k+1)) (k+1)=A3):=by
         show _=_;rw[←show _=A3 from kj,decide_eq_false hq,Bool.false_or]
        clear kj hq
        (refine nx (k+1) ?_ ?_;(· exact⟨by omega,kj2⟩);(refine aB ?_ ?_<;>first|trivial|(simp[*];done))))
    ·have hke:k=po.length:=by omega
     rw[show po.drop k=[] from List.drop_eq_nil_of_le (by omega)] at hj;have kj:aI (false=A3):=hj;clear hj hke
     repeat' (first|(with_reducible first|refine af ?_|refine aJ ?_|refine ae ?_|refine ak ?_|intro _)|(simp[*,hlt]))
     all_goals first
      |omega
      |(refine aT () ?_ ?_;(· exact Eq.symm kj);(refine aB ?_ ?_<;>first|trivial|(simp[*];done)))
   ·subst hf;have kr:aI ((d,(0:Int))=(R1,R2)):=kR3;clear kR3
    repeat' (first|(with_reducible first|refine af ?_|refine az ?_|refine ae ?_|refine And.intro ?_ ?_|intro _)|(simp[*]))
    all_goals first
     |exact (Prod.mk.inj kr).1
     |exact (Prod.mk.inj kr).2
end Go.Proofs.YthpkmilhiganjaaGreat
namespace Go.Proofs.YthpkmilhiganjaaGreat
open Go Go.Fi
variable[ar]
def prio(x:Rd)(i:Nat):Nat:=(nth x.os i).2.2.2.toNat
def eG(x:Rd):Nat→Int
 |0=>0
 |k+1=>eG x k+bf (prio x k)
@[simp] theorem mi(x:Rd):eG x 0=0:=rfl
structure lU(x:Rd)(plan:List Int):Prop where
 len:plan.length=x.os.length
 at_:∀k,k<plan.length→nth plan k=-1∨(0≤nth plan k∧nth plan k<(x.ab.length:Int))
def iA(l:List Int):List AV:=(ints l).map (AV.w false false)
@[simp] theorem ml(l:List Int):(iA l).length=l.length:=by simp[iA]
@[simp] theorem nn(l:List Int)(n:Nat):AV.lt.ltL n (iA l)=true:=mZ n false false (ints l)
@[simp] theorem mz{D:List Nat}{h:aj}{n n':Nat}(l:List Int):fD D h n n' (iA l) (iA l)=True:=eq_true (lJ false false _)
@[simp high] theorem mC(h:aj)(d:Nat)(l:List Int):(iA l).mapM (frz h d)=some (ints l):=tJ h d false false (ints l)
@[simp] theorem eA:∀l:List Int,dE (ints l)=true
 |[]=>rfl
 |x::r=>by have:=eA r;simpa[ints,dE,flat] using this
@[simp high] theorem mH(h:aj)(d:Nat)(l:List Int):(iA l).all (db h d)=true:=qe h d false false (ints l) (eA l)
@[simp] theorem kC(a b:List Int):iA a++iA b=iA (a++b):=by simp[iA,ints]
def cn(ab:List Car)(os:List Ord)(zs:List Par)(i k:Nat):Bool:=
 (decide ((nth os i).2.1≤(nth ab k).2.1)&&((nth ab k).2.2 || !(nth os i).2.2.1)) && !hasB zs ((i:Int),(k:Int))
theorem eL(r:Tw.RND)(i k:Nat)(hi:i<r.os.length)(hk:k<r.ab.length):nth (nth (al r).fit i) k=cn r.ab r.os r.zs i k:=by
 have e1:nth (al r).fit i=Tw.iV r i:=by
  unfold al;simp[nth,List.getD_eq_getElem?_getD,hi]
 have e2:nth (Tw.iV r i) k=Tw.yQ (Tw.odW (Tw.odR r) i 0 0 0) k:=by
  show nth ((List.range r.ab.length).map _) k=_;simp[nth,List.getD_eq_getElem?_getD,hk]
 rw[e1,e2]
 have e3:Tw.nu r.zs (i:Int) (k:Int)=hasB r.zs ((i:Int),(k:Int)):=by
  unfold Tw.nu hasB;congr 1
  funext z
  obtain⟨a,b⟩:=z;rw[Bool.eq_iff_iff];simp only[beq_iff_eq,Prod.mk.injEq,Bool.and_eq_true,decide_eq_true_eq];exact⟨fun h=>⟨h.1.symm,h.2.symm⟩,fun h=>⟨h.1.symm,h.2.symm⟩⟩
 show ((decide (((r.ab.getD k (default,0,false)).2.1)≥(r.os.getD i (default,0,false,0)).2.1)&&((r.ab.getD k (default,0,false)).2.2 || !(r.os.getD i (default,0,false,0)).2.2.1))&&(!Tw.nu r.zs i k))=_;rw[e3]
 have h1:r.ab.getD k (default,0,false)=nth r.ab k:=by simp[nth,List.getD_eq_getElem?_getD,hk]
 have h2:r.os.getD i (default,0,false,0)=nth r.os i:=by simp[nth,List.getD_eq_getElem?_getD,hi]
 rw[h1,h2];rfl
theorem kF(ab:List Car)(os:List Ord)(wt:List (List Int))(zs:List Par)(i k:Nat)(hi:i<os.length)(hk:k<ab.length)(hz:zs.length<100000):aA Tz.prog 60 [.agg [.sl ab.length (aQ ab),.sl os.length (aP os),.sl wt.length (aZ wt),.sl zs.length (aS zs)],.int .i64 i,.int .i64 k] (.bool (cn ab os zs i k)) true:=by
 have c1:=ez zs hz ((i:Int),(k:Int));unfold Tw.bH at c1;unfold cn;generalize hasB zs ((i:Int),(k:Int))=g at *;by_cases h1:(nth os i).2.1≤(nth ab k).2.1
 ·rw[decide_eq_true h1]
  cases h2:(nth ab k).2.2 with
  |true=>
   simp only[Bool.true_or,Bool.true_and];refine rcK Tz.func60 ?_;simp only[Tryz.results60,Tryz.ntmps60]
   repeat' (first|(with_reducible first|refine af ?_|refine az ?_|refine ae ?_|refine jk (id:=1) [0,1,2,3,4,5,6,7,8,9,10,11] [12,13] [[],[],[],[],[],[.new 0],[.new 0],[.new 0],[.new 0],[.new 0],[],[]] [[.new 0],[.new 1]] mixed (by decide +kernel) ?_|refine And.intro ?_ ?_|refine cw (c1) ?_|intro _)|(simp[*,hi,hk,h1,h2,Tw.cj,Tw.bG,Tw.bH])|(refine ai (c1) ?_ ?_;(· (simp[*];done))))
   all_goals first|omega
  |false=>
   cases h3:(nth os i).2.2.1 with
   |true=>
    simp only[Bool.not_true,Bool.or_false,Bool.and_false,Bool.false_and];refine rcK Tz.func60 ?_;simp only[Tryz.results60,Tryz.ntmps60]
    repeat' (first|(with_reducible first|refine af ?_|refine az ?_|refine ae ?_|refine jk (id:=1) [0,1,2,3,4,5,6,7,8,9,10,11] [12,13] [[],[],[],[],[],[.new 0],[.new 0],[.new 0],[.new 0],[.new 0],[],[]] [[.new 0],[.new 1]] mixed (by decide +kernel) ?_|refine And.intro ?_ ?_|intro _)|(simp[*,hi,hk,h1,h2,h3,Tw.cj,Tw.bG,Tw.bH])|(refine ai (c1) ?_ ?_;(· (simp[*];done))))
    all_goals first|omega
   |false=>
    simp only[Bool.not_false,Bool.or_true,Bool.true_and];refine rcK Tz.func60 ?_;simp only[Tryz.results60,Tryz.ntmps60]
    repeat' (first|(with_reducible first|refine af ?_|refine az ?_|refine ae ?_|refine jk (id:=1) [0,1,2,3,4,5,6,7,8,9,10,11] [12,13] [[],[],[],[],[],[.new 0],[.new 0],[.new 0],[.new 0],[.new 0],[],[]] [[.new 0],[.new 1]] mixed (by decide +kernel) ?_|refine And.intro ?_ ?_|refine cw (c1) ?_|intro _)|(simp[*,hi,hk,h1,h2,h3,Tw.cj,Tw.bG,Tw.bH])|(refine ai (c1) ?_ ?_;(· (simp[*];done))))
    all_goals first|omega
 ·rw[decide_eq_false h1];simp only[Bool.false_and];refine rcK Tz.func60 ?_;simp only[Tryz.results60,Tryz.ntmps60]
  repeat' (first|(with_reducible first|refine af ?_|refine az ?_|refine ae ?_|refine jk (id:=1) [0,1,2,3,4,5,6,7,8,9,10,11] [12,13] [[],[],[],[],[],[.new 0],[.new 0],[.new 0],[.new 0],[.new 0],[],[]] [[.new 0],[.new 1]] mixed (by decide +kernel) ?_|refine And.intro ?_ ?_|intro _)|(simp[*,hi,hk,h1,Tw.cj,Tw.bG,Tw.bH])|(refine ai (c1) ?_ ?_;(· (simp[*];done))))
  all_goals first|omega
def bd(ab:List Car)(os:List Ord)(zs:List Par)(i n:Nat):List Int:=((List.range n).filter (cn ab os zs i)).map fun k=>((k:Nat):Int)
theorem kG(ab:List Car)(os:List Ord)(zs:List Par)(i n:Nat):bd ab os zs i (n+1)=if cn ab os zs i n then bd ab os zs i n++[(n:Int)] else bd ab os zs i n:=by
 unfold bd;rw[List.range_succ,List.filter_append,List.map_append]
 cases h:cn ab os zs i n<;>simp[h]
theorem eB(ab:List Car)(os:List Ord)(zs:List Par)(i n:Nat):(bd ab os zs i n).length≤n:=by
 unfold bd;rw[List.length_map];exact Nat.le_trans (List.length_filter_le _ _) (by simp)
theorem kJ(ab:List Car)(os:List Ord)(wt:List (List Int))(zs:List Par)(i:Nat)(hi:i<os.length)(hc:ab.length≤1000)(hz:zs.length<100000):aA Tz.prog 59 [.agg [.sl ab.length (aQ ab),.sl os.length (aP os),.sl wt.length (aZ wt),.sl zs.length (aS zs)],.int .i64 i] (.sl (bd ab os zs i ab.length).length (ints (bd ab os zs i ab.length))) true:=by
 have c1:=fun k hk=>kF ab os wt zs i k hi hk hz
 have e0:bd ab os zs i 0=[]:=rfl;have eK:=kG ab os zs i;have hK:=eB ab os zs i;generalize bd ab os zs i=K at *;generalize cn ab os zs i=F at *;have kk:=keep (And.intro c1 (And.intro eK hK))
 have e1:(K 0).length=0:=by rw[e0];rfl
 have e2:iA (K 0)=[]:=by rw[e0];rfl
 clear c1 eK hK e0 hi hz;refine rcK Tz.func59 ?_;simp only[Tryz.results59,Tryz.ntmps59]
 repeat' (first|(with_reducible first|refine af ?_|refine ae ?_|intro _)|(simp[*]))
 refine cC 2 (fun(k:Nat)=>k≤ab.length) [1,2] (fun(k:Nat)=>[(5,.msl 1 (K k).length 1 0 (K k).length),(6,.w false false (.int .i64 k))]) [0] (fun(k:Nat)=>[(1,iA (K k))]) (fun(k:Nat)=>ab.length-k) (fun(_u:Unit)=>True) [] (fun(_u:Unit)=>[(5,.msl 1 (K ab.length).length 1 0 (K ab.length).length)]) [] (fun(_u:Unit)=>[(1,iA (K ab.length))]) (0) (Nat.zero_le _) (aO [] (by simp[e1,e2]) (by simp[e1,e2])) (fun k hk=>?_) (fun _u hf=>?_)
 ·clear e1 e2;by_cases hlt:k<ab.length
  ·obtain⟨c1,eK,hK⟩:=kk;have c:=c1 k hlt;have e:=eK k;have hi1:inI .i64 ((k:Int)+1):=aF (by omega) (by omega)
   have hz:k+1≤ab.length:=by omega
   have hb:=hK k
   have hb9:(K k).length+1≤1000000000:=by omega
   clear c1 eK hK
   cases hf:F k with
   |true=>
    rw[hf] at c e;rw[if_pos rfl] at e
    have e3:iA (K (k+1))=iA (K k)++[.w false false (.int .i64 k)]:=by rw[e,←kC];rfl
    have e4:(K (k+1)).length=(K k).length+1:=by rw[e];simp
    clear e hf
    repeat' (first|(with_reducible first|refine af ?_|refine aD ?_|refine av ?_|refine ae ?_|refine ak ?_|refine And.intro ?_ ?_|refine cw (c) ?_|intro _)|(simp[*,hlt,hi1])|(refine ai (c) ?_ ?_;(· (simp[*];done))))
    all_goals first
     |omega
     |assumption
     |(refine nx (k+1) ?_ ?_;(· exact hz);(refine aO [] ?_ ?_<;>first|trivial|(simp[*,e3,e4];done)))
   |false=>
    rw[hf] at c e;rw[if_neg (by decide)] at e;clear hf
    repeat' (first|(with_reducible first|refine af ?_|refine aD ?_|refine av ?_|refine ae ?_|refine ak ?_|refine And.intro ?_ ?_|refine cw (c) ?_|intro _)|(simp[*,hlt,hi1])|(refine ai (c) ?_ ?_;(· (simp[*];done))))
    all_goals first
     |omega
     |assumption
     |(refine nx (k+1) ?_ ?_;(· exact hz);(refine aO [] ?_ ?_<;>first|trivial|(simp[*,e];done)))
  ·have hke:k=ab.length:=by omega
   subst hke;clear kk
   repeat' (first|(with_reducible first|refine af ?_|refine aJ ?_|refine ae ?_|refine ak ?_|intro _)|(simp[*,hlt]))
   all_goals first
    |omega
    |(refine aT () ?_ ?_;(· trivial);(refine aB ?_ ?_<;>first|trivial|(simp[*];done)))
 ·clear kk e1 e2
  repeat' (first|(with_reducible first|refine af ?_|refine az ?_|refine ae ?_|intro _)|(simp[*]))
theorem kK(ab:List Car)(os:List Ord)(wt:List (List Int))(zs:List Par)(hc1:ab.length≤1000)(ho1:os.length≤1000)(hw1:wt.length<100000)(hz1:zs.length<100000)(hc:∀x∈ab,x.1.size<1000000)(ho:∀x∈os,x.1.size<1000000)(hw:∀x∈wt,x.length<100000):aA Tz.prog 20 [.agg [.sl ab.length (aQ ab),.sl os.length (aP os),.sl wt.length (aZ wt),.sl zs.length (aS zs)]] (.int .i64 (fG ab os wt zs).2) true:=by
 have c:=fb ab os wt zs hc1 ho1 hw1 hz1 hc ho hw;generalize fG ab os wt zs=R at *;clear hc ho hw;refine rcK Tz.func20 ?_;simp only[Tryz.results20,Tryz.ntmps20]
 repeat' (first|(with_reducible first|refine af ?_|refine az ?_|refine ae ?_|refine And.intro ?_ ?_|refine cw (c) ?_|intro _)|(simp[*])|(refine ai (c) ?_ ?_;(· (simp[*];done))))
end Go.Proofs.YthpkmilhiganjaaGreat
namespace Go.Proofs.YthpkmilhiganjaaGreat
open Go Go.Fi
noncomputable instance n5:ar:=LD
noncomputable def bZ(r:Tw.RND)(po pc:List Int):Int×Int:=
 if ceR r≠0 then (0,ceR r) else if ¬(po.length=r.os.length∧pc.length=r.ab.length) then (0,10) else cm (al r) po pc
theorem kO(r:Tw.RND)(po pc:List Int)(h:ceR r≠0):aA Tz.prog 17 [Tw.aR r,.agg [.sl po.length (ints po),.sl pc.length (ints pc)]] (.tup [.int .i64 0,.int .i64 (ceR r)]) false:=by
 have c1:=cQ r;rw[jo r h] at c1;generalize ceR r=e at *
 have f:∀b:Bool,aA Tz.prog 70 [.sl 2 [.int .i64 e,.int .i64 (aU b 10)]] (.int .i64 e) true:=fun b=>by
  have c:=hZ e (aU b 10);rw[show bL [e,aU b 10]=e by unfold bL;rw[if_neg h]] at c;exact c
 have u:=fun b=>cH b 10
 unfold Tw.aR Tw.RND.bS Tw.RND.osP Tw.RND.bU Tw.RND.zsP at *;by_cases h1:(po.length:Int)=r.os.length
 ·refine rcK Tz.func17 ?_;simp only[Tryz.results17,Tryz.ntmps17]
  repeat' (first|(with_reducible first|refine af ?_|refine az ?_|refine ae ?_|refine ak ?_|refine And.intro ?_ ?_|refine cw (c1) ?_|refine cw (f _) ?_|refine cw (u _) ?_|intro _)|(simp[*,h1])|(refine ai (c1) ?_ ?_;(· (simp[*];done)))|(refine ai (f _) ?_ ?_;(· (simp[*];done)))|(refine ai (u _) ?_ ?_;(· (simp[*];done))))
  all_goals first|omega
 ·refine rcK Tz.func17 ?_;simp only[Tryz.results17,Tryz.ntmps17]
  repeat' (first|(with_reducible first|refine af ?_|refine az ?_|refine ae ?_|refine ak ?_|refine And.intro ?_ ?_|refine cw (c1) ?_|refine cw (f _) ?_|refine cw (u _) ?_|intro _)|(simp[*,h1])|(refine ai (c1) ?_ ?_;(· (simp[*];done)))|(refine ai (f _) ?_ ?_;(· (simp[*];done)))|(refine ai (u _) ?_ ?_;(· (simp[*];done))))
  all_goals first|omega
theorem kP(r:Tw.RND)(po pc:List Int)(h:ceR r=0)(hl:¬(po.length=r.os.length∧pc.length=r.ab.length)):aA Tz.prog 17 [Tw.aR r,.agg [.sl po.length (ints po),.sl pc.length (ints pc)]] (.tup [.int .i64 0,.int .i64 10]) false:=by
 have c1:=cQ r;rw[fe r h] at c1;have f:=hZ 0 10;rw[show bL [0,10]=10 from rfl] at f;have u:=cH false 10;rw[show aU false 10=10 from rfl] at u;obtain⟨cs,hcs⟩:∃cs,(al r).pv=.ip cs 0:=⟨_,rfl⟩;rw[hcs] at c1;clear hcs h;unfold Tw.aR Tw.RND.bS Tw.RND.osP Tw.RND.bU Tw.RND.zsP at *;by_cases h1:po.length=r.os.length
 ·have h2:¬(pc.length:Int)=r.ab.length:=fun e=>hl ⟨h1,by omega⟩
  rw[h1];clear h1 hl;refine rcK Tz.func17 ?_;simp only[Tryz.results17,Tryz.ntmps17]
  repeat' (first|(with_reducible first|refine af ?_|refine az ?_|refine ae ?_|refine ak ?_|refine And.intro ?_ ?_|refine cw (c1) ?_|refine cw (f) ?_|refine cw (u) ?_|intro _)|(simp[*,h2])|(refine ai (c1) ?_ ?_;(· (simp[*];done)))|(refine ai (f) ?_ ?_;(· (simp[*];done)))|(refine ai (u) ?_ ?_;(· (simp[*];done))))
  all_goals first|omega
 ·have h2:¬(po.length:Int)=r.os.length:=by omega
  clear h1 hl;refine rcK Tz.func17 ?_;simp only[Tryz.results17,Tryz.ntmps17]
  repeat' (first|(with_reducible first|refine af ?_|refine az ?_|refine ae ?_|refine ak ?_|refine And.intro ?_ ?_|refine cw (c1) ?_|refine cw (f) ?_|refine cw (u) ?_|intro _)|(simp[*,h2])|(refine ai (c1) ?_ ?_;(· (simp[*];done)))|(refine ai (f) ?_ ?_;(· (simp[*];done)))|(refine ai (u) ?_ ?_;(· (simp[*];done))))
  all_goals first|omega
theorem kQ(r:Tw.RND)(po pc:List Int):aA Tz.prog 17 [Tw.aR r,.agg [.sl po.length (ints po),.sl pc.length (ints pc)]] (.tup [.int .i64 (bZ r po pc).1,.int .i64 (bZ r po pc).2]) false:=by
 unfold bZ;by_cases h:ceR r=0
 ·rw[if_neg (fun e=>e h)];by_cases hl:po.length=r.os.length∧pc.length=r.ab.length
  ·rw[if_neg (fun e=>e hl)];exact kz r po pc h hl.1 hl.2
  ·rw[if_pos hl];exact kP r po pc h hl
 ·rw[if_pos h];exact kO r po pc h
noncomputable instance instLD23:ar:=LD
structure oc(x:Rd)(plan:List Int):Prop extends lU x plan where
 fit:∀k,k<plan.length→nth plan k≠-1→nth (nth x.fit k) (nth plan k).toNat=true
 once:∀k,k<plan.length→nth plan k≠-1→∀j,j<k→nth plan j≠nth plan k
end Go.Proofs.YthpkmilhiganjaaGreat
namespace Go.Proofs.YthpkmilhiganjaaGreat
open Go Go.Fi
variable[ar]
def bK(ab:List Car)(os:List Ord)(po pc:List Int):Int:=
 if ¬(po.length=os.length∧pc.length=ab.length) then 10 else if po.any bB=true then 2 else if pc.any bA=true then 2 else 0
theorem kV(ab:List Car)(os:List Ord)(wt:List (List Int))(zs:List Par)(po pc:List Int)(h1:po.length<100000)(h2:pc.length<100000):aA Tz.prog 21 [.agg [.sl ab.length (aQ ab),.sl os.length (aP os),.sl wt.length (aZ wt),.sl zs.length (aS zs)],.agg [.sl po.length (ints po),.sl pc.length (ints pc)]] (.int .i64 (bK ab os po pc)) true:=by
 generalize hR:bK ab os po pc=R;unfold bK at hR;by_cases a1:po.length=os.length
 rotate_left
 ·rw[if_pos (fun h=>a1 h.1)] at hR;subst hR
  have a1':¬(po.length:Int)=os.length:=by omega
  clear a1;refine rcK Tz.func21 ?_;simp only[Tryz.results21,Tryz.ntmps21]
  repeat' (first|(with_reducible first|refine af ?_|refine az ?_|refine ae ?_|refine ak ?_|intro _)|(simp[*,a1']))
  all_goals first|omega
 by_cases a2:pc.length=ab.length
 rotate_left
 ·rw[if_pos (fun h=>a2 h.2)] at hR;subst hR
  have a2':¬(pc.length:Int)=ab.length:=by omega
  have a1':(po.length:Int)=os.length:=by omega
  clear a1 a2;refine rcK Tz.func21 ?_;simp only[Tryz.results21,Tryz.ntmps21]
  repeat' (first|(with_reducible first|refine af ?_|refine az ?_|refine ae ?_|refine ak ?_|intro _)|(simp[*,a1',a2']))
  all_goals first|omega
 rw[if_neg (fun h=>h ⟨a1,a2⟩)] at hR
 have a1':(po.length:Int)=os.length:=by omega
 have a2':(pc.length:Int)=ab.length:=by omega
 generalize hA:po.any bB=A at hR;generalize hB:pc.any bA=B at hR;have kA:aI ((po.drop 0).any bB=A):=hA;have kB:aI ((pc.drop 0).any bA=B):=hB;have kR:=keep hR;clear hA hB hR a1 a2;refine rcK Tz.func21 ?_;simp only[Tryz.results21,Tryz.ntmps21]
 repeat' (first|(with_reducible first|refine af ?_|refine av ?_|refine ae ?_|refine ak ?_|intro _)|(simp[*,a1',a2']))
 all_goals try first|omega|assumption
 clear a1' a2';refine bF (fun(k:Nat)=>k≤po.length∧(po.drop k).any bB=A) [3] (fun(k:Nat)=>[(5,.w false false (.int .i64 k))]) [1] (fun(k:Nat)=>[]) (fun(k:Nat)=>po.length-k) (fun(_u:Unit)=>A=false) [3] (fun(_u:Unit)=>[]) [1] (fun(_u:Unit)=>[]) (0) ⟨Nat.zero_le _,kA⟩ (by simp) (by simp) (fun k hk=>?_) (fun _u hf=>?_)
 ·obtain⟨hk,hj⟩:=hk;clear kA kB;by_cases hlt:k<po.length
  ·rw[b8 po k hlt,List.any_cons] at hj;have c1:=jm (nth po k) (-100000000000000) 100000000000000;unfold bB at hj
   cases hb:aL (nth po k) (-100000000000000) 100000000000000 with
   |true=>
    rw[hb] at hj c1;have kj:aI ((po.drop (k+1)).any bB=A):=keep hj;clear hj hb
    repeat' (first|(with_reducible first|refine af ?_|refine aD ?_|refine av ?_|refine ae ?_|refine ak ?_|refine And.intro ?_ ?_|refine cw (c1) ?_|intro _)|(simp[*,hlt])|(refine ai (c1) ?_ ?_;(· (simp[*];done))))
    all_goals first
     |omega
     |exact aF (by omega) (by omega)
     |(refine nx (k+1) ?_ ?_;(· exact⟨by omega,kj⟩);(refine aB ?_ ?_<;>first|trivial|(simp[*];done)))
   |false=>
    rw[hb] at hj c1
    have hA:A=true:=by rw[←hj];rfl
    subst hA;have hR:(2:Int)=R:=kR;subst hR;clear hj hb kR
    repeat' (first|(with_reducible first|refine af ?_|refine aD ?_|refine av ?_|refine az ?_|refine ae ?_|refine ak ?_|refine And.intro ?_ ?_|refine cw (c1) ?_|intro _)|(simp[*,hlt])|(refine ai (c1) ?_ ?_;(· (simp[*];done))))
    all_goals first|omega|exact aF (by omega) (by omega)
  ·have hke:k=po.length:=by omega
   subst hke;have kj:aI (A=false):=keep (by rw[←hj];simp);clear hj
   repeat' (first|(with_reducible first|refine af ?_|refine aJ ?_|refine ae ?_|refine ak ?_|intro _)|(simp[*]))
   all_goals first
    |omega
    |(refine aT () ?_ ?_;(· exact kj);(refine aB ?_ ?_<;>first|trivial|(simp[*];done)))
 subst hf;clear kA;have kR:aI ((if B=true then (2:Int) else 0)=R):=kR
 repeat' (first|(with_reducible first|refine af ?_|refine ae ?_|intro _)|(simp[*]))
 refine bF (fun(k:Nat)=>k≤pc.length∧(pc.drop k).any bA=B) [3] (fun(k:Nat)=>[(6,.w false false (.int .i64 k))]) [1] (fun(k:Nat)=>[]) (fun(k:Nat)=>pc.length-k) (fun(_u:Unit)=>B=false) [] (fun(_u:Unit)=>[]) [1] (fun(_u:Unit)=>[]) (0) ⟨Nat.zero_le _,kB⟩ (by simp) (by simp) (fun k hk=>?_) (fun _u hf=>?_)
 ·obtain⟨hk,hj⟩:=hk;clear kB;by_cases hlt:k<pc.length
  ·rw[b8 pc k hlt,List.any_cons] at hj;have c1:=jm (nth pc k) 0 100000000000000;unfold bA at hj
   cases hb:aL (nth pc k) 0 100000000000000 with
   |true=>
    rw[hb] at hj c1;have kj:aI ((pc.drop (k+1)).any bA=B):=keep hj;clear hj hb
    repeat' (first|(with_reducible first|refine af ?_|refine aD ?_|refine av ?_|refine ae ?_|refine ak ?_|refine And.intro ?_ ?_|refine cw (c1) ?_|intro _)|(simp[*,hlt])|(refine ai (c1) ?_ ?_;(· (simp[*];done))))
    all_goals first
     |omega
     |exact aF (by omega) (by omega)
     |(refine nx (k+1) ?_ ?_;(· exact⟨by omega,kj⟩);(refine aB ?_ ?_<;>first|trivial|(simp[*];done)))
   |false=>
    rw[hb] at hj c1
    have hB:B=true:=by rw[←hj];rfl
    subst hB;have hR:(2:Int)=R:=kR;subst hR;clear hj hb kR
    repeat' (first|(with_reducible first|refine af ?_|refine aD ?_|refine av ?_|refine az ?_|refine ae ?_|refine ak ?_|refine And.intro ?_ ?_|refine cw (c1) ?_|intro _)|(simp[*,hlt])|(refine ai (c1) ?_ ?_;(· (simp[*];done))))
    all_goals first|omega|exact aF (by omega) (by omega)
  ·have hke:k=pc.length:=by omega
   subst hke;have kj:aI (B=false):=keep (by rw[←hj];simp);clear hj
   repeat' (first|(with_reducible first|refine af ?_|refine aJ ?_|refine ae ?_|refine ak ?_|intro _)|(simp[*]))
   all_goals first
    |omega
    |(refine aT () ?_ ?_;(· exact kj);(refine aB ?_ ?_<;>first|trivial|(simp[*];done)))
 ·subst hf;have hR:(0:Int)=R:=kR;subst hR;clear kR kB
  repeat' (first|(with_reducible first|refine af ?_|refine az ?_|refine ae ?_|intro _)|(simp[*]))
theorem eM(row:List Bool)(w p:List Int)(m0 v:Int):∀n,decide (mK row w p m0 n<v)=(decide (m0<v) || (List.range n).any fun k=>nth row k&&decide (nth w k+nth p k<v))
 |0=>by
  rw[List.range_zero,List.any_nil,Bool.or_false];rfl
 |n+1=>by
  have ih:=eM row w p m0 v n;rw[List.range_succ,List.any_append];rw[←Bool.or_assoc,←ih,show mK row w p m0 (n+1)=if nth row n then (if nth w n+nth p n<mK row w p m0 n then nth w n+nth p n else mK row w p m0 n) else mK row w p m0 n from rfl];clear ih;generalize mK row w p m0 n=M;simp only[List.any_cons,List.any_nil,Bool.or_false]
  cases hr:nth row n with
  |false=>simp
  |true=>
   simp only[if_true,Bool.true_and];split
   ·rename_i hlt;rw[Bool.eq_iff_iff];simp only[Bool.or_eq_true,decide_eq_true_eq];omega
   ·rename_i hlt;rw[Bool.eq_iff_iff];simp only[Bool.or_eq_true,decide_eq_true_eq];omega
def b9(w p:List Int)(v:Int)(l:List Int):Bool:=l.any fun c=>decide (nth w c.toNat+nth p c.toNat<v)
theorem kW(r:Tw.RND)(ok:cr (al r))(i:Nat)(hi:i<r.os.length)(p:List Int)(v:Int):decide (cq (al r) i p<v)=(decide (bf (nth r.os i).2.2.2.toNat<v) || b9 (nth r.wt i) p v (bd r.ab r.os r.zs i r.ab.length)):=by
 unfold cq;rw[eM,ok.fr i hi];congr 1;unfold b9 bd;rw[List.any_map,List.any_filter];have:(al r).ab.length=r.ab.length:=rfl;rw[this];rw[Bool.eq_iff_iff];simp only[List.any_eq_true,List.mem_range,Bool.and_eq_true,Function.comp];constructor
 ·rintro⟨k,hk,h1,h2⟩
  exact⟨k,hk,by rw[←eL r i k hi hk];exact h1,by have h3:decide (nth (nth r.wt i) k+nth p k<v)=true:=h2;simpa using h3⟩
 ·rintro⟨k,hk,h1,h2⟩
  exact⟨k,hk,by rw[eL r i k hi hk];exact h1,by show decide (nth (nth r.wt i) k+nth p k<v)=true;simpa using h2⟩
def bO(r:Tw.RND)(pc:List Int):List Int→Nat→Bool
 |[],_=>false
 |v::l,k=>(decide (bf (nth r.os k).2.2.2.toNat<v) || b9 (nth r.wt k) pc v (bd r.ab r.os r.zs k r.ab.length)) || bO r pc l (k+1)
theorem eC(r:Tw.RND)(ok:cr (al r))(pc:List Int):∀(l:List Int)(k:Nat),k+l.length≤r.os.length→bC (al r) pc l k=bO r pc l k
 |[],_,_=>rfl
 |v::l,k,h=>by
  unfold bC bO;rw[kW r ok k (by simp at h;omega),eC r ok pc l (k+1) (by simp at h;omega)]
noncomputable def cd(r:Tw.RND)(po pc:List Int):Int×Bool:=if bO r pc po 0 then (0,false) else (ah po po.length-ah pc pc.length,true)
theorem k6(r:Tw.RND)(ok:cr (al r))(po pc:List Int)(hpo:po.length=r.os.length)(hpc:pc.length=r.ab.length)(bo:∀j,j<po.length→-100000000000000≤nth po j∧nth po j≤100000000000000)(bc:∀j,j<pc.length→-100000000000000≤nth pc j∧nth pc j≤100000000000000):aA Tz.prog 22 [Tw.aR r,.agg [.sl po.length (ints po),.sl pc.length (ints pc)]] (.tup [.int .i64 (cd r po pc).1,.bool (cd r po pc).2]) true:=by
 have lo:r.os.length≤8:=ok.lo;have lc:r.ab.length≤8:=ok.lc;have lw:r.wt.length=r.os.length:=ok.lw
 have hz:r.zs.length<100000:=by have:r.zs.length≤64:=ok.lz;omega
 have wr:∀i,i<r.os.length→(nth r.wt i).length=r.ab.length:=ok.wr;have wn:∀i,i<r.os.length→∀k,k<r.ab.length→0≤nth (nth r.wt i) k∧nth (nth r.wt i) k≤100000:=ok.wn;have pr:∀i,i<r.os.length→0≤(nth r.os i).2.2.2∧(nth r.os i).2.2.2≤6:=ok.pr
 have sc:=fun(k:Nat)(hk:k≤pc.length)=>cp pc 100000000000000 (by decide) k (fun j hj=>bc j (by omega))
 have so:=fun(k:Nat)(hk:k≤po.length)=>cp po 100000000000000 (by decide) k (fun j hj=>bo j (by omega))
 have cF:=fun k hk=>kJ r.ab r.os r.wt r.zs k hk (by omega) hz
 have mF:∀k n,n<(bd r.ab r.os r.zs k r.ab.length).length→∃c:Nat,nth (bd r.ab r.os r.zs k r.ab.length) n=c∧c<r.ab.length:=fun k n hn=>by
  have hm:nth (bd r.ab r.os r.zs k r.ab.length) n∈bd r.ab r.os r.zs k r.ab.length:=ew hn;unfold bd at hm;obtain⟨c,hc,e⟩:=List.mem_map.1 hm;exact⟨c,e.symm,List.mem_range.1 (List.mem_filter.1 hc).1⟩
 change aA Tz.prog 22 [.agg [.sl r.ab.length (aQ r.ab),.sl r.os.length (aP r.os),.sl r.wt.length (aZ r.wt),.sl r.zs.length (aS r.zs)],.agg [.sl po.length (ints po),.sl pc.length (ints pc)]] _ true
 generalize hR:cd r po pc=R;obtain⟨R1,R2⟩:=R;unfold cd at hR
 have eF:∀v l k,bO r pc (v::l) k=((decide (bf (nth r.os k).2.2.2.toNat<v) || b9 (nth r.wt k) pc v (bd r.ab r.os r.zs k r.ab.length)) || bO r pc l (k+1)):=fun _ _ _=>rfl
 have eN:∀k,bO r pc [] k=false:=fun _=>rfl
 generalize hB:bO r pc po 0=B at hR;have kB:aI (bO r pc (po.drop 0) 0=B):=hB;clear hB ok;generalize bO r pc=BF at *;have kk:=keep (And.intro lo (And.intro lc (And.intro lw (And.intro wr (And.intro wn (And.intro pr (And.intro so (And.intro cF (And.intro mF (And.intro eF (And.intro bo (And.intro bc (And.intro hpo (And.intro hpc eN))))))))))))));have kR:=keep hR;have ks:=keep sc
 have l1:pc.length≤8:=by omega
 clear lo lc lw hz wr wn pr sc so cF mF eF eN hR bo bc hpo hpc;refine rcK Tz.func22 ?_;simp only[Tryz.results22,Tryz.ntmps22]
 repeat' (first|(with_reducible first|refine af ?_|refine ae ?_|intro _)|(simp[*]))
 refine bF (fun(k:Nat)=>k≤pc.length) [2,3] (fun(k:Nat)=>[(7,.w false false (.int .i64 k)),(6,.w false false (.int .i64 (-(ah pc k))))]) [0,1] (fun(k:Nat)=>[]) (fun(k:Nat)=>pc.length-k) (fun(_u:Unit)=>True) [2,3] (fun(_u:Unit)=>[(6,.w false false (.int .i64 (-(ah pc pc.length))))]) [0,1] (fun(_u:Unit)=>[]) (0) (Nat.zero_le _) (by simp) (by simp) (fun k hk=>?_) (fun _u hf=>?_)
 ·by_cases hlt:k<pc.length
  ·have s1:=ks k hk;have s2:=ks (k+1) (by omega)
   have hE:-(ah pc k)-nth pc k=-(ah pc (k+1)):=by
    rw[show ah pc (k+1)=ah pc k+nth pc k from rfl];omega
   have hi:inI .i64 (-(ah pc (k+1))):=aF (by omega) (by omega);clear s1 s2
   repeat' (first|(with_reducible first|refine af ?_|refine iK ?_|refine av ?_|refine ae ?_|refine ak ?_|refine And.intro ?_ ?_|intro _)|(simp[*,hlt,hE,hi]))
   all_goals first
    |omega
    |exact aF (by omega) (by omega)
    |(refine nx (k+1) ?_ ?_;(· omega);(refine aB ?_ ?_<;>first|trivial|(simp[*];done)))
  ·have hke:k=pc.length:=by omega
   subst hke
   repeat' (first|(with_reducible first|refine af ?_|refine aJ ?_|refine ae ?_|refine ak ?_|intro _)|(simp[*]))
   all_goals first
    |omega
    |(refine aT () ?_ ?_;(· trivial);(refine aB ?_ ?_<;>first|trivial|(simp[*];done)))
 have s0:=keep (ks pc.length (Nat.le_refl _));clear ks;generalize hS:ah pc pc.length=S at *
 repeat' (first|(with_reducible first|refine af ?_|refine ae ?_|intro _)|(simp[*]))
 have z0:-S+ah po 0=-S:=by simp
 refine bF (fun(k:Nat)=>k≤po.length∧BF (po.drop k) k=B) [2,3] (fun(k:Nat)=>[(8,.w false false (.int .i64 k)),(6,.w false false (.int .i64 (-S+ah po k)))]) [0,1] (fun(k:Nat)=>[]) (fun(k:Nat)=>po.length-k) (fun(_u:Unit)=>B=false) [] (fun(_u:Unit)=>[(6,.w false false (.int .i64 (-S+ah po po.length)))]) [0,1] (fun(_u:Unit)=>[]) (0) ⟨Nat.zero_le _,kB⟩ (by simp[z0]) (by simp[z0]) (fun k hk=>?_) (fun _u hf=>?_)
 ·obtain⟨hk,hj⟩:=hk;clear kB z0 hS;by_cases hlt:k<po.length
  ·obtain⟨lo,lc,lw,wr,wn,pr,so,cF,mF,eF,bo,bc,hpo,hpc,eN⟩:=kk
   have hko:k<r.os.length:=by omega
   have hkw:k<r.wt.length:=by omega
   have b0:=bo k hlt;have b1:=so k hk;have b2:=so (k+1) (by omega);have b3:-(100000000000000*(pc.length:Int))≤S∧S≤100000000000000*pc.length:=s0
   have hE:-S+ah po k+nth po k=-S+ah po (k+1):=by
    rw[show ah po (k+1)=ah po k+nth po k from rfl];omega
   have hi:inI .i64 (-S+ah po (k+1)):=aF (by omega) (by omega);have pr:=pr k hko;obtain⟨q,hq⟩:∃q:Nat,(nth r.os k).2.2.2=(q:Int):=⟨(nth r.os k).2.2.2.toNat,by omega⟩;have c1:=Dr q (by omega);have c2:=cF k hko;rw[b8 po k hlt,eF,hq,Int.toNat_natCast] at hj;have mF:=mF k;have wn:=wn k hko;have wr:=wr k hko;clear eF cF so b1 b2 b3 bo eN;have hL:=eB r.ab r.os r.zs k r.ab.length;generalize bd r.ab r.os r.zs k r.ab.length=L at *;have hi1:inI .i64 ((k:Int)+1):=aF (by omega) (by omega)
   have hz:k+1≤po.length:=by omega
   have hLl:L.length<100000:=by omega
   have kp:=keep (And.intro b0 (And.intro bc (And.intro mF (And.intro wn (And.intro wr (And.intro hpc lc))))));by_cases hv:bf q<nth po k
   ·rw[decide_eq_true hv,Bool.true_or,Bool.true_or] at hj;subst hj;have h:((0:Int),false)=(R1,R2):=kR;obtain⟨q1,q2⟩:=Prod.mk.inj h;subst q1 q2;clear kR h kp b0 bc mF wn wr pr hpo hpc lc lo lw hz hi1 hL hLl
    repeat' (first|(with_reducible first|refine af ?_|refine aD ?_|refine av ?_|refine az ?_|refine ae ?_|refine aK (id:=10) 13 mixed (by decide +kernel) ?_|refine ak ?_|refine And.intro ?_ ?_|refine cw (c1) ?_|intro _)|(simp[*,hlt,hko,hE,hi,hq,hv,Tw.bG])|(refine ai (c1) ?_ ?_;(· (simp[*];done))))
    all_goals first|omega|exact aF (by omega) (by omega)
   ·rw[decide_eq_false hv,Bool.false_or] at hj;generalize hH:b9 (nth r.wt k) pc (nth po k) L=H at hj;have kH:aI (b9 (nth r.wt k) pc (nth po k) (L.drop 0)=H):=hH;have kj:=keep hj;clear hH hj b0 bc mF wn wr pr hpo hpc lc lo lw hL
    repeat' (first|(with_reducible first|refine af ?_|refine aD ?_|refine av ?_|refine ae ?_|refine aK (id:=10) 13 mixed (by decide +kernel) ?_|refine ak ?_|refine And.intro ?_ ?_|refine cw (c1) ?_|refine cw (c2) ?_|intro _)|(simp[*,hlt,hko,hE,hi,hq,hv,Tw.bG])|(refine ai (c1) ?_ ?_;(· (simp[*];done)))|(refine ai (c2) ?_ ?_;(· (simp[*];done))))
    all_goals try first|omega|assumption
    refine bF (fun(n:Nat)=>n≤L.length∧b9 (nth r.wt k) pc (nth po k) (L.drop n)=H) [2,3,6,8,9] (fun(n:Nat)=>[(10,.w false false (.int .i64 n))]) [0,1] (fun(n:Nat)=>[]) (fun(n:Nat)=>L.length-n) (fun(_u:Unit)=>H=false) [2,3,6,8] (fun(_u:Unit)=>[]) [0,1] (fun(_u:Unit)=>[]) (0) ⟨Nat.zero_le _,kH⟩ (by simp) (by simp) (fun n hk=>?_) (fun _u hf=>?_)
    ·obtain⟨hn,hj2⟩:=hk;clear kH;by_cases hnt:n<L.length
     ·obtain⟨b0,bc,mF,wn,wr,hpc,lc⟩:=kp;obtain⟨c,hc,hcl⟩:=mF n hnt
      have hcw:c<(nth r.wt k).length:=by omega
      have hcp:c<pc.length:=by omega
      have w1:=wn c hcl;have w2:=bc c hcp;have i5:inI .i64 (nth (nth r.wt k) c+nth pc c):=aF (by omega) (by omega);have i6:inI .i64 ((n:Int)+1):=aF (by omega) (by omega)
      have hnz:n+1≤L.length:=by omega
      unfold b9 at hj2;rw[b8 L n hnt,List.any_cons,hc,Int.toNat_natCast] at hj2;clear b0 bc mF wn wr hpc lc w1 w2 hi hE;by_cases hh:nth (nth r.wt k) c+nth pc c<nth po k
      ·have hH:H=true:=by rw[←hj2];simp[hh]
       subst hH
       have hB:B=true:=by have h:=kj;unfold aI at h;rw[←h];rfl
       subst hB;have h:((0:Int),false)=(R1,R2):=kR;obtain⟨q1,q2⟩:=Prod.mk.inj h;subst q1 q2;clear kR h kj hj2
       repeat' (first|(with_reducible first|refine af ?_|refine aD ?_|refine av ?_|refine az ?_|refine ae ?_|refine aK (id:=16) 26 mixed (by decide +kernel) ?_|refine ak ?_|intro _)|(simp[*,hlt,hkw,hnt,hc,hcw,hcp,i5,hh]))
       all_goals first|omega|assumption
      ·have kj2:aI (b9 (nth r.wt k) pc (nth po k) (L.drop (n+1))=H):=by
        show b9 _ _ _ _=H;rw[←hj2,decide_eq_false hh];rfl
       clear hj2 kj
       repeat' (first|(with_reducible first|refine af ?_|refine aD ?_|refine av ?_|refine ae ?_|refine aK (id:=16) 26 mixed (by decide +kernel) ?_|refine ak ?_|intro _)|(simp[*,hlt,hkw,hnt,hc,hcw,hcp,i5,i6,hh]))
       all_goals first
        |omega
        |assumption
        |(refine nx (n+1) ?_ ?_;(· exact⟨hnz,kj2⟩);(refine aB ?_ ?_<;>first|trivial|(simp[*];done)))
     ·have hke:n=L.length:=by omega
      subst hke;have kj2:aI (H=false):=keep (by rw[←hj2,List.drop_length];rfl);clear hj2 kj
      repeat' (first|(with_reducible first|refine af ?_|refine aJ ?_|refine ae ?_|refine ak ?_|intro _)|(simp[*,hlt]))
      all_goals first
       |omega
       |assumption
       |(refine aT () ?_ ?_;(· exact kj2);(refine aB ?_ ?_<;>first|trivial|(simp[*];done)))
    ·subst hf
     have kj2:aI (BF (po.drop (k+1)) (k+1)=B):=by have h:=kj;unfold aI at h ⊢;rw[←h];rfl
     clear kj kH
     repeat' (first|(with_reducible first|refine ae ?_|intro _)|(simp[*,hlt,hi1]))
     all_goals first
      |omega
      |assumption
      |(refine nx (k+1) ?_ ?_;(· exact⟨hz,kj2⟩);(refine aB ?_ ?_<;>first|trivial|(simp[*];done)))
  ·have hke:k=po.length:=by omega
   subst hke;have kj:aI (B=false):=keep (by rw[←hj,List.drop_length];exact kk.2.2.2.2.2.2.2.2.2.2.2.2.2.2 po.length);clear hj kk
   repeat' (first|(with_reducible first|refine af ?_|refine aJ ?_|refine ae ?_|refine ak ?_|intro _)|(simp[*]))
   all_goals first
    |omega
    |(refine aT () ?_ ?_;(· exact kj);(refine aB ?_ ?_<;>first|trivial|(simp[*];done)))
 ·subst hf;have h:((ah po po.length-S,true):Int×Bool)=(R1,R2):=kR;obtain⟨q1,q2⟩:=Prod.mk.inj h;subst q1 q2;clear kB kR kk h
  have hE:-S+ah po po.length=ah po po.length-S:=by omega
  repeat' (first|(with_reducible first|refine af ?_|refine az ?_|refine ae ?_|intro _)|(simp[*,hE]))
end Go.Proofs.YthpkmilhiganjaaGreat
