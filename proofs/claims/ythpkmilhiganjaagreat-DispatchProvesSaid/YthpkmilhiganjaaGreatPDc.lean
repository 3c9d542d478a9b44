/- Lemmas. -/
import Derived.Test.YthpkmilhiganjaaGreatPDb
import Derived.Test.YthpkmilhiganjaaGreatPLg
import Derived.KernelRfl
import Derived.Test.YthpkmilhiganjaaGreatPLd
set_option linter.unusedSimpArgs false
set_option linter.unusedVariables false
set_option linter.unusedSectionVars false
set_option maxHeartbeats 32000000
set_option maxRecDepth 100000
namespace Go.Proofs.YthpkmilhiganjaaGreat
open Go Go.Fi
noncomputable instance instLD19:ah:=LD
def ll(n:Int):Bool:=!bt n (-100000000000000) 100000000000000
def il(n:Int):Bool:=!bt n 0 100000000000000
def bw(l:List Int):Nat→Int
 |0=>0
 |k+1=>bw l k+nth l k
@[simp] theorem Ts(l:List Int):bw l 0=0:=rfl
theorem qA(l:List Int)(m:Int)(hm:0≤m):∀k,(∀j,j<k→-m≤nth l j∧nth l j≤m)→-(m*k)≤bw l k∧bw l k≤m*k
 |0,_=>by simp
 |k+1,h=>by
  obtain⟨h1,h2⟩:=qA l m hm k fun j hj=>h j (by omega)
  obtain⟨h3,h4⟩:=h k (by omega)
  have e:m*((k+1:Nat):Int)=m*k+m:=by rw[Int.natCast_add,Int.mul_add];simp
  rw[e];unfold bw;omega
def gw(x:Rd)(pc:List Int):List Int→Nat→Bool
 |[],_=>false
 |n::r,k=>decide (lj x k pc<n) || gw x pc r (k+1)
def je(x:Rd)(po pc:List Int):Int×Int:=
 if po.any ll=true then (0,2) else if pc.any il=true then (0,2) else if gw x pc po 0=true then (0,20) else (bw po po.length-bw pc pc.length,0)
theorem Ib(r:Tw.RND)(po pc:List Int)(h:ceR r=0)(hpo:po.length=r.os.length)(hpc:pc.length=r.af.length):az Tz.prog 17 [Tw.bn r,.agg [.sl po.length (ints po),.sl pc.length (ints pc)]] (.tup [.int .i64 (je (ba r) po pc).1,.int .i64 (je (ba r) po pc).2]) false:=by
 have ok:=wB r h;have c1:=jc r;rw[nG r h] at c1;generalize hR:je (ba r) po pc=R;obtain⟨R1,R2⟩:=R;unfold je at hR;have kR:=keep hR;have kok:=keep ok;have c2:=lP 0 (aR true 10);rw[show bO [0,aR true 10]=0 from rfl,show aR true 10=0 from rfl] at c2;have c3:=bK true 10;rw[show aR true 10=0 from rfl] at c3;clear hR ok h;unfold Tw.bn Tw.RND.dV Tw.RND.osP Tw.RND.eH Tw.RND.zsP at *;generalize hx:ba r=x at *;obtain⟨cs,hcs⟩:∃cs,x.pv=.ip cs 0:=⟨_,rfl⟩;rw[hcs] at c1;rw[←hpo,←hpc] at c1 ⊢
 have hlo:po.length≤8:=by have:=kok.lo;rw[←hx] at this;have e:(ba r).os.length=r.os.length:=rfl;omega
 have hlc:pc.length≤8:=by have:=kok.lc;rw[←hx] at this;have e:(ba r).af.length=r.af.length:=rfl;omega
 have hlo2:=keep hlo;have hlc2:=keep hlc;have kpo:=keep hpo;have kpc:=keep hpc;clear hlo hlc hpo hpc;refine rcK Tz.func17 ?_;simp only[Tryz.results17,Tryz.ntmps17]
 repeat' (first|(with_reducible first|refine ak ?_|refine aH ?_|refine aj ?_|refine aD ?_|refine And.intro ?_ ?_|refine cw (c1) ?_|refine cw (c2) ?_|refine cw (c3) ?_|intro _)|(simp[*])|(refine ai (c1) ?_ ?_;(· (simp[*];done)))|(refine ai (c2) ?_ ?_;(· (simp[*];done)))|(refine ai (c3) ?_ ?_;(· (simp[*];done))))
 clear c1 c2 c3;generalize hA:po.any ll=A at kR;have kA:aP ((po.drop 0).any ll=A):=hA;clear hA;refine cT (fun(k:Nat)=>k≤po.length∧(po.drop k).any ll=A∧aP (∀j,j<k→-100000000000000≤nth po j∧nth po j≤100000000000000)) [3,6,44,45] (fun(k:Nat)=>[(46,.w false false (.int .i64 k)),(8,.w false false (.int .i64 (bw po k)))]) [1] (fun(k:Nat)=>[]) (fun(k:Nat)=>po.length-k) (fun(_u:Unit)=>A=false∧aP (∀j,j<po.length→-100000000000000≤nth po j∧nth po j≤100000000000000)) [3,6] (fun(_u:Unit)=>[(8,.w false false (.int .i64 (bw po po.length)))]) [1] (fun(_u:Unit)=>[]) (0) ⟨Nat.zero_le _,kA,keep (fun j hj=>absurd hj (Nat.not_lt_zero j))⟩ (by simp) (by simp) (fun k hk=>?_) (fun _u hf=>?_)
 ·obtain⟨hk,hj,hg⟩:=hk;by_cases hlt:k<po.length
  ·rw[df po k hlt,List.any_cons] at hj;have w:=cV (nth po k) (-100000000000000) 100000000000000;obtain⟨b1,b2⟩:=qA po 100000000000000 (by decide) k hg
   have h8:(k:Int)<8:=by have:=hlo2;unfold aP at this;omega
   cases hw:bt (nth po k) (-100000000000000) 100000000000000 with
   |true=>
    rw[hw] at w;have hb:=gJ.1 hw
    have hj2:(po.drop (k+1)).any ll=A:=by rw[←hj];unfold ll;rw[hw];rfl
    have kj:=keep hj2
    have hg2:aP (∀j,j<k+1→-100000000000000≤nth po j∧nth po j≤100000000000000):=fun j hj=>by
     rcases Nat.lt_succ_iff_lt_or_eq.1 hj with h|rfl
     ·exact hg j h
     ·exact hb
    have hi2:inI .i64 (bw po k+nth po k):=bl (by omega) (by omega);have hi1:inI .i64 ((k:Int)+1):=bl (by omega) (by omega);have es:bw po (k+1)=bw po k+nth po k:=rfl
    have hz:k+1≤po.length:=by omega
    clear hj hj2 hb hw b1 b2 h8 hg
    repeat' (first|(with_reducible first|refine ak ?_|refine bA ?_|refine aH ?_|refine aj ?_|refine aD ?_|refine And.intro ?_ ?_|refine cw (w) ?_|intro _)|(simp[*,hlt,hi1,hi2])|(refine ai (w) ?_ ?_;(· (simp[*];done))))
    all_goals first
     |omega
     |assumption
     |(refine nx (k+1) ?_ ?_;(· exact⟨hz,kj,hg2⟩);(refine aX ?_ ?_<;>first|trivial|(simp[*,es];done)))
   |false=>
    rw[hw] at w
    have hA:A=true:=by rw[←hj];unfold ll;rw[hw];rfl
    subst hA;have kr2:aP (((0:Int),(2:Int))=(R1,R2)):=kR;clear hj hw b1 b2 h8 hg kR
    repeat' (first|(with_reducible first|refine ak ?_|refine bA ?_|refine aH ?_|refine aA ?_|refine aj ?_|refine aD ?_|refine And.intro ?_ ?_|refine cw (w) ?_|intro _)|(simp[*,hlt])|(refine ai (w) ?_ ?_;(· (simp[*];done))))
    all_goals first
     |omega
     |exact (Prod.mk.inj kr2).1
     |exact (Prod.mk.inj kr2).2
  ·have hke:k=po.length:=by omega
   rw[show po.drop k=[] from List.drop_eq_nil_of_le (by omega)] at hj;have kj:aP (false=A):=hj
   have hg2:aP (∀j,j<po.length→-100000000000000≤nth po j∧nth po j≤100000000000000):=by rw[←hke];exact hg
   have es:bw po k=bw po po.length:=by rw[hke]
   clear hj hg hke
   repeat' (first|(with_reducible first|refine ak ?_|refine bf ?_|refine aj ?_|refine aD ?_|intro _)|(simp[*,hlt]))
   all_goals first
    |omega
    |(refine bY () ?_ ?_;(· first|exact⟨Eq.symm kj,hg2⟩|exact Eq.symm kj);(refine aX ?_ ?_<;>first|trivial|(simp[*,es];done)))
 ·obtain⟨rfl,hg⟩:=hf;have kg:=keep hg;have kR2:aP ((if pc.any il=true then ((0:Int),(2:Int)) else if gw x pc po 0=true then (0,20) else (bw po po.length-bw pc pc.length,0))=(R1,R2)):=kR;have bs:=qA po 100000000000000 (by decide) po.length hg;generalize bw po po.length=so at bs kR2 ⊢
  have kbs:aP (-800000000000000≤so∧so≤800000000000000):=by have:=hlo2;unfold aP at this ⊢;omega
  generalize hA2:pc.any il=A2 at kR2;have kA2:aP ((pc.drop 0).any il=A2):=hA2;clear hg kR kA hA2 bs
  repeat' (first|(with_reducible first|refine ak ?_|refine aj ?_|intro _)|(simp[*]))
  refine cT (fun(k:Nat)=>k≤pc.length∧(pc.drop k).any il=A2∧aP (∀j,j<k→0≤nth pc j∧nth pc j≤100000000000000)) [3,6,58,59] (fun(k:Nat)=>[(60,.w false false (.int .i64 k)),(8,.w false false (.int .i64 (so-bw pc k)))]) [1] (fun(k:Nat)=>[]) (fun(k:Nat)=>pc.length-k) (fun(_u:Unit)=>A2=false∧aP (∀j,j<pc.length→0≤nth pc j∧nth pc j≤100000000000000)) [3,6] (fun(_u:Unit)=>[(8,.w false false (.int .i64 (so-bw pc pc.length)))]) [1] (fun(_u:Unit)=>[]) (0) ⟨Nat.zero_le _,kA2,keep (fun j hj=>absurd hj (Nat.not_lt_zero j))⟩ (by simp) (by simp) (fun k hk=>?_) (fun _u hf=>?_)
  ·obtain⟨hk,hj,hg⟩:=hk;by_cases hlt:k<pc.length
   ·rw[df pc k hlt,List.any_cons] at hj;have w:=cV (nth pc k) 0 100000000000000;obtain⟨b1,b2⟩:=qA pc 100000000000000 (by decide) k (fun j hj=>by have:=hg j hj;omega)
    have h8:(k:Int)<8:=by have:=hlc2;unfold aP at this;omega
    cases hw:bt (nth pc k) 0 100000000000000 with
    |true=>
     rw[hw] at w;have hb:=gJ.1 hw
     have hj2:(pc.drop (k+1)).any il=A2:=by rw[←hj];unfold il;rw[hw];rfl
     have kj:=keep hj2
     have hg2:aP (∀j,j<k+1→0≤nth pc j∧nth pc j≤100000000000000):=fun j hj=>by
      rcases Nat.lt_succ_iff_lt_or_eq.1 hj with h|rfl
      ·exact hg j h
      ·exact hb
     have hso:-800000000000000≤so∧so≤800000000000000:=kbs;have hi2:inI .i64 (so-bw pc k-nth pc k):=bl (by omega) (by omega);have hi1:inI .i64 ((k:Int)+1):=bl (by omega) (by omega)
     have es:so-bw pc (k+1)=so-bw pc k-nth pc k:=by rw[show bw pc (k+1)=bw pc k+nth pc k from rfl];omega
     have hz:k+1≤pc.length:=by omega
     clear hj hj2 hb hw b1 b2 h8 hg hso
     repeat' (first|(with_reducible first|refine ak ?_|refine bA ?_|refine aH ?_|refine aj ?_|refine aD ?_|refine And.intro ?_ ?_|refine cw (w) ?_|intro _)|(simp[*,hlt,hi1,hi2])|(refine ai (w) ?_ ?_;(· (simp[*];done))))
     all_goals first
      |omega
      |assumption
      |(refine nx (k+1) ?_ ?_;(· exact⟨hz,kj,hg2⟩);(refine aX ?_ ?_<;>first|trivial|(simp[*,es];done)))
    |false=>
     rw[hw] at w
     have hA:A2=true:=by rw[←hj];unfold il;rw[hw];rfl
     subst hA;have kr2:aP (((0:Int),(2:Int))=(R1,R2)):=kR2;clear hj hw b1 b2 h8 hg kR2
     repeat' (first|(with_reducible first|refine ak ?_|refine bA ?_|refine aH ?_|refine aA ?_|refine aj ?_|refine aD ?_|refine And.intro ?_ ?_|refine cw (w) ?_|intro _)|(simp[*,hlt])|(refine ai (w) ?_ ?_;(· (simp[*];done))))
     all_goals first
      |omega
      |exact (Prod.mk.inj kr2).1
      |exact (Prod.mk.inj kr2).2
   ·have hke:k=pc.length:=by omega
    rw[show pc.drop k=[] from List.drop_eq_nil_of_le (by omega)] at hj;have kj:aP (false=A2):=hj
    have hg2:aP (∀j,j<pc.length→0≤nth pc j∧nth pc j≤100000000000000):=by rw[←hke];exact hg
    have es:bw pc k=bw pc pc.length:=by rw[hke]
    clear hj hg hke
    repeat' (first|(with_reducible first|refine ak ?_|refine bf ?_|refine aj ?_|refine aD ?_|intro _)|(simp[*,hlt]))
    all_goals first
     |omega
     |(refine bY () ?_ ?_;(· first|exact⟨Eq.symm kj,hg2⟩|exact Eq.symm kj);(refine aX ?_ ?_<;>first|trivial|(simp[*,es];done)))
  ·obtain⟨rfl,hg⟩:=hf;have kg2:=keep hg;have kR3:aP ((if gw x pc po 0=true then ((0:Int),(20:Int)) else (so-bw pc pc.length,0))=(R1,R2)):=kR2;generalize so-bw pc pc.length=d at kR3 ⊢;generalize hA3:gw x pc po 0=A3 at kR3;have kA3:aP (gw x pc (po.drop 0) 0=A3):=hA3;have kx:=keep hx;have kcs:=keep hcs;clear hg kR2 kA2 hA3 hx hcs
   repeat' (first|(with_reducible first|refine ak ?_|refine aj ?_|intro _)|(simp[*]))
   refine cT (fun(k:Nat)=>k≤po.length∧gw x pc (po.drop k) k=A3) [3,6,8,72,73] (fun(k:Nat)=>[(74,.w false false (.int .i64 k))]) [1] (fun(k:Nat)=>[]) (fun(k:Nat)=>po.length-k) (fun(_u:Unit)=>A3=false) [8] (fun(_u:Unit)=>[]) [1] (fun(_u:Unit)=>[]) (0) ⟨Nat.zero_le _,kA3⟩ (by simp) (by simp) (fun k hk=>?_) (fun _u hf=>?_)
   ·obtain⟨hk,hj⟩:=hk;by_cases hlt:k<po.length
    ·rw[df po k hlt] at hj;unfold gw at hj
     have e1:x.os.length=po.length:=by rw[←show ba r=x from kx];exact (show po.length=r.os.length from kpo).symm
     have e2:x.af.length=pc.length:=by rw[←show ba r=x from kx];exact (show pc.length=r.af.length from kpc).symm
     have o:=kok
     have hko:k<x.os.length:=by omega
     have hcl:x.af.length<100000:=by have:=o.lc;omega
     have c:=Ia x k pc hko hcl (by have:=o.lf;omega) (by have:=o.lw;omega) (o.fr k hko) (o.wr k hko) e2.symm (o.pr k hko) (o.wn k hko) (fun j hj=>by have:=kg2 j (by omega);omega);rw[show x.pv=.ip cs 0 from kcs] at c;generalize lj x k pc=q at hj c;have kj:=keep hj
     have h8:(k:Int)<8:=by have:=hlo2;unfold aP at this;omega
     have hi1:inI .i64 ((k:Int)+1):=bl (by omega) (by omega);clear hj e1 e2 o hko hcl h8
     repeat' (first|(with_reducible first|refine ak ?_|refine bA ?_|refine aH ?_|refine aA ?_|refine aj ?_|refine aD ?_|refine And.intro ?_ ?_|refine kC ?_ ?_|refine cw (c) ?_|intro _)|(simp[*,hlt,hi1])|(refine ai (c) ?_ ?_;(· (simp[*];done))))
     all_goals first
      |omega
      |assumption
      |(rename_i hq
        have hA:A3=true:=by rw[←show _=A3 from kj,decide_eq_true hq,Bool.true_or]
        subst hA
        first|exact (Prod.mk.inj (show ((0:Int),(20:Int))=(R1,R2) from kR3)).1|exact (Prod.mk.inj (show ((0:Int),(20:Int))=(R1,R2) from kR3)).2)
      |(rename_i hq
        have kj2:aP (gw x pc (po.drop (k+1)) (k+1)=A3):=by
         show _=_;rw[←show _=A3 from kj,decide_eq_false hq,Bool.false_or]
        clear kj hq
        (refine nx (k+1) ?_ ?_;(· exact⟨by omega,kj2⟩);(refine aX ?_ ?_<;>first|trivial|(simp[*];done))))
    ·have hke:k=po.length:=by omega
     rw[show po.drop k=[] from List.drop_eq_nil_of_le (by omega)] at hj;have kj:aP (false=A3):=hj;clear hj hke
     repeat' (first|(with_reducible first|refine ak ?_|refine bf ?_|refine aj ?_|refine aD ?_|intro _)|(simp[*,hlt]))
     all_goals first
      |omega
      |(refine bY () ?_ ?_;(· exact Eq.symm kj);(refine aX ?_ ?_<;>first|trivial|(simp[*];done)))
   ·subst hf;have kr:aP ((d,(0:Int))=(R1,R2)):=kR3;clear kR3
    repeat' (first|(with_reducible first|refine ak ?_|refine aA ?_|refine aj ?_|refine And.intro ?_ ?_|intro _)|(simp[*]))
    all_goals first
     |exact (Prod.mk.inj kr).1
     |exact (Prod.mk.inj kr).2
noncomputable instance VC:ah:=LD
noncomputable def jf(r:Tw.RND)(po pc:List Int):Int×Int:=
 if ceR r≠0 then (0,ceR r) else if ¬(po.length=r.os.length∧pc.length=r.af.length) then (0,10) else je (ba r) po pc
theorem Ic(r:Tw.RND)(po pc:List Int)(h:ceR r≠0):az Tz.prog 17 [Tw.bn r,.agg [.sl po.length (ints po),.sl pc.length (ints pc)]] (.tup [.int .i64 0,.int .i64 (ceR r)]) false:=by
 have c1:=jc r;rw[Ao r h] at c1;generalize ceR r=e at *
 have f:∀b:Bool,az Tz.prog 70 [.sl 2 [.int .i64 e,.int .i64 (aR b 10)]] (.int .i64 e) true:=fun b=>by
  have c:=lP e (aR b 10);rw[show bO [e,aR b 10]=e by unfold bO;rw[if_neg h]] at c;exact c
 have u:=fun b=>bK b 10
 unfold Tw.bn Tw.RND.dV Tw.RND.osP Tw.RND.eH Tw.RND.zsP at *;by_cases h1:(po.length:Int)=r.os.length
 ·refine rcK Tz.func17 ?_;simp only[Tryz.results17,Tryz.ntmps17]
  repeat' (first|(with_reducible first|refine ak ?_|refine aA ?_|refine aj ?_|refine aD ?_|refine And.intro ?_ ?_|refine cw (c1) ?_|refine cw (f _) ?_|refine cw (u _) ?_|intro _)|(simp[*,h1])|(refine ai (c1) ?_ ?_;(· (simp[*];done)))|(refine ai (f _) ?_ ?_;(· (simp[*];done)))|(refine ai (u _) ?_ ?_;(· (simp[*];done))))
  all_goals first|omega
 ·refine rcK Tz.func17 ?_;simp only[Tryz.results17,Tryz.ntmps17]
  repeat' (first|(with_reducible first|refine ak ?_|refine aA ?_|refine aj ?_|refine aD ?_|refine And.intro ?_ ?_|refine cw (c1) ?_|refine cw (f _) ?_|refine cw (u _) ?_|intro _)|(simp[*,h1])|(refine ai (c1) ?_ ?_;(· (simp[*];done)))|(refine ai (f _) ?_ ?_;(· (simp[*];done)))|(refine ai (u _) ?_ ?_;(· (simp[*];done))))
  all_goals first|omega
theorem Ie(r:Tw.RND)(po pc:List Int)(h:ceR r=0)(hl:¬(po.length=r.os.length∧pc.length=r.af.length)):az Tz.prog 17 [Tw.bn r,.agg [.sl po.length (ints po),.sl pc.length (ints pc)]] (.tup [.int .i64 0,.int .i64 10]) false:=by
 have c1:=jc r;rw[nG r h] at c1;have f:=lP 0 10;rw[show bO [0,10]=10 from rfl] at f;have u:=bK false 10;rw[show aR false 10=10 from rfl] at u;obtain⟨cs,hcs⟩:∃cs,(ba r).pv=.ip cs 0:=⟨_,rfl⟩;rw[hcs] at c1;clear hcs h;unfold Tw.bn Tw.RND.dV Tw.RND.osP Tw.RND.eH Tw.RND.zsP at *;by_cases h1:po.length=r.os.length
 ·have h2:¬(pc.length:Int)=r.af.length:=fun e=>hl ⟨h1,by omega⟩
  rw[h1];clear h1 hl;refine rcK Tz.func17 ?_;simp only[Tryz.results17,Tryz.ntmps17]
  repeat' (first|(with_reducible first|refine ak ?_|refine aA ?_|refine aj ?_|refine aD ?_|refine And.intro ?_ ?_|refine cw (c1) ?_|refine cw (f) ?_|refine cw (u) ?_|intro _)|(simp[*,h2])|(refine ai (c1) ?_ ?_;(· (simp[*];done)))|(refine ai (f) ?_ ?_;(· (simp[*];done)))|(refine ai (u) ?_ ?_;(· (simp[*];done))))
  all_goals first|omega
 ·have h2:¬(po.length:Int)=r.os.length:=by omega
  clear h1 hl;refine rcK Tz.func17 ?_;simp only[Tryz.results17,Tryz.ntmps17]
  repeat' (first|(with_reducible first|refine ak ?_|refine aA ?_|refine aj ?_|refine aD ?_|refine And.intro ?_ ?_|refine cw (c1) ?_|refine cw (f) ?_|refine cw (u) ?_|intro _)|(simp[*,h2])|(refine ai (c1) ?_ ?_;(· (simp[*];done)))|(refine ai (f) ?_ ?_;(· (simp[*];done)))|(refine ai (u) ?_ ?_;(· (simp[*];done))))
  all_goals first|omega
theorem Ig(r:Tw.RND)(po pc:List Int):az Tz.prog 17 [Tw.bn r,.agg [.sl po.length (ints po),.sl pc.length (ints pc)]] (.tup [.int .i64 (jf r po pc).1,.int .i64 (jf r po pc).2]) false:=by
 unfold jf;by_cases h:ceR r=0
 ·rw[if_neg (fun e=>e h)];by_cases hl:po.length=r.os.length∧pc.length=r.af.length
  ·rw[if_neg (fun e=>e hl)];exact Ib r po pc h hl.1 hl.2
  ·rw[if_pos hl];exact Ie r po pc h hl
 ·rw[if_pos h];exact Ic r po pc h
end Go.Proofs.YthpkmilhiganjaaGreat
namespace Go.Proofs.YthpkmilhiganjaaGreat
open Go Go.Fi
variable[ah]
def prio(x:Rd)(i:Nat):Nat:=(nth x.os i).2.2.2.toNat
def eL(x:Rd):Nat→Int
 |0=>0
 |k+1=>eL x k+cm (prio x k)
@[simp] theorem TM(x:Rd):eL x 0=0:=rfl
def mJ(x:Rd)(i:Nat)(k:Int):Int:=nth (nth x.wt i) k.toNat
def dn(x:Rd)(plan:List Int):Nat→Int
 |0=>eL x x.os.length
 |k+1=>if nth plan k=-1 then dn x plan k else dn x plan k+(mJ x k (nth plan k)-cm (prio x k))
def mL(x:Rd)(plan:List Int):Int:=dn x plan plan.length
structure ry(x:Rd)(plan:List Int):Prop where
 len:plan.length=x.os.length
 at_:∀k,k<plan.length→nth plan k=-1∨(0≤nth plan k∧nth plan k<(x.af.length:Int))
theorem vc(x:Rd)(ok:lh x)(i:Nat)(h:i<x.os.length):prio x i≤6∧((prio x i:Nat):Int)=(nth x.os i).2.2.2:=by
 have:=ok.pr i h;unfold prio;omega
theorem vd(x:Rd)(ok:lh x):∀k,k≤x.os.length→0≤eL x k∧eL x k≤1000000000000*(k:Int)
 |0,_=>⟨Int.le_refl _,by simp⟩
 |k+1,h=>by
  have:=vd x ok k (by omega);have:=nE (prio x k) (vc x ok k (by omega)).1;unfold eL;omega
theorem AD(x:Rd)(ok:lh x)(plan:List Int)(hp:ry x plan):∀k,k≤plan.length→-(1000000000000*(k:Int))≤dn x plan k∧dn x plan k≤8000000000000+100000*(k:Int)
 |0,_=>by
  have:=vd x ok x.os.length (Nat.le_refl _);have:=ok.lo;unfold dn;omega
 |k+1,h=>by
  have hk:k<x.os.length:=by have:=hp.len;omega
  have h1:=AD x ok plan hp k (by omega);have h2:=nE (prio x k) (vc x ok k hk).1;unfold dn;split
  ·omega
  ·rename_i hne;have h3:=(hp.at_ k (by omega)).resolve_left hne;have h4:=ok.wn k hk (nth plan k).toNat (by omega);unfold mJ;omega
theorem Iq(x:Rd)(ok:lh x)(plan:List Int)(hp:ry x plan):az Tz.prog 78 [x.pv,.sl plan.length (ints plan)] (.int .i64 (mL x plan)) true:=by
 have b1:=vd x ok;have b2:=AD x ok plan hp
 have b3:=fun i hi=>vc x ok i hi
 have b4:=ok.wn;have b5:=ok.wr;have lo:=ok.lo;have lw:=ok.lw;have hl:=hp.len;have ha:=hp.at_;have eC:mL x plan=dn x plan plan.length:=rfl;have e0:dn x plan 0=eL x x.os.length:=rfl
 have eS:∀k,dn x plan (k+1)=if nth plan k=-1 then dn x plan k else dn x plan k+(mJ x k (nth plan k)-cm (prio x k)):=fun _=>rfl
 have eP:∀k,eL x (k+1)=eL x k+cm (prio x k):=fun _=>rfl
 unfold mJ at eS;rw[eC];generalize hCK:dn x plan=CK at *;generalize hPK:eL x=PK at *;generalize hpr:prio x=pr at *
 have hp0:PK 0=0:=by rw[←hPK];rfl
 clear hCK hPK eC hp
 have hpr':∀i,pr i=(nth x.os i).2.2.2.toNat:=fun i=>by rw[←hpr];rfl
 clear hpr ok;obtain⟨af,os,wt,zs,fit⟩:=x;unfold Rd.pv;simp only[] at b1 b2 b3 b4 b5 lo lw hl ha e0 eS eP hpr' ⊢;have kk:=keep (And.intro b1 (And.intro b2 (And.intro b3 (And.intro b4 (And.intro b5 (And.intro lo (And.intro lw (And.intro hl (And.intro ha (And.intro e0 (And.intro eS (And.intro eP hpr'))))))))))));clear b1 b2 b3 b4 b5 lo lw hl ha e0 eS eP hpr';refine qy Tz.func78 (by kernel_rfl) rfl (Nat.le_of_ble_eq_true (by kernel_rfl)) ?_;simp only[Tryz.results78,Tryz.ntmps78];refine iI (iH ?_)
 repeat' (first|(with_reducible first|refine aj ?_|intro _)|(simp[*]))
 refine iI (iH ?_)
 repeat' (first|(with_reducible first|refine aj ?_|intro _)|(simp[*]))
 refine iI (iH ?_)
 repeat' (first|(with_reducible first|refine ak ?_|refine aj ?_|intro _)|(simp[*]))
 refine uU 2 (fun(k:Nat)=>k≤os.length) [1,2,5,14,15] (fun(k:Nat)=>[(16,.w false false (.int .i64 k))]) [0] (fun(k:Nat)=>[(1,[.w false false (.int .i64 (PK k))])]) (fun(k:Nat)=>os.length-k) (fun(_u:Unit)=>True) [1,2,5] (fun(_u:Unit)=>[]) [0] (fun(_u:Unit)=>[(1,[.w false false (.int .i64 (PK os.length))])]) (0) (Nat.zero_le _) (iG [] (by simp[hp0]) (by simp[hp0])) (fun k hk=>?_) (fun _u hf=>?_)
 ·by_cases hlt:k<os.length
  ·obtain⟨b1,b2,b3,b4,b5,lo,lw,hl,ha,e0,eS,eP,hpr'⟩:=kk;have h1:=b3 k hlt;have h2:=b1 k hk;have h3:=nE (pr k) h1.1;have c1:=oh (pr k) h1.1;have h4:=eP k;have h6:(nth os k).2.2.2=((pr k:Nat):Int):=h1.2.symm;have hi1:inI .i64 (PK k+cm (pr k)):=bl (by omega) (by omega);have hi2:inI .i64 ((k:Int)+1):=bl (by omega) (by omega)
   have hz:k+1≤os.length:=by omega
   generalize cm (pr k)=pp at *;clear b1 b2 b3 b4 b5 lo lw hl ha e0 eS eP hpr' h2 h3 h1
   repeat' (first|(with_reducible first|refine ak ?_|refine bA ?_|refine aH ?_|refine aj ?_|refine bo (id:=5) 5 mixed (by decide +kernel) ?_|refine aD ?_|refine And.intro ?_ ?_|refine cw (c1) ?_|intro _)|(simp[*,hlt,hi1,hi2,h6,Tw.bE])|(refine ai (c1) ?_ ?_;(· (simp[*];done))))
   all_goals first
    |omega
    |assumption
    |(refine nx (k+1) ?_ ?_;(· exact hz);(refine iG [] ?_ ?_<;>first|trivial|(simp[*,h4];done)))
  ·have hke:k=os.length:=by omega
   subst hke
   repeat' (first|(with_reducible first|refine ak ?_|refine bf ?_|refine aj ?_|refine aD ?_|intro _)|(simp[*,hlt]))
   all_goals first
    |omega
    |(refine bY () ?_ ?_;(· trivial);(refine aX ?_ ?_<;>first|trivial|(simp[*];done)))
 ·refine iI (iI (iH ?_));have cs:=HV ⟨af,os,wt,zs,fit⟩ plan;unfold Rd.pv at cs;simp only[] at cs
  repeat' (first|(with_reducible first|refine aj ?_|refine And.intro ?_ ?_|refine cw (cs) ?_|intro _)|(simp[*])|(refine ai (cs) ?_ ?_;(· (simp[*];done))))
  clear cs;refine qx (uW (gf:=122) (av:=[.w false false (.ip [.sl plan.length (ints plan)] 0),.w false false (.ip [.ip [.sl af.length (bF af),.sl os.length (bD os),.sl wt.length (b8 wt),.sl zs.length (bH zs),.sl fit.length (jZ fit)] 0] 0)]) ?_ Tz.func122 (by kernel_rfl) rfl (Nat.le_of_ble_eq_true (by kernel_rfl)) (fun l=>?_))
  ·rfl
  simp only[Tryz.results122,Tryz.ntmps122];simp
  repeat' (first|(with_reducible first|refine ak ?_|refine aj ?_|intro _)|(simp[*]))
  all_goals try first|exact bl (by omega) (by omega)|omega
  have e0:CK 0=PK os.length:=kk.2.2.2.2.2.2.2.2.2.1;refine uU 2 (fun(k:Nat)=>k≤plan.length) [0,2,6,7] (fun(k:Nat)=>[(8,.w false false (.int .i64 k))]) [0] (fun(k:Nat)=>[(1,[.w false false (.int .i64 (CK k))])]) (fun(k:Nat)=>plan.length-k) (fun(_u:Unit)=>True) [] (fun(_u:Unit)=>[]) [0] (fun(_u:Unit)=>[(1,[.w false false (.int .i64 (CK plan.length))])]) (0) (Nat.zero_le _) (iG [] (by simp[e0]) (by simp[e0])) (fun k hk=>?_) (fun _u hf=>?_)
  ·clear e0;by_cases hlt:k<plan.length
   ·obtain⟨b1,b2,b3,b4,b5,lo,lw,hl,ha,e0,eS,eP,hpr'⟩:=kk
    have hlo:k<os.length:=by omega
    have hlw:k<wt.length:=by omega
    have hla:(k:Int)<8:=by omega
    have h1:=b3 k hlo;have h2:=b2 k hk;have h2':=b2 (k+1) (by omega);have h3:=nE (pr k) h1.1;have c1:=oh (pr k) h1.1;have h4:=eS k;have h6:(nth os k).2.2.2=((pr k:Nat):Int):=h1.2.symm;have hn:=ha k hlt;have hr:=b5 k hlo;have hw:=b4 k hlo;have hi2:inI .i64 ((k:Int)+1):=bl (by omega) (by omega)
    have hz:k+1≤plan.length:=by omega
    clear b1 b2 b3 b4 b5 lo lw hl ha e0 eS eP hpr';generalize hq:nth plan k=q at *
    rcases hn with hn|hn
    ·rw[if_pos hn] at h4;subst hn;clear h1 h2 h2' h3 c1 hr hw h6 hla
     repeat' (first|(with_reducible first|refine qB (id:=3) 16 ?_ ?_|refine ak ?_|refine bA ?_|refine aH ?_|refine aj ?_|refine aD ?_|intro _)|(simp[*,hlt,hq,hi2]))
     all_goals first
      |omega
      |assumption
      |(refine nx (k+1) ?_ ?_;(· exact hz);(refine iG [] ?_ ?_<;>first|trivial|(simp[*,h4];done)))
    ·have hne:¬q=-1:=by omega
     obtain⟨m,rfl⟩:∃m:Nat,q=m:=⟨q.toNat,by omega⟩;rw[if_neg hne] at h4
     have hm:m<(nth wt k).length:=by omega
     have hwm:=hw m (by omega);simp only[Int.toNat_natCast] at h4;generalize cm (pr k)=pp at *;generalize hww:nth (nth wt k) m=W at *
     have hi1:inI .i64 (CK k+(W-pp)):=by rw[←h4];exact bl (by omega) (by omega)
     have hi3:inI .i64 (W-pp):=bl (by omega) (by omega);clear h1 h2 h2' h3 hr hw hn hwm hla
     repeat' (first|(with_reducible first|refine qB (id:=3) 16 ?_ ?_|refine ak ?_|refine bA ?_|refine aH ?_|refine aj ?_|refine aD ?_|intro _)|(simp[*,hlt,hlw,hq,hi2,hne,hm]))
     all_goals try first|omega|assumption
     refine vb rfl (by simp) ?_
     repeat' (first|(with_reducible first|refine ak ?_|refine uQ ?_|refine aj ?_|refine bo (id:=10) 14 mixed (by decide +kernel) ?_|refine And.intro ?_ ?_|refine cw (c1) ?_|intro _)|(simp[*,hlo,h6,hi1,hi3,hww])|(refine ai (c1) ?_ ?_;(· (simp[*];done))))
     all_goals try first|omega|assumption
     refine AB [(1,[.w false false (.int .i64 (CK (k+1)))]),(0,[.w false false (.ip [.sl af.length (bF af),.sl os.length (bD os),.sl wt.length (b8 wt),.sl zs.length (bH zs),.sl fit.length (jZ fit)] 0)])] 2 46 ?_ ?_
     ·refine iG [] ?_ ?_<;>first|trivial|(simp[h4];done)
     repeat' (first|(with_reducible first|refine aH ?_|refine aj ?_|refine aD ?_|intro _)|(simp[*,hlt,hlw,hq,hi2,hne,hm]))
     all_goals first
      |omega
      |assumption
      |(refine nx (k+1) ?_ ?_;(· exact hz);(refine iG [] ?_ ?_<;>first|trivial|(simp[*];done)))
   ·have hke:k=plan.length:=by omega
    subst hke
    repeat' (first|(with_reducible first|refine ak ?_|refine bf ?_|refine aj ?_|refine aD ?_|intro _)|(simp[*,hlt]))
    all_goals first
     |omega
     |(refine bY () ?_ ?_;(· trivial);(refine aX ?_ ?_<;>first|trivial|(simp[*];done)))
  ·repeat' (first|(with_reducible first|intro _)|(simp[*]))
   simp[cH];refine iI (iH ?_)
   repeat' (first|(with_reducible first|refine aj ?_|intro _)|(simp[*]))
   refine iH ?_
   repeat' (first|(with_reducible first|refine aA ?_|intro _)|(simp[*]))
end Go.Proofs.YthpkmilhiganjaaGreat
namespace Go.Proofs.YthpkmilhiganjaaGreat
open Go Go.Fi
theorem AE(x:Rd)(plan:List Int)(h:(eb x plan).2=0):ry x plan:=by
 unfold eb at h;split at h
 ·exact absurd h (show (10:Int)≠0 by decide)
 ·rename_i hl
  have hz:=fun j hj=>nH h j hj
  refine⟨by have:=Classical.not_not.1 hl;omega,fun k hk=>?_⟩;have h1:=hz k hk;simp only[Nat.zero_add] at h1;unfold gv at h1;by_cases hn:nth plan k=-1
  ·exact .inl hn
  ·rw[if_neg hn] at h1;split at h1
   ·rename_i h2;exact absurd h1 h2
   ·rename_i h2;have:=gJ.1 (eY (by decide) (Classical.not_not.1 h2));exact .inr ⟨this.1,by omega⟩
noncomputable def jg(r:Tw.RND)(plan:List Int):Int×Int:=
 if ceR r≠0 then (0,ceR r) else if (eb (ba r) plan).2≠0 then (0,(eb (ba r) plan).2) else (mL (ba r) plan,0)
noncomputable instance instLD23:ah:=LD
theorem Ir(r:Tw.RND)(plan:List Int)(hp:plan.length<100000):az Tz.prog 23 [Tw.bn r,.sl plan.length (ints plan)] (.tup [.int .i64 (jg r plan).1,.int .i64 (jg r plan).2]) false:=by
 unfold jg;by_cases h:ceR r=0
 ·rw[if_neg (by simpa using h)];have c1:=H8 r plan hp h;have ok:=wB r h;by_cases h2:(eb (ba r) plan).2=0
  ·rw[if_neg (by simpa using h2)];rw[h2] at c1;have c2:=Iq (ba r) ok plan (AE _ _ h2);generalize mL (ba r) plan=C at *;unfold Rd.pv at *;generalize ba r=x at *;unfold Tw.bn at *;generalize r.dV=p1 at *;generalize r.osP=p2 at *;generalize r.eH=p3 at *;generalize r.zsP=p4 at *;clear ok h h2;refine rcK Tz.func23 ?_;simp only[Tryz.results23,Tryz.ntmps23]
   repeat' (first|(with_reducible first|refine ak ?_|refine aH ?_|refine aA ?_|refine aj ?_|refine aD ?_|refine And.intro ?_ ?_|refine cw (c1) ?_|refine cw (c2) ?_|intro _)|(simp[*])|(refine ai (c1) ?_ ?_;(· (simp[*];done)))|(refine ai (c2) ?_ ?_;(· (simp[*];done))))
  ·rw[if_pos h2];generalize (eb (ba r) plan).2=e at *;unfold Rd.pv at *;generalize ba r=x at *;unfold Tw.bn at *;generalize r.dV=p1 at *;generalize r.osP=p2 at *;generalize r.eH=p3 at *;generalize r.zsP=p4 at *;clear ok h;refine rcK Tz.func23 ?_;simp only[Tryz.results23,Tryz.ntmps23]
   repeat' (first|(with_reducible first|refine ak ?_|refine aA ?_|refine aj ?_|refine aD ?_|refine And.intro ?_ ?_|refine cw (c1) ?_|intro _)|(simp[*])|(refine ai (c1) ?_ ?_;(· (simp[*];done))))
 ·rw[if_pos h];have c1:=H9 r plan h;generalize ceR r=e at *;unfold Tw.bn at *;generalize r.dV=p1 at *;generalize r.osP=p2 at *;generalize r.eH=p3 at *;generalize r.zsP=p4 at *;refine rcK Tz.func23 ?_;simp only[Tryz.results23,Tryz.ntmps23]
  repeat' (first|(with_reducible first|refine ak ?_|refine aA ?_|refine aj ?_|refine aD ?_|refine And.intro ?_ ?_|refine cw (c1) ?_|intro _)|(simp[*])|(refine ai (c1) ?_ ?_;(· (simp[*];done))))
def eM(f:Nat→Int):Nat→Int
 |0=>0
 |k+1=>eM f k+f k
theorem qC{f g:Nat→Int}:∀n,(∀k,k<n→f k≤g k)→eM f n≤eM g n
 |0,_=>Int.le_refl _
 |n+1,h=>by
  have:=qC n (fun k hk=>h k (by omega));have:=h n (by omega);unfold eM;omega
theorem AF{f g:Nat→Int}(n:Nat)(h:∀k,k<n→f k=g k):eM f n=eM g n:=
 Int.le_antisymm (qC n fun k hk=>Int.le_of_eq (h k hk)) (qC n fun k hk=>Int.le_of_eq (h k hk).symm)
theorem AG{f g:Nat→Int}{c:Nat}{v:Int}:∀n,c<n→(∀k,k<n→k≠c→g k=f k)→g c=f c+v→eM g n=eM f n+v
 |n+1,hc,h,hv=>by
  unfold eM;by_cases e:c=n
  ·subst e;have:=AF (f:=g) (g:=f) c (fun k hk=>h k (by omega) (by omega));omega
  ·have:=AG n (by omega) (fun k hk hn=>h k (by omega) hn) hv;have:=h n (by omega) (fun e'=>e e'.symm);omega
theorem AH(l:List Int):∀n,bw l n=eM (nth l) n
 |0=>rfl
 |n+1=>by unfold bw eM;rw[AH l n]
def im(pc plan:List Int):Nat→Int
 |0=>0
 |k+1=>if nth plan k=-1 then im pc plan k else im pc plan k+nth pc (nth plan k).toNat
structure rz(x:Rd)(plan:List Int):Prop extends ry x plan where
 fit:∀k,k<plan.length→nth plan k≠-1→nth (nth x.fit k) (nth plan k).toNat=true
 once:∀k,k<plan.length→nth plan k≠-1→∀j,j<k→nth plan j≠nth plan k
theorem Is{p:Int→Bool}{l:List Int}{k:Nat}(h:(l.take k).any p=false){j:Nat}(hj:j<k)(hl:j<l.length):p (nth l j)=false:=by
 have:=List.any_eq_false.1 h (nth l j) (by
  rw[List.mem_take_iff_getElem];refine⟨j,by omega,?_⟩
  simp[nth,List.getD_eq_getElem?_getD,List.getElem?_eq_getElem hl])
 simpa using this
theorem It(x:Rd)(plan:List Int)(h:(eb x plan).2=0):rz x plan:=by
 have hin:=AE x plan h
 have hz:∀k,k<plan.length→nth plan k≠-1→nth (nth x.fit k) (nth plan k).toNat=true∧((plan.take k).any fun y=>decide (nth plan k=y))=false:=fun k hk hn=>by
  unfold eb at h;split at h
  ·exact absurd h (show (10:Int)≠0 by decide)
  ·have h1:=nH h k hk;simp only[Nat.zero_add] at h1;unfold gv at h1;rw[if_neg hn] at h1;split at h1
   ·rename_i h2;exact absurd h1 h2
   ·obtain⟨h3,h4⟩:=dg h1;obtain⟨h5,_⟩:=dg h4;exact⟨eY (by decide) h3,not_true (eY (by decide) h5)⟩
 exact⟨hin,fun k hk hn=>(hz k hk hn).1,fun k hk hn j hj e=>by
  have:=Is (hz k hk hn).2 hj (by omega);rw[e] at this
  simp at this⟩
theorem AI(x:Rd)(pc plan:List Int)(h:rz x plan):∀k,k≤plan.length→im pc plan k=eM (fun c=>if (plan.take k).contains (c:Int) then nth pc c else 0) x.af.length
 |0,_=>by
  have:∀n,eM (fun c=>if (plan.take 0).contains (c:Int) then nth pc c else 0) n=0:=fun n=>by
   induction n with
   |zero=>rfl
   |succ n ih=>unfold eM;rw[ih];simp
  rw[this];rfl
 |k+1,hk=>by
  have ih:=AI x pc plan h k (by omega)
  have ht:plan.take (k+1)=plan.take k++[nth plan k]:=by
   rw[List.take_succ_eq_append_getElem (by omega)];simp[nth,List.getD_eq_getElem?_getD,List.getElem?_eq_getElem (show k<plan.length by omega)]
  unfold im;by_cases hn:nth plan k=-1
  ·rw[if_pos hn,ih]
   refine AF _ fun c hc=>?_
   rw[ht,hn]
   have:((c:Int) == -1)=false:=by first|(simp;done)|(simp;omega)
   simp[List.contains_append,this]
  ·rw[if_neg hn,ih];have hr:=(h.at_ k (by omega)).resolve_left hn;have hone:=h.once k (by omega) hn;refine (AG (c:=(nth plan k).toNat) _ (by omega) (fun c hc hne=>?_) ?_).symm
   ·rw[ht]
    have hne2:¬(c:Int)=nth plan k:=by omega
    simp[hne2]
   ·have e:(((nth plan k).toNat:Nat):Int)=nth plan k:=by omega
    rw[e,ht]
    have hno:¬nth plan k∈plan.take k:=by
     intro hc;rw[List.mem_take_iff_getElem] at hc;obtain⟨j,hj,e⟩:=hc;exact hone j (by omega) (by rw[←e];simp[nth,List.getD_eq_getElem?_getD,List.getElem?_eq_getElem (show j<plan.length by omega)])
    simp[hno]
theorem Iu(x:Rd)(pc plan:List Int)(h:rz x plan)(hp:∀c,c<x.af.length→0≤nth pc c):im pc plan plan.length≤bw pc x.af.length:=by
 rw[AI x pc plan h _ (Nat.le_refl _),AH]
 refine qC _ fun c hc=>?_
 have:=hp c hc
 split<;>omega
theorem Cv(row:List Bool)(w p:List Int)(m0:Int):∀n,mK row w p m0 n≤m0∧∀k,k<n→nth row k=true→mK row w p m0 n≤nth w k+nth p k
 |0=>⟨Int.le_refl _,fun k hk=>absurd hk (by omega)⟩
 |n+1=>by
  obtain⟨h1,h2⟩:=Cv row w p m0 n;unfold mK;refine⟨?_,fun k hk hr=>?_⟩
  ·split
   ·split<;>omega
   ·exact h1
  ·by_cases e:k=n
   ·subst e;rw[if_pos hr]
    split<;>omega
   ·have:=h2 k (by omega) hr;split
    ·split<;>omega
    ·exact this
theorem AJ{x:Rd}{pc:List Int}:∀{l:List Int}{k:Nat},gw x pc l k=false→∀j,j<l.length→nth l j≤lj x (k+j) pc
 |[],_,_,j,hj=>absurd hj (by simp)
 |n::r,k,h,j,hj=>by
  unfold gw at h;rw[Bool.or_eq_false_iff] at h
  cases j with
  |zero=>
   have:=h.1;simp at this;simpa[nth] using this
  |succ j=>
   have:=AJ h.2 j (by simpa using hj);rw[show k+1+j=k+(j+1) by omega] at this;simpa[nth] using this
theorem AK(x:Rd)(ok:lh x)(po pc plan:List Int)(h:rz x plan)(hl:po.length=x.os.length)(ho:∀i,i<po.length→nth po i≤lj x i pc):∀k,k≤plan.length→eL x x.os.length-eL x k+bw po k-im pc plan k≤dn x plan k
 |0,_=>by unfold dn im;simp
 |k+1,hk=>by
  have ih:=AK x ok po pc plan h hl ho k (by omega)
  have hko:k<x.os.length:=by have:=h.len;omega
  have h1:=ho k (by omega);have h2:=Cv (nth x.fit k) (nth x.wt k) pc (cm (nth x.os k).2.2.2.toNat) (nth x.fit k).length;unfold lj at h1
  rw[show dn x plan (k+1)=if nth plan k=-1 then dn x plan k else dn x plan k+(mJ x k (nth plan k)-cm (prio x k)) from rfl,show im pc plan (k+1)=if nth plan k=-1 then im pc plan k else im pc plan k+nth pc (nth plan k).toNat from rfl,
   show eL x (k+1)=eL x k+cm (prio x k) from rfl,show bw po (k+1)=bw po k+nth po k from rfl]
  unfold mJ prio;by_cases hn:nth plan k=-1
  ·rw[if_pos hn,if_pos hn];have:=h2.1;omega
  ·rw[if_neg hn,if_neg hn];have hr:=(h.at_ k (by omega)).resolve_left hn;have h3:=h2.2 (nth plan k).toNat (by rw[ok.fr k hko];omega) (h.fit k (by omega) hn);omega
theorem Iv(x:Rd)(ok:lh x)(po pc plan:List Int)(h:(eb x plan).2=0)(hl:po.length=x.os.length)(hc:pc.length=x.af.length)(hp:(je x po pc).2=0):(je x po pc).1≤mL x plan:=by
 have hk:=It x plan h;unfold je at hp ⊢;split at hp
 ·exact absurd hp (show (2:Int)≠0 by decide)
 rename_i g1;split at hp
 ·exact absurd hp (show (2:Int)≠0 by decide)
 rename_i g2;split at hp
 ·exact absurd hp (show (20:Int)≠0 by decide)
 rename_i g3;rw[if_neg g1,if_neg g2,if_neg g3]
 have h0:∀c,c<x.af.length→0≤nth pc c:=fun c hcc=>by
  have:=List.any_eq_false.1 (by simpa using g2:pc.any il=false) (nth pc c) (by
   rw[nth,List.getD_eq_getElem?_getD,List.getElem?_eq_getElem (by omega)];exact List.getElem_mem _)
  simp only[il,Bool.not_eq_true,Bool.not_eq_false'] at this;exact (gJ.1 this).1
 have h1:=AK x ok po pc plan hk hl (fun i hi=>by have:=AJ (by simpa using g3) i hi;rwa [Nat.zero_add] at this) plan.length (Nat.le_refl _);have h2:=Iu x pc plan hk h0;have e1:plan.length=x.os.length:=hk.len;unfold mL;rw[e1] at h1 ⊢;rw[hl,hc];rw[e1] at h2;simp only[];omega
end Go.Proofs.YthpkmilhiganjaaGreat
namespace Go.Proofs.YthpkmilhiganjaaGreat
open Go Go.Fi
variable[ah]
def rd2:PV:=.ip [.sl 2 [.str ⟨#[97]⟩,.int .i64 4,.bool false,.str ⟨#[98]⟩,.int .i64 4,.bool false],.sl 2 [.str ⟨#[112]⟩,.int .i64 1,.bool false,.int .i64 0,.str ⟨#[113]⟩,.int .i64 1,.bool false,.int .i64 0],.sl 2 [.sl 2 [.int .i64 100,.int .i64 200],.sl 2 [.int .i64 150,.int .i64 400]],.sl 0 [],.sl 2 [.sl 2 [.bool true,.bool true],.sl 2 [.bool true,.bool true]]] 0
theorem AM:az Tz.prog 116 [.int .i64 0] (.int .i64 1000000) true:=oh 0 (by decide)
theorem AN(l:List PV):az Tz.prog 86 [rd2,.sl 2 l] (.fn 122 [.ip [.sl 2 l] 0,.ip [rd2] 0]) false:=by
 unfold rd2;refine rcK Tz.func86 ?_;simp only[Tryz.results86,Tryz.ntmps86]
 repeat' (first|(with_reducible first|refine ak ?_|refine aA ?_|refine aj ?_|intro _)|(simp[*]))
theorem AO:az Tz.prog 78 [rd2,.sl 2 [.int .i64 0,.int .i64 1]] (.int .i64 500) true∧az Tz.prog 78 [rd2,.sl 2 [.int .i64 1,.int .i64 0]] (.int .i64 350) true:=by
 have c1:=AM
 have c2:=fun l=>AN l
 unfold rd2 at *;constructor
 all_goals
  refine qy Tz.func78 (by kernel_rfl) rfl (Nat.le_of_ble_eq_true (by kernel_rfl)) ?_;simp only[Tryz.results78,Tryz.ntmps78]
  repeat' (first|(with_reducible first|refine iI ?_|refine qx ?_|refine uW (gf:=122) rfl Tz.func122 (by kernel_rfl) rfl (Nat.le_of_ble_eq_true (by kernel_rfl)) (fun l=>?_)|refine iH ?_|refine qB (id:=3) 16 ?_ ?_|refine vb rfl (by simp) ?_|refine AL ?_|refine eu 40 ?_|refine eN ?_|refine cO ?_|refine ak ?_|refine aH ?_|refine aA ?_|refine bf ?_|refine aj ?_|refine bo (id:=5) 5 mixed (by decide +kernel) ?_|refine bo (id:=10) 14 mixed (by decide +kernel) ?_|refine aD ?_|refine And.intro ?_ ?_|refine cw (c1) ?_|refine cw (c2 _) ?_|intro _)|(simp[*,Tw.bE,cH,eI])|(refine ai (c1) ?_ ?_;(· (simp[*];done)))|(refine ai (c2 _) ?_ ?_;(· (simp[*];done))))
 all_goals first|exact cN (by decide)|(simp[touch];done)
theorem ID:az Tz.prog 80 [.ip [.sl 2 [.str ⟨#[97]⟩,.int .i64 4,.bool false,.str ⟨#[98]⟩,.int .i64 4,.bool false],.sl 2 [.str ⟨#[112]⟩,.int .i64 1,.bool false,.int .i64 0,.str ⟨#[113]⟩,.int .i64 1,.bool false,.int .i64 0],.sl 2 [.sl 2 [.int .i64 100,.int .i64 200],.sl 2 [.int .i64 150,.int .i64 400]],.sl 0 [],.sl 2 [.sl 2 [.bool true,.bool true],.sl 2 [.bool true,.bool true]]] 0] (.sl 2 [.sl 4 (ints [100,200,1000000,1000000000000000]),.sl 4 (ints [150,400,1000000000000000,1000000])]) true:=by
 have c1:=oh 0 (by decide)
 have e:(cm 0:Int)=1000000:=by kernel_rfl
 rw[e] at c1;refine rcK Tz.func80 ?_;simp only[Tryz.results80,Tryz.ntmps80]
 repeat' (first|(with_reducible first|refine eu 40 ?_|refine eN ?_|refine cO ?_|refine ak ?_|refine aH ?_|refine aA ?_|refine bf ?_|refine aj ?_|refine aD ?_|refine And.intro ?_ ?_|refine cw (c1) ?_|intro _)|(simp[*,Tw.bE,ints])|(refine ai (c1) ?_ ?_;(· (simp[*];done))))
 all_goals exact cN (by decide)
theorem AS(n:Nat)(h:n=2∨n=4):az Tz.prog 118 [.int .u64 1,.int .u64 n] (.tup [.int .u64 0,.int .u64 n]) true:=by
 have c:az Tz.prog 154 [.int .u64 1,.int .u64 n] (.tup [.int .u64 0,.int .u64 n]) true:=by
  rcases h with rfl|rfl
  all_goals
   refine rcK Tz.func154 ?_;simp only[Tryz.results154,Tryz.ntmps154]
   repeat' (first|(with_reducible first|refine ak ?_|refine aA ?_|refine aj ?_|refine And.intro ?_ ?_|intro _)|(simp[*]))
  all_goals exact cN (by decide)
 refine rcK Tz.func118 ?_;simp only[Tryz.results118,Tryz.ntmps118]
 repeat' (first|(with_reducible first|refine ak ?_|refine aH ?_|refine aA ?_|refine aj ?_|refine aD ?_|refine And.intro ?_ ?_|refine cw (c) ?_|intro _)|(simp[*])|(refine ai (c) ?_ ?_;(· (simp[*];done))))
theorem Cy(v:Int):kJ Tz.prog 81 [.sl 1 [.int .i64 v],.int .i64 (4:Nat)] [[.w false false (.int .i64 v),.w false false (.int .i64 v),.w false false (.int .i64 v),.w false false (.int .i64 v)]] (.msl 0 4 1 0 4):=by
 have c:=AS 4 (.inr rfl);refine AR 0 [] Tz.func81 (by kernel_rfl) rfl (Nat.le_of_ble_eq_true (by kernel_rfl)) (by simp) (by intro c hc;simp only[List.mem_singleton] at hc;subst hc;rfl) ?_;simp only[Tryz.results81,Tryz.ntmps81]
 repeat' (first|(with_reducible first|refine eu 40 ?_|refine eN ?_|refine cO ?_|refine ak ?_|refine aH ?_|refine aA ?_|refine bf ?_|refine aj ?_|refine qo (id:=9) [0,1,2,3,4,5,6] [7,8,9] [[.slot 7],[],[],[],[],[],[]] [[.slot 7],[],[]] mixed (by decide +kernel) ?_|refine aD ?_|refine And.intro ?_ ?_|refine cw (c) ?_|intro _)|(simp[*])|(refine ai (c) ?_ ?_;(· (simp[*];done))))
 all_goals first|exact cN (by decide)|(simp[touch];done)
theorem IE:az Tz.prog 79 [.sl 2 [.sl 4 [.int .i64 100,.int .i64 200,.int .i64 1000000,.int .i64 1000000000000000],.sl 4 [.int .i64 150,.int .i64 400,.int .i64 1000000000000000,.int .i64 1000000]],.int .i64 4] (.ip [.sl 2 [.sl 4 [.int .i64 100,.int .i64 200,.int .i64 1000000,.int .i64 1000000000000000],.sl 4 [.int .i64 150,.int .i64 400,.int .i64 1000000000000000,.int .i64 1000000]],.sl 2 [.int .i64 200,.int .i64 250],.sl 4 [.int .i64 (-100),.int .i64 0,.int .i64 0,.int .i64 0],.sl 4 [.int .i64 1,.int .i64 0,.int .i64 (-1),.int .i64 (-1)],.sl 4 [.int .i64 (-1),.int .i64 0,.int .i64 0,.int .i64 (-1)]] 0) false:=by
 have r1:=Cy (-1);have r2:=Cy 10000000000000000;refine rcK Tz.func79 ?_;simp only[Tryz.results79,Tryz.ntmps79]
 repeat' (first|(with_reducible first|refine nI (id:=5) 2 Tz.func117 (by kernel_rfl) rfl (by decide) rfl ?_|refine AP (by decide) (by simp) rfl ?_|refine eu 40 ?_|refine eN ?_|refine cO ?_|refine Iz ?_|refine IA ?_|refine ak ?_|refine aH ?_|refine aA ?_|refine bf ?_|refine aj ?_|refine bo (id:=1) 12 mixed (by decide +kernel) ?_|refine bo (id:=1) 7 mixed (by decide +kernel) ?_|refine bo (id:=9) 27 mixed (by decide +kernel) ?_|refine bo (id:=20) 16 mixed (by decide +kernel) ?_|refine bo (id:=32) 13 mixed (by decide +kernel) ?_|refine aD ?_|refine And.intro ?_ ?_|refine cwM (r1) ?_|refine cwM (r2) ?_|intro _)|(simp[*,cH,eI]))
 all_goals try first|exact cN (by decide)|(simp[touch];done)
end Go.Proofs.YthpkmilhiganjaaGreat
namespace Go.Proofs.YthpkmilhiganjaaGreat
open Go Go.Fi
noncomputable instance VK:ah:=LD
theorem IF:ceR gu=0:=by kernel_rfl
theorem nJ:az Tz.prog 69 [Tw.bn gu] (.tup [rd2,.int .i64 0]) false:=by
 have c:=jc gu;rw[nG gu IF] at c;exact c
theorem AT:az Tz.prog 70 [.sl 2 [.int .i64 0,.int .i64 0]] (.int .i64 0) true:=uX [0,0] (by decide)
theorem IG:az Tz.prog 111 [rd2,.sl 2 [.int .i64 0,.int .i64 1]] (.tup [.int .i64 0,.int .i64 0]) true:=by
 have k:∀n:Int,(n=0∨n=1)→az Tz.prog 91 [rd2,.int .i64 n] (.int .i64 0) true:=fun n h=>by
  rcases h with rfl|rfl
  all_goals
   unfold rd2;refine rcK Tz.func91 ?_;simp only[Tryz.results91,Tryz.ntmps91]
   repeat' (first|(with_reducible first|refine ak ?_|refine aA ?_|refine aj ?_|refine And.intro ?_ ?_|refine cw (cV _ _ _) ?_|refine cw (bK _ _) ?_|intro _)|(simp[*])|(refine ai (cV _ _ _) ?_ ?_;(· (simp[*];done)))|(refine ai (bK _ _) ?_ ?_;(· (simp[*];done))))
  all_goals first|exact cN (by decide)|decide
 have k0:=k 0 (.inl rfl);have k1:=k 1 (.inr rfl);have i0:az Tz.prog 123 [.sl 0 [],.int .i64 0] (.bool false) true:=lQ [] (by decide) 0;have i1:az Tz.prog 123 [.sl 1 [.int .i64 0],.int .i64 1] (.bool false) true:=lQ [0] (by decide) 1
 have u:∀e,az Tz.prog 71 [.bool true,.int .i64 e] (.int .i64 0) true:=fun e=>bK true e
 have f:=AT;clear k;unfold rd2 at *;refine rcK Tz.func111 ?_;simp only[Tryz.results111,Tryz.ntmps111]
 repeat' (first|(with_reducible first|refine eu 40 ?_|refine eN ?_|refine cO ?_|refine ak ?_|refine aH ?_|refine aA ?_|refine bf ?_|refine aj ?_|refine bo (id:=10) 21 mixed (by decide +kernel) ?_|refine aD ?_|refine And.intro ?_ ?_|refine cw (k0) ?_|refine cw (k1) ?_|refine cw (i0) ?_|refine cw (i1) ?_|refine cw (u _) ?_|refine cw (f) ?_|intro _)|(simp[*])|(refine ai (k0) ?_ ?_;(· (simp[*];done)))|(refine ai (k1) ?_ ?_;(· (simp[*];done)))|(refine ai (i0) ?_ ?_;(· (simp[*];done)))|(refine ai (i1) ?_ ?_;(· (simp[*];done)))|(refine ai (u _) ?_ ?_;(· (simp[*];done)))|(refine ai (f) ?_ ?_;(· (simp[*];done))))
 all_goals first|exact cN (by decide)|(simp[touch];done)
theorem IH:az Tz.prog 23 [Tw.bn gu,.sl 2 [.int .i64 0,.int .i64 1]] (.tup [.int .i64 500,.int .i64 0]) true:=by
 have c1:=nJ;have c2:=IG;have c3:=AO.1
 have c4:az Tz.prog 77 [Tw.bn gu,.sl 2 [.int .i64 0,.int .i64 1]] (.tup [rd2,.int .i64 0]) false:=by
  clear c3;rw[kD] at *;unfold rd2 at *;refine rcK Tz.func77 ?_;simp only[Tryz.results77,Tryz.ntmps77]
  repeat' (first|(with_reducible first|refine ak ?_|refine aA ?_|refine aj ?_|refine aD ?_|refine And.intro ?_ ?_|refine cw (c1) ?_|refine cw (c2) ?_|intro _)|(simp[*])|(refine ai (c1) ?_ ?_;(· (simp[*];done)))|(refine ai (c2) ?_ ?_;(· (simp[*];done))))
 clear c1 c2;rw[kD] at *;unfold rd2 at *;refine rcK Tz.func23 ?_;simp only[Tryz.results23,Tryz.ntmps23]
 repeat' (first|(with_reducible first|refine ak ?_|refine aH ?_|refine aA ?_|refine aj ?_|refine aD ?_|refine And.intro ?_ ?_|refine cw (c3) ?_|refine cw (c4) ?_|intro _)|(simp[*])|(refine ai (c3) ?_ ?_;(· (simp[*];done)))|(refine ai (c4) ?_ ?_;(· (simp[*];done))))
end Go.Proofs.YthpkmilhiganjaaGreat
