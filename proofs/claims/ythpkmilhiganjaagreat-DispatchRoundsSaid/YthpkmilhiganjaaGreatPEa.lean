/- Lemmas. -/
import Derived.Test.YthpkmilhiganjaaGreatPDb
import Derived.Test.YthpkmilhiganjaaGreatPDa
import Derived.Test.YthpkmilhiganjaaGreatPLg
set_option linter.unusedSimpArgs false
set_option linter.unusedVariables false
set_option linter.unusedSectionVars false
set_option maxHeartbeats 32000000
set_option maxRecDepth 100000
namespace Go.Proofs.YthpkmilhiganjaaGreat
open Go Go.Fi
variable[ar]
theorem cd(s:ByteArray)(hs:s.size<1000000):aA Tz.prog 134 [.str s] (.bool (dH s)) true:=by
 refine rcK Tz.func134 ?_;simp only[Tryz.results134,Tryz.ntmps134]
 repeat' (first|(with_reducible first|refine af ?_|refine av ?_|refine az ?_|refine ae ?_|refine ak ?_|refine tB ?_ ?_|refine dO ?_ ?_|intro _)|(simp[*]))
 ·exact Kz (by omega)
 rotate_left
 ·rename_i h0;exact Dk (by have:=of_decide_eq_true h0;omega)
 rename_i hA hB
 have hpos:s.size≠0:=by have:=of_decide_eq_false hA;omega
 refine tG (fun k:Nat=>k≤s.size∧iY s k=true) [0] (fun k=>[(3,.w false false (.int .i64 k))]) (fun _=>[]) (fun k=>s.size-k)
  (fun _:Unit=>iY s s.size=true) [0] (fun _=>[]) (fun _=>[]) 0 ⟨Nat.zero_le _,rfl⟩ (by simp) (by simp) (fun k hk=>?_) (fun _ hf=>?_)
 ·obtain⟨hk,hf⟩:=hk
  repeat' (first|(with_reducible first|refine af ?_|refine aD ?_|refine av ?_|refine az ?_|refine aJ ?_|refine ae ?_|refine ak ?_|refine And.intro ?_ ?_|refine tB ?_ ?_|refine tA ?_ ?_|refine dO ?_ ?_|intro _)|(simp[*]))
  all_goals first
   |exact aF (by omega) (by omega)
   |omega
   |(refine nx (k+1) ?_ ?_;(· refine⟨by omega,?_⟩;unfold iY;rw[hf];clear hf;simp[okB,qT] at *;omega);(refine aB ?_ ?_<;>first|trivial|(simp[*];done)))
   |(refine aT () ?_ ?_;(· rw[show s.size=k by omega];exact hf);(refine aB ?_ ?_<;>first|trivial|(simp[*];done)))
   |(unfold dH;rw[yc s k (by clear hf;simp[okB,qT] at *;omega) s.size (by omega)];rfl)
 ·repeat' (first|(with_reducible first|refine af ?_|refine az ?_|refine ae ?_|intro _)|(simp[*]))
  all_goals (rw[Dl hf hpos];simp;omega)
theorem eB(ab:List Car)(os:List Ord)(wt:List (List Int))(zs:List Par)(i:Nat)(hi:i<ab.length)(hl:ab.length≤1000)(hs:∀x∈ab,x.1.size<1000000):aA Tz.prog 108 [.agg [.sl ab.length (aQ ab),.sl os.length (aP os),.sl wt.length (aZ wt),.sl zs.length (aS zs)],.int .i64 i] (.int .i64 (fE Prod.fst dI ab i (nth ab i))) true:=by
 have c1:=cd (nth ab i).1 (hs _ (ew hi));have c2:=jm (nth ab i).2.1 1 8;generalize hR:fE Prod.fst dI ab i (nth ab i)=R;unfold fE dI at hR;clear hs
 cases hb:dH (nth ab i).1 with
 |false=>
  rw[hb] at c1 hR;have hR:(4:Int)=R:=hR;subst hR;clear hb c2;refine rcK Tz.func108 ?_;simp only[Tryz.results108,Tryz.ntmps108]
  repeat' (first|(with_reducible first|refine af ?_|refine az ?_|refine ae ?_|refine ak ?_|refine And.intro ?_ ?_|refine cw (c1) ?_|intro _)|(simp[*,hi])|(refine ai (c1) ?_ ?_;(· (simp[*];done))))
  all_goals first|omega
 |true=>
  rw[hb] at c1 hR;clear hb;have hR:bL [aU (!((ab.take i).any fun y=>decide (y.1=(nth ab i).1))) 5,aU (aL (nth ab i).2.1 1 8) 2]=R:=hR;generalize hA:((ab.take i).any fun y=>decide (y.1=(nth ab i).1))=A at hR;have kA:aI (((ab.take i).drop 0).any (fun y=>decide (y.1=(nth ab i).1))=A):=hA;have kR:=keep hR;clear hA hR;refine rcK Tz.func108 ?_;simp only[Tryz.results108,Tryz.ntmps108]
  repeat' (first|(with_reducible first|refine af ?_|refine av ?_|refine ae ?_|refine ak ?_|refine And.intro ?_ ?_|refine cw (c1) ?_|intro _)|(simp[*,hi])|(refine ai (c1) ?_ ?_;(· (simp[*];done))))
  all_goals try first|omega|assumption
  refine bF (fun(k:Nat)=>k≤i∧((ab.take i).drop k).any (fun y=>decide (y.1=(nth ab i).1))=A) [1,2] (fun(k:Nat)=>[(5,.w false false (.int .i64 k))]) [0] (fun(k:Nat)=>[]) (fun(k:Nat)=>i-k) (fun(_u:Unit)=>A=false) [1,2] (fun(_u:Unit)=>[]) [0] (fun(_u:Unit)=>[]) (0) ⟨Nat.zero_le _,kA⟩ (by simp) (by simp) (fun k hk=>?_) (fun _u hf=>?_)
  ·obtain⟨hk,hj⟩:=hk;clear c1;by_cases hlt:k<i
   ·have hkl:k<ab.length:=by omega
    have hlt2:k<(ab.take i).length:=by rw[List.length_take];omega
    rw[b8 _ k hlt2,List.any_cons] at hj
    have e:nth (ab.take i) k=nth ab k:=by
     simp[nth,List.getD_eq_getElem?_getD,List.getElem?_take,hlt]
    rw[e] at hj;have kj:=keep hj;clear hj e hlt2;by_cases hn:(nth ab k).1=(nth ab i).1
    ·have hA:A=true:=by have h:=kj;unfold aI at h;rw[←h];simp[hn]
     subst hA;have hR:(5:Int)=R:=kR;subst hR;clear kj kR kA
     repeat' (first|(with_reducible first|refine af ?_|refine aD ?_|refine av ?_|refine az ?_|refine ae ?_|refine aK (id:=6) 13 mixed (by decide +kernel) ?_|refine ak ?_|intro _)|(simp[*,hlt,hkl,hi,hn]))
     all_goals first|omega|exact aF (by omega) (by omega)
    ·have kj2:aI (((ab.take i).drop (k+1)).any (fun y=>decide (y.1=(nth ab i).1))=A):=by have h:=kj;unfold aI at h ⊢;rw[←h];simp[hn]
     clear kj kA
     repeat' (first|(with_reducible first|refine af ?_|refine aD ?_|refine av ?_|refine ae ?_|refine aK (id:=6) 13 mixed (by decide +kernel) ?_|refine ak ?_|refine And.intro ?_ ?_|intro _)|(simp[*,hlt,hkl,hi,hn]))
     all_goals first
      |omega
      |exact aF (by omega) (by omega)
      |(refine nx (k+1) ?_ ?_;(· exact⟨by omega,kj2⟩);(refine aB ?_ ?_<;>first|trivial|(simp[*];done)))
   ·have hke:k=i:=by omega
    subst hke;have hj2:aI (A=false):=keep (by rw[←hj];simp);clear hj kA
    repeat' (first|(with_reducible first|refine af ?_|refine aJ ?_|refine ae ?_|refine ak ?_|intro _)|(simp[*]))
    all_goals first
     |omega
     |(refine aT () ?_ ?_;(· exact hj2);(refine aB ?_ ?_<;>first|trivial|(simp[*];done)))
  ·subst hf;clear kA c1
   cases hw:aL (nth ab i).2.1 1 8 with
   |true=>
    rw[hw] at c2 kR;have hR:(0:Int)=R:=kR;subst hR;clear kR hw
    repeat' (first|(with_reducible first|refine af ?_|refine av ?_|refine az ?_|refine ae ?_|refine ak ?_|refine And.intro ?_ ?_|refine cw (c2) ?_|intro _)|(simp[*,hi])|(refine ai (c2) ?_ ?_;(· (simp[*];done))))
    all_goals first|omega
   |false=>
    rw[hw] at c2 kR;have hR:(2:Int)=R:=kR;subst hR;clear kR hw
    repeat' (first|(with_reducible first|refine af ?_|refine az ?_|refine ae ?_|refine ak ?_|refine And.intro ?_ ?_|refine cw (c2) ?_|intro _)|(simp[*,hi])|(refine ai (c2) ?_ ?_;(· (simp[*];done))))
    all_goals first|omega
theorem eC(ab:List Car)(os:List Ord)(wt:List (List Int))(zs:List Par)(i:Nat)(hi:i<os.length)(hl:os.length≤1000)(hs:∀x∈os,x.1.size<1000000):aA Tz.prog 109 [.agg [.sl ab.length (aQ ab),.sl os.length (aP os),.sl wt.length (aZ wt),.sl zs.length (aS zs)],.int .i64 i] (.int .i64 (fE Prod.fst dj os i (nth os i))) true:=by
 have c1:=cd (nth os i).1 (hs _ (ew hi));have c2:=jm (nth os i).2.1 1 8;have c3:=jm (nth os i).2.2.2 0 6;generalize hR:fE Prod.fst dj os i (nth os i)=R;unfold fE dj at hR;clear hs
 cases hb:dH (nth os i).1 with
 |false=>
  rw[hb] at c1 hR;have hR:(4:Int)=R:=hR;subst hR;clear hb c2 c3;refine rcK Tz.func109 ?_;simp only[Tryz.results109,Tryz.ntmps109]
  repeat' (first|(with_reducible first|refine af ?_|refine az ?_|refine ae ?_|refine ak ?_|refine And.intro ?_ ?_|refine cw (c1) ?_|intro _)|(simp[*,hi])|(refine ai (c1) ?_ ?_;(· (simp[*];done))))
  all_goals first|omega
 |true=>
  rw[hb] at c1 hR;clear hb;have hR:bL [aU (!((os.take i).any fun y=>decide (y.1=(nth os i).1))) 5,aU (aL (nth os i).2.1 1 8&&aL (nth os i).2.2.2 0 6) 2]=R:=hR;generalize hA:((os.take i).any fun y=>decide (y.1=(nth os i).1))=A at hR;have kA:aI (((os.take i).drop 0).any (fun y=>decide (y.1=(nth os i).1))=A):=hA;have kR:=keep hR;clear hA hR;refine rcK Tz.func109 ?_;simp only[Tryz.results109,Tryz.ntmps109]
  repeat' (first|(with_reducible first|refine af ?_|refine av ?_|refine ae ?_|refine ak ?_|refine And.intro ?_ ?_|refine cw (c1) ?_|intro _)|(simp[*,hi])|(refine ai (c1) ?_ ?_;(· (simp[*];done))))
  all_goals try first|omega|assumption
  refine bF (fun(k:Nat)=>k≤i∧((os.take i).drop k).any (fun y=>decide (y.1=(nth os i).1))=A) [1,2] (fun(k:Nat)=>[(5,.w false false (.int .i64 k))]) [0] (fun(k:Nat)=>[]) (fun(k:Nat)=>i-k) (fun(_u:Unit)=>A=false) [1,2] (fun(_u:Unit)=>[]) [0] (fun(_u:Unit)=>[]) (0) ⟨Nat.zero_le _,kA⟩ (by simp) (by simp) (fun k hk=>?_) (fun _u hf=>?_)
  ·obtain⟨hk,hj⟩:=hk;clear c1;by_cases hlt:k<i
   ·have hkl:k<os.length:=by omega
    have hlt2:k<(os.take i).length:=by rw[List.length_take];omega
    rw[b8 _ k hlt2,List.any_cons] at hj
    have e:nth (os.take i) k=nth os k:=by
     simp[nth,List.getD_eq_getElem?_getD,List.getElem?_take,hlt]
    rw[e] at hj;have kj:=keep hj;clear hj e hlt2;by_cases hn:(nth os k).1=(nth os i).1
    ·have hA:A=true:=by have h:=kj;unfold aI at h;rw[←h];simp[hn]
     subst hA;have hR:(5:Int)=R:=kR;subst hR;clear kj kR kA
     repeat' (first|(with_reducible first|refine af ?_|refine aD ?_|refine av ?_|refine az ?_|refine ae ?_|refine aK (id:=6) 13 mixed (by decide +kernel) ?_|refine ak ?_|intro _)|(simp[*,hlt,hkl,hi,hn]))
     all_goals first|omega|exact aF (by omega) (by omega)
    ·have kj2:aI (((os.take i).drop (k+1)).any (fun y=>decide (y.1=(nth os i).1))=A):=by have h:=kj;unfold aI at h ⊢;rw[←h];simp[hn]
     clear kj kA
     repeat' (first|(with_reducible first|refine af ?_|refine aD ?_|refine av ?_|refine ae ?_|refine aK (id:=6) 13 mixed (by decide +kernel) ?_|refine ak ?_|refine And.intro ?_ ?_|intro _)|(simp[*,hlt,hkl,hi,hn]))
     all_goals first
      |omega
      |exact aF (by omega) (by omega)
      |(refine nx (k+1) ?_ ?_;(· exact⟨by omega,kj2⟩);(refine aB ?_ ?_<;>first|trivial|(simp[*];done)))
   ·have hke:k=i:=by omega
    subst hke;have hj2:aI (A=false):=keep (by rw[←hj];simp);clear hj kA
    repeat' (first|(with_reducible first|refine af ?_|refine aJ ?_|refine ae ?_|refine ak ?_|intro _)|(simp[*]))
    all_goals first
     |omega
     |(refine aT () ?_ ?_;(· exact hj2);(refine aB ?_ ?_<;>first|trivial|(simp[*];done)))
  ·subst hf;clear kA c1
   cases hw:aL (nth os i).2.1 1 8 with
   |true=>
    cases hv:aL (nth os i).2.2.2 0 6 with
    |true=>
     rw[hw,hv] at kR;rw[hw] at c2;rw[hv] at c3;have hR:(0:Int)=R:=kR;subst hR;clear kR hw hv
     repeat' (first|(with_reducible first|refine af ?_|refine av ?_|refine az ?_|refine ae ?_|refine ak ?_|refine And.intro ?_ ?_|refine cw (c2) ?_|refine cw (c3) ?_|intro _)|(simp[*,hi])|(refine ai (c2) ?_ ?_;(· (simp[*];done)))|(refine ai (c3) ?_ ?_;(· (simp[*];done))))
     all_goals first|omega
    |false=>
     rw[hw,hv] at kR;rw[hw] at c2;rw[hv] at c3;have hR:(2:Int)=R:=kR;subst hR;clear kR hw hv
     repeat' (first|(with_reducible first|refine af ?_|refine az ?_|refine ae ?_|refine ak ?_|refine And.intro ?_ ?_|refine cw (c2) ?_|refine cw (c3) ?_|intro _)|(simp[*,hi])|(refine ai (c2) ?_ ?_;(· (simp[*];done)))|(refine ai (c3) ?_ ?_;(· (simp[*];done))))
     all_goals first|omega
   |false=>
    rw[hw] at c2 kR;have hR:(2:Int)=R:=kR;subst hR;clear kR hw c3
    repeat' (first|(with_reducible first|refine af ?_|refine az ?_|refine ae ?_|refine ak ?_|refine And.intro ?_ ?_|refine cw (c2) ?_|intro _)|(simp[*,hi])|(refine ai (c2) ?_ ?_;(· (simp[*];done))))
    all_goals first|omega
def hasB(l:List Par)(v:Par):Bool:=l.any fun y=>decide (v.1=y.1)&&decide (v.2=y.2)
theorem cm(l:List Par)(hl:l.length<100000)(v:Par):aA Tz.prog 110 [.sl l.length (aS l),.agg (Tw.bH v)] (.bool (hasB l v)) true:=by
 unfold hasB;generalize hR:(l.any fun y=>decide (v.1=y.1)&&decide (v.2=y.2))=R;have kR:aI ((l.drop 0).any (fun y=>decide (v.1=y.1)&&decide (v.2=y.2))=R):=keep hR;clear hR;obtain⟨v1,v2⟩:=v;simp only[Tw.bH];refine rcK Tz.func110 ?_;simp only[Tryz.results110,Tryz.ntmps110]
 repeat' (first|(with_reducible first|refine af ?_|refine ae ?_|intro _)|(simp[*]))
 refine bF (fun(k:Nat)=>k≤l.length∧(l.drop k).any (fun y=>decide (v1=y.1)&&decide (v2=y.2))=R) [0,3] (fun(k:Nat)=>[(5,.w false false (.int .i64 k))]) [0] (fun(k:Nat)=>[]) (fun(k:Nat)=>l.length-k) (fun(_u:Unit)=>R=false) [] (fun(_u:Unit)=>[]) [0] (fun(_u:Unit)=>[]) (0) ⟨Nat.zero_le _,kR⟩ (by simp) (by simp) (fun k hk=>?_) (fun _u hf=>?_)
 ·obtain⟨hk,hj⟩:=hk;by_cases hlt:k<l.length
  ·rw[b8 l k hlt,List.any_cons] at hj;by_cases h1:(nth l k).1=v1
   ·by_cases h2:(nth l k).2=v2
    ·have hR:R=true:=by rw[←hj];simp[h1,h2]
     subst hR;clear hj kR
     repeat' (first|(with_reducible first|refine af ?_|refine aD ?_|refine av ?_|refine az ?_|refine ae ?_|refine aK (id:=4) 6 mixed (by decide +kernel) ?_|refine ak ?_|refine And.intro ?_ ?_|intro _)|(simp[*,hlt,h1,h2,Tw.bH]))
     all_goals first|omega|exact aF (by omega) (by omega)
    ·have h2':¬v2=(nth l k).2:=fun e=>h2 e.symm
     have kj:aI ((l.drop (k+1)).any (fun y=>decide (v1=y.1)&&decide (v2=y.2))=R):=keep (by rw[←hj];simp[h2']);clear hj kR h2'
     repeat' (first|(with_reducible first|refine af ?_|refine aD ?_|refine av ?_|refine ae ?_|refine aK (id:=4) 6 mixed (by decide +kernel) ?_|refine ak ?_|refine And.intro ?_ ?_|intro _)|(simp[*,hlt,h1,h2,Tw.bH]))
     all_goals first
      |omega
      |exact aF (by omega) (by omega)
      |(refine nx (k+1) ?_ ?_;(· exact⟨by omega,kj⟩);(refine aB ?_ ?_<;>first|trivial|(simp[*];done)))
   ·have h1':¬v1=(nth l k).1:=fun e=>h1 e.symm
    have kj:aI ((l.drop (k+1)).any (fun y=>decide (v1=y.1)&&decide (v2=y.2))=R):=keep (by rw[←hj];simp[h1']);clear hj kR h1'
    repeat' (first|(with_reducible first|refine af ?_|refine aD ?_|refine av ?_|refine ae ?_|refine aK (id:=4) 6 mixed (by decide +kernel) ?_|refine ak ?_|refine And.intro ?_ ?_|intro _)|(simp[*,hlt,h1,Tw.bH]))
    all_goals first
     |omega
     |exact aF (by omega) (by omega)
     |(refine nx (k+1) ?_ ?_;(· exact⟨by omega,kj⟩);(refine aB ?_ ?_<;>first|trivial|(simp[*];done)))
  ·have hke:k=l.length:=by omega
   subst hke;have kj:aI (R=false):=keep (by rw[←hj];simp);clear hj kR
   repeat' (first|(with_reducible first|refine af ?_|refine aJ ?_|refine ae ?_|refine ak ?_|intro _)|(simp[*]))
   all_goals first
    |(refine aT () ?_ ?_;(· exact kj);(refine aB ?_ ?_<;>first|trivial|(simp[*];done)))
 ·subst hf
  repeat' (first|(with_reducible first|refine af ?_|refine az ?_|refine ae ?_|intro _)|(simp[*]))
theorem cn(ab:List Car)(os:List Ord)(wt:List (List Int))(zs:List Par)(ho:os.length<100000)(n:Int):aA Tz.prog 43 [.agg [.sl ab.length (aQ ab),.sl os.length (aP os),.sl wt.length (aZ wt),.sl zs.length (aS zs)],.int .i64 n] (.bool (aL n 0 ((os.length:Int)-1))) true:=by
 refine rcK Tz.func43 ?_;simp only[Tryz.results43,Tryz.ntmps43]
 repeat' (first|(with_reducible first|refine af ?_|refine az ?_|refine ae ?_|refine And.intro ?_ ?_|refine cw (jm _ _ _) ?_|intro _)|(simp[*])|(refine ai (jm _ _ _) ?_ ?_;(· (simp[*];done))))
 all_goals first|omega|exact aF (by omega) (by omega)
theorem cp(ab:List Car)(os:List Ord)(wt:List (List Int))(zs:List Par)(ho:ab.length<100000)(n:Int):aA Tz.prog 45 [.agg [.sl ab.length (aQ ab),.sl os.length (aP os),.sl wt.length (aZ wt),.sl zs.length (aS zs)],.int .i64 n] (.bool (aL n 0 ((ab.length:Int)-1))) true:=by
 refine rcK Tz.func45 ?_;simp only[Tryz.results45,Tryz.ntmps45]
 repeat' (first|(with_reducible first|refine af ?_|refine az ?_|refine ae ?_|refine And.intro ?_ ?_|refine cw (jm _ _ _) ?_|intro _)|(simp[*])|(refine ai (jm _ _ _) ?_ ?_;(· (simp[*];done))))
 all_goals first|omega|exact aF (by omega) (by omega)
theorem eE(ab:List Car)(os:List Ord)(wt:List (List Int))(zs:List Par)(hc1:ab.length≤1000)(ho1:os.length≤1000)(hw1:wt.length<100000)(hz1:zs.length<100000)(hc:∀x∈ab,x.1.size<1000000)(ho:∀x∈os,x.1.size<1000000)(hw:∀x∈wt,x.length<100000):aA Tz.prog 58 [.agg [.sl ab.length (aQ ab),.sl os.length (aP os),.sl wt.length (aZ wt),.sl zs.length (aS zs)]] (.tup [.int .i64 (fG ab os wt zs).1,.int .i64 (fG ab os wt zs).2]) true:=by
 generalize hR:fG ab os wt zs=R;obtain⟨R1,R2⟩:=R;unfold fG at hR;have kc:=keep hc;have ko:=keep ho;have kw:=keep hw;clear hc ho hw;by_cases a1:(8:Int)<ab.length
 ·rw[if_pos a1] at hR;obtain⟨q1,q2⟩:=Prod.mk.inj hR;subst q1 q2;clear hR;refine rcK Tz.func58 ?_;simp only[Tryz.results58,Tryz.ntmps58]
  repeat' (first|(with_reducible first|refine af ?_|refine az ?_|refine ae ?_|refine ak ?_|intro _)|(simp[*,a1]))
  all_goals first|omega|exact aF (by omega) (by omega)|assumption
 rw[if_neg a1] at hR;generalize hN:eU Prod.fst dI ab=N at hR;obtain⟨N1,N2⟩:=N;have kN:aI (dB Prod.fst dI ab (ab.drop 0) 0=(N1,N2)):=hN;have kR:=keep hR;clear hR hN;refine rcK Tz.func58 ?_;simp only[Tryz.results58,Tryz.ntmps58]
 repeat' (first|(with_reducible first|refine af ?_|refine av ?_|refine ae ?_|refine ak ?_|intro _)|(simp[*,a1]))
 refine bF (fun(k:Nat)=>k≤ab.length∧dB Prod.fst dI ab (ab.drop k) k=(N1,N2)) [1] (fun(k:Nat)=>[(4,.w false false (.int .i64 k))]) [0] (fun(k:Nat)=>[]) (fun(k:Nat)=>ab.length-k) (fun(_u:Unit)=>N1=0∧N2=0) [1] (fun(_u:Unit)=>[]) [0] (fun(_u:Unit)=>[]) (0) ⟨Nat.zero_le _,kN⟩ (by simp) (by simp) (fun k hk=>?_) (fun _u hf=>?_)
 ·obtain⟨hk,hj⟩:=hk;by_cases hlt:k<ab.length
  ·have c1:=eB ab os wt zs k hlt (by omega) kc;rw[b8 ab k hlt,dB] at hj;generalize fE Prod.fst dI ab k (nth ab k)=e at hj c1;by_cases he:e=0
   ·rw[if_pos he] at hj;subst he;have kj:=keep hj;clear hj
    repeat' (first|(with_reducible first|refine af ?_|refine aD ?_|refine av ?_|refine ae ?_|refine ak ?_|refine And.intro ?_ ?_|refine cw (c1) ?_|intro _)|(simp[*,hlt])|(refine ai (c1) ?_ ?_;(· (simp[*];done))))
    all_goals first
     |omega
     |exact aF (by omega) (by omega)
     |(refine nx (k+1) ?_ ?_;(· exact⟨by omega,kj⟩);(refine aB ?_ ?_<;>first|trivial|(simp[*];done)))
   ·rw[if_neg he] at hj;obtain⟨g1,g2⟩:=Prod.mk.inj hj;have h1:=(Prod.mk.inj (show (N1,N2)=(R1,R2) by have h:=kR;unfold aI at h;rw[if_pos (show (N1,N2).2≠0 from fun h0=>he (g2.trans h0))] at h;exact h));have q1:(k:Int)=R1:=g1.trans h1.1;have q2:e=R2:=g2.trans h1.2;subst q1 q2;clear hj kR g1 g2 h1 kN
    repeat' (first|(with_reducible first|refine af ?_|refine aD ?_|refine av ?_|refine az ?_|refine ae ?_|refine ak ?_|refine And.intro ?_ ?_|refine cw (c1) ?_|intro _)|(simp[*,hlt,he])|(refine ai (c1) ?_ ?_;(· (simp[*];done))))
    all_goals first|omega|exact aF (by omega) (by omega)|assumption
  ·have hke:k=ab.length:=by omega
   subst hke;rw[List.drop_length] at hj;have hj:((0:Int),(0:Int))=(N1,N2):=hj;have kj:aI (N1=0∧N2=0):=keep ⟨(Prod.mk.inj hj).1.symm,(Prod.mk.inj hj).2.symm⟩;clear hj
   repeat' (first|(with_reducible first|refine af ?_|refine aJ ?_|refine ae ?_|refine ak ?_|intro _)|(simp[*]))
   all_goals first
    |omega
    |(refine aT () ?_ ?_;(· exact kj);(refine aB ?_ ?_<;>first|trivial|(simp[*];done)))
 obtain⟨rfl,rfl⟩:=hf;have hR:(if (8:Int)<os.length then ((0:Int),(8:Int)) else if (eU Prod.fst dj os).2≠0 then eU Prod.fst dj os else if (wt.length:Int)≠os.length then (0,10) else dT (fun _=>eh ab.length) wt 0 (fF os.length ab.length zs))=(R1,R2):=kR;clear kR kN;by_cases a2:(8:Int)<os.length
 ·rw[if_pos a2] at hR;obtain⟨q1,q2⟩:=Prod.mk.inj hR;subst q1 q2;clear hR
  repeat' (first|(with_reducible first|refine af ?_|refine az ?_|refine ae ?_|refine ak ?_|intro _)|(simp[*,a2]))
  all_goals first|omega|exact aF (by omega) (by omega)|assumption
 rw[if_neg a2] at hR;generalize hN:eU Prod.fst dj os=M at hR;obtain⟨M1,M2⟩:=M;have kM:aI (dB Prod.fst dj os (os.drop 0) 0=(M1,M2)):=hN;have kR:=keep hR;clear hR hN
 repeat' (first|(with_reducible first|refine af ?_|refine av ?_|refine ae ?_|refine ak ?_|intro _)|(simp[*,a2]))
 refine bF (fun(k:Nat)=>k≤os.length∧dB Prod.fst dj os (os.drop k) k=(M1,M2)) [1] (fun(k:Nat)=>[(6,.w false false (.int .i64 k))]) [0] (fun(k:Nat)=>[]) (fun(k:Nat)=>os.length-k) (fun(_u:Unit)=>M1=0∧M2=0) [1] (fun(_u:Unit)=>[]) [0] (fun(_u:Unit)=>[]) (0) ⟨Nat.zero_le _,kM⟩ (by simp) (by simp) (fun k hk=>?_) (fun _u hf=>?_)
 ·obtain⟨hk,hj⟩:=hk;by_cases hlt:k<os.length
  ·have c1:=eC ab os wt zs k hlt (by omega) ko;rw[b8 os k hlt,dB] at hj;generalize fE Prod.fst dj os k (nth os k)=e at hj c1;by_cases he:e=0
   ·rw[if_pos he] at hj;subst he;have kj:=keep hj;clear hj
    repeat' (first|(with_reducible first|refine af ?_|refine aD ?_|refine av ?_|refine ae ?_|refine ak ?_|refine And.intro ?_ ?_|refine cw (c1) ?_|intro _)|(simp[*,hlt])|(refine ai (c1) ?_ ?_;(· (simp[*];done))))
    all_goals first
     |omega
     |exact aF (by omega) (by omega)
     |(refine nx (k+1) ?_ ?_;(· exact⟨by omega,kj⟩);(refine aB ?_ ?_<;>first|trivial|(simp[*];done)))
   ·rw[if_neg he] at hj;obtain⟨g1,g2⟩:=Prod.mk.inj hj;have h1:=(Prod.mk.inj (show (M1,M2)=(R1,R2) by have h:=kR;unfold aI at h;rw[if_pos (show (M1,M2).2≠0 from fun h0=>he (g2.trans h0))] at h;exact h));have q1:(k:Int)=R1:=g1.trans h1.1;have q2:e=R2:=g2.trans h1.2;subst q1 q2;clear hj kR g1 g2 h1 kM
    repeat' (first|(with_reducible first|refine af ?_|refine aD ?_|refine av ?_|refine az ?_|refine ae ?_|refine ak ?_|refine And.intro ?_ ?_|refine cw (c1) ?_|intro _)|(simp[*,hlt,he])|(refine ai (c1) ?_ ?_;(· (simp[*];done))))
    all_goals first|omega|exact aF (by omega) (by omega)|assumption
  ·have hke:k=os.length:=by omega
   subst hke;rw[List.drop_length] at hj;have hj:((0:Int),(0:Int))=(M1,M2):=hj;have kj:aI (M1=0∧M2=0):=keep ⟨(Prod.mk.inj hj).1.symm,(Prod.mk.inj hj).2.symm⟩;clear hj
   repeat' (first|(with_reducible first|refine af ?_|refine aJ ?_|refine ae ?_|refine ak ?_|intro _)|(simp[*]))
   all_goals first
    |omega
    |(refine aT () ?_ ?_;(· exact kj);(refine aB ?_ ?_<;>first|trivial|(simp[*];done)))
 obtain⟨rfl,rfl⟩:=hf;have hR:(if (wt.length:Int)≠os.length then ((0:Int),(10:Int)) else dT (fun _=>eh ab.length) wt 0 (fF os.length ab.length zs))=(R1,R2):=kR;clear kR kM;by_cases a3:(wt.length:Int)=os.length
 rotate_left
 ·rw[if_pos a3] at hR;obtain⟨q1,q2⟩:=Prod.mk.inj hR;subst q1 q2;clear hR
  repeat' (first|(with_reducible first|refine af ?_|refine az ?_|refine ae ?_|refine ak ?_|intro _)|(simp[*,a3]))
  all_goals first|omega|exact aF (by omega) (by omega)|assumption
 rw[if_neg (fun h=>h a3)] at hR;have kT:aI (dT (fun _=>eh ab.length) (wt.drop 0) 0 (fF os.length ab.length zs)=(R1,R2)):=hR;clear hR
 repeat' (first|(with_reducible first|refine af ?_|refine av ?_|refine ae ?_|refine ak ?_|intro _)|(simp[*,a3]))
 refine bF (fun(k:Nat)=>k≤wt.length∧dT (fun _=>eh ab.length) (wt.drop k) k (fF os.length ab.length zs)=(R1,R2)) [1] (fun(k:Nat)=>[(8,.w false false (.int .i64 k))]) [0] (fun(k:Nat)=>[]) (fun(k:Nat)=>wt.length-k) (fun(_u:Unit)=>fF os.length ab.length zs=(R1,R2)) [1] (fun(_u:Unit)=>[]) [0] (fun(_u:Unit)=>[]) (0) ⟨Nat.zero_le _,kT⟩ (by simp) (by simp) (fun k hk=>?_) (fun _u hf=>?_)
 ·obtain⟨hk,hj⟩:=hk;clear kT;by_cases hlt:k<wt.length
  ·have hrow:=kw _ (ew hlt);rw[b8 wt k hlt,Dp] at hj;unfold eh at hj;by_cases hl:((nth wt k).length:Int)=ab.length
   ·rw[decide_eq_true hl] at hj
    have hj:(if aU (!((nth wt k).any fun x=>!aL x 0 100000)) 2=0 then dT (fun _=>eh ab.length) (wt.drop (k+1)) (k+1) (fF os.length ab.length zs) else ((k:Int),aU (!((nth wt k).any fun x=>!aL x 0 100000)) 2))=(R1,R2):=by
     rw[←hj];simp only[bL,aU]
     cases ((nth wt k).any fun x=>!aL x 0 100000)<;>rfl
    generalize hA:((nth wt k).any fun x=>!aL x 0 100000)=A at hj;have kA:aI (((nth wt k).drop 0).any (fun x=>!aL x 0 100000)=A):=hA;have kj:=keep hj;clear hj hA
    repeat' (first|(with_reducible first|refine af ?_|refine aD ?_|refine av ?_|refine aJ ?_|refine ae ?_|refine aK (id:=22) 10 mixed (by decide +kernel) ?_|refine ak ?_|refine dO ?_ ?_|intro _)|(simp[*,hlt,hl]))
    all_goals try first|omega|assumption
    refine bF (fun(j:Nat)=>j≤(nth wt k).length∧((nth wt k).drop j).any (fun x=>!aL x 0 100000)=A) [1,8] (fun(j:Nat)=>[(9,.w false false (.int .i64 j))]) [0] (fun(j:Nat)=>[]) (fun(j:Nat)=>(nth wt k).length-j) (fun(_u:Unit)=>A=false) [1,8] (fun(_u:Unit)=>[]) [0] (fun(_u:Unit)=>[]) (0) ⟨Nat.zero_le _,kA⟩ (by simp) (by simp) (fun j hk=>?_) (fun _u hf=>?_)
    ·obtain⟨hj1,hj2⟩:=hk;clear kA;by_cases hjt:j<(nth wt k).length
     ·rw[b8 _ j hjt,List.any_cons] at hj2;have c1:=jm (nth (nth wt k) j) 0 100000
      cases hb:aL (nth (nth wt k) j) 0 100000 with
      |true=>
       rw[hb] at hj2 c1;have kj2:aI (((nth wt k).drop (j+1)).any (fun x=>!aL x 0 100000)=A):=keep hj2;clear hj2 kj hb
       repeat' (first|(with_reducible first|refine af ?_|refine aD ?_|refine av ?_|refine aJ ?_|refine ae ?_|refine ak ?_|refine And.intro ?_ ?_|refine dO ?_ ?_|refine cw (c1) ?_|intro _)|(simp[*,hlt,hjt])|(refine ai (c1) ?_ ?_;(· (simp[*];done))))
       all_goals first
        |omega
        |exact aF (by omega) (by omega)
        |(refine nx (j+1) ?_ ?_;(· exact⟨by omega,kj2⟩);(refine aB ?_ ?_<;>first|trivial|(simp[*];done)))
      |false=>
       rw[hb] at hj2 c1
       have hA:A=true:=by rw[←hj2];rfl
       subst hA;have h1:((k:Int),(2:Int))=(R1,R2):=kj;obtain⟨q1,q2⟩:=Prod.mk.inj h1;subst q1 q2;clear hj2 kj hb h1
       repeat' (first|(with_reducible first|refine af ?_|refine aD ?_|refine av ?_|refine az ?_|refine aJ ?_|refine ae ?_|refine ak ?_|refine And.intro ?_ ?_|refine dO ?_ ?_|refine cw (c1) ?_|intro _)|(simp[*,hlt,hjt])|(refine ai (c1) ?_ ?_;(· (simp[*];done))))
       all_goals first|omega|exact aF (by omega) (by omega)
     ·have hke:j=(nth wt k).length:=by omega
      subst hke;have kj2:aI (A=false):=keep (by rw[←hj2];simp);clear hj2 kj
      repeat' (first|(with_reducible first|refine af ?_|refine aJ ?_|refine ae ?_|refine ak ?_|intro _)|(simp[*,hlt]))
      all_goals first
       |omega
       |(refine aT () ?_ ?_;(· exact kj2);(refine aB ?_ ?_<;>first|trivial|(simp[*];done)))
    ·subst hf;have kj2:aI (dT (fun _=>eh ab.length) (wt.drop (k+1)) (k+1) (fF os.length ab.length zs)=(R1,R2)):=kj;clear kj kA
     repeat' (first|(with_reducible first|refine ae ?_|refine And.intro ?_ ?_|intro _)|(simp[*,hlt]))
     all_goals first
      |omega
      |exact aF (by omega) (by omega)
      |(refine nx (k+1) ?_ ?_;(· exact⟨by omega,kj2⟩);(refine aB ?_ ?_<;>first|trivial|(simp[*];done)))
   ·rw[decide_eq_false hl] at hj;have h1:((k:Int),(10:Int))=(R1,R2):=hj;obtain⟨q1,q2⟩:=Prod.mk.inj h1;subst q1 q2;clear hj h1
    repeat' (first|(with_reducible first|refine af ?_|refine aD ?_|refine av ?_|refine az ?_|refine aJ ?_|refine ae ?_|refine aK (id:=22) 10 mixed (by decide +kernel) ?_|refine ak ?_|refine dO ?_ ?_|intro _)|(simp[*,hlt,hl]))
    all_goals first|omega|exact aF (by omega) (by omega)
  ·have hke:k=wt.length:=by omega
   subst hke;rw[List.drop_length,Dq] at hj;have kj:=keep hj;clear hj
   repeat' (first|(with_reducible first|refine af ?_|refine aJ ?_|refine ae ?_|refine ak ?_|intro _)|(simp[*,a3]))
   all_goals first
    |omega
    |(refine aT () ?_ ?_;(· exact kj);(refine aB ?_ ?_<;>first|trivial|(simp[*];done)))
 clear kT;unfold fF at hf;by_cases a4:(64:Int)<zs.length
 ·rw[if_pos a4] at hf;obtain⟨q1,q2⟩:=Prod.mk.inj hf;subst q1 q2;clear hf
  repeat' (first|(with_reducible first|refine af ?_|refine az ?_|refine ae ?_|refine ak ?_|intro _)|(simp[*,a4]))
  all_goals first|omega|exact aF (by omega) (by omega)|assumption
 rw[if_neg a4] at hf;have kS:aI (bX (gR os.length ab.length zs) (zs.drop 0) 0=(R1,R2)):=hf;clear hf
 repeat' (first|(with_reducible first|refine af ?_|refine av ?_|refine ae ?_|refine ak ?_|intro _)|(simp[*,a4]))
 refine cC 1 (fun(k:Nat)=>k≤zs.length∧bX (gR os.length ab.length zs) (zs.drop k) k=(R1,R2)) [1] (fun(k:Nat)=>[(10,.w false false (.int .i64 k))]) [0] (fun(k:Nat)=>[]) (fun(k:Nat)=>zs.length-k) (fun(_u:Unit)=>R1=0∧R2=0) [] (fun(_u:Unit)=>[]) [0] (fun(_u:Unit)=>[]) (0) ⟨Nat.zero_le _,kS⟩ (aO [] (by simp) (by simp)) (fun k hk=>?_) (fun _u hf=>?_)
 ·obtain⟨hk,hj⟩:=hk;clear kS;by_cases hlt:k<zs.length
  ·have c1:=cm (zs.take k) (by rw[List.length_take];omega) (nth zs k);rw[List.length_take_of_le hk] at c1;have w1:=cn ab os wt zs (by omega) (nth zs k).1;have w2:=cp ab os wt zs (by omega) (nth zs k).2;rw[b8 zs k hlt,bX] at hj;have hE:gR os.length ab.length zs k (nth zs k)=bL [aU (aL (nth zs k).1 0 ((os.length:Int)-1)&&aL (nth zs k).2 0 ((ab.length:Int)-1)) 6,aU (!(hasB (zs.take k) (nth zs k))) 26]:=rfl;rw[hE] at hj;clear hE;unfold Tw.bH at c1;generalize aL (nth zs k).1 0 ((os.length:Int)-1)=g1 at *;generalize aL (nth zs k).2 0 ((ab.length:Int)-1)=g2 at *;generalize hasB (zs.take k) (nth zs k)=g3 at *
   have fin:∀e:Int,e≠0→((if e=0 then bX (gR os.length ab.length zs) (zs.drop (k+1)) (k+1) else ((k:Int),e))=(R1,R2))→(k:Int)=R1∧e=R2:=fun e he h=>by rw[if_neg he] at h;exact Prod.mk.inj h
   cases g1 with
   |false=>
    obtain⟨q1,q2⟩:=fin 6 (by decide) hj;subst q1 q2;clear hj fin
    repeat' (first|(with_reducible first|refine af ?_|refine aD ?_|refine av ?_|refine az ?_|refine ae ?_|refine ak ?_|refine And.intro ?_ ?_|refine cw (w1) ?_|intro _)|(simp[*,hlt,Tw.bH])|(refine ai (w1) ?_ ?_;(· (simp[*];done))))
    all_goals first|omega|exact aF (by omega) (by omega)
   |true=>
    cases g2 with
    |false=>
     obtain⟨q1,q2⟩:=fin 6 (by decide) hj;subst q1 q2;clear hj fin
     repeat' (first|(with_reducible first|refine af ?_|refine aD ?_|refine av ?_|refine az ?_|refine ae ?_|refine ak ?_|refine And.intro ?_ ?_|refine cw (w1) ?_|refine cw (w2) ?_|intro _)|(simp[*,hlt,Tw.bH])|(refine ai (w1) ?_ ?_;(· (simp[*];done)))|(refine ai (w2) ?_ ?_;(· (simp[*];done))))
     all_goals first|omega|exact aF (by omega) (by omega)
    |true=>
     cases g3 with
     |true=>
      obtain⟨q1,q2⟩:=fin 26 (by decide) hj;subst q1 q2;clear hj fin
      repeat' (first|(with_reducible first|refine af ?_|refine aD ?_|refine av ?_|refine az ?_|refine ae ?_|refine aK (id:=37) 6 mixed (by decide +kernel) ?_|refine ak ?_|refine And.intro ?_ ?_|refine cw (w1) ?_|refine cw (w2) ?_|refine cw (c1) ?_|intro _)|(simp[*,hlt,Tw.bH])|(refine ai (w1) ?_ ?_;(· (simp[*];done)))|(refine ai (w2) ?_ ?_;(· (simp[*];done)))|(refine ai (c1) ?_ ?_;(· (simp[*];done))))
      all_goals first|omega|exact aF (by omega) (by omega)
     |false=>
      have kj:aI (bX (gR os.length ab.length zs) (zs.drop (k+1)) (k+1)=(R1,R2)):=hj;clear hj fin
      repeat' (first|(with_reducible first|refine af ?_|refine aD ?_|refine av ?_|refine ae ?_|refine aK (id:=37) 6 mixed (by decide +kernel) ?_|refine ak ?_|refine And.intro ?_ ?_|refine cw (w1) ?_|refine cw (w2) ?_|refine cw (c1) ?_|intro _)|(simp[*,hlt,Tw.bH])|(refine ai (w1) ?_ ?_;(· (simp[*];done)))|(refine ai (w2) ?_ ?_;(· (simp[*];done)))|(refine ai (c1) ?_ ?_;(· (simp[*];done))))
      all_goals first
       |omega
       |exact aF (by omega) (by omega)
       |(refine nx (k+1) ?_ ?_;(· exact⟨by omega,kj⟩);(refine aO [] ?_ ?_<;>first|trivial|(simp[*];done)))
  ·have hke:k=zs.length:=by omega
   subst hke;rw[List.drop_length] at hj;have hj:((0:Int),(0:Int))=(R1,R2):=hj;have kj:aI (R1=0∧R2=0):=keep ⟨(Prod.mk.inj hj).1.symm,(Prod.mk.inj hj).2.symm⟩;clear hj
   repeat' (first|(with_reducible first|refine af ?_|refine aJ ?_|refine ae ?_|refine ak ?_|intro _)|(simp[*,a4]))
   all_goals first
    |omega
    |(refine aT () ?_ ?_;(· exact kj);(refine aB ?_ ?_<;>first|trivial|(simp[*];done)))
 ·obtain⟨rfl,rfl⟩:=hf
  repeat' (first|(with_reducible first|refine af ?_|refine az ?_|refine ae ?_|intro _)|(simp[*]))
end Go.Proofs.YthpkmilhiganjaaGreat
namespace Go.Proofs.YthpkmilhiganjaaGreat
open Go Go.Fi
noncomputable instance instLD14:ar:=LD
theorem eF(r:Tw.RND):(al r).fit.length=(al r).os.length:=by simp[al]
theorem eG(r:Tw.RND)(i:Nat):(Tw.iV r i).length=r.ab.length:=by
 simp[Tw.iV,Tw.zt,Tw.gJ,Tw.odR]
theorem eL(r:Tw.RND)(i:Nat)(h:i<(al r).os.length):(nth (al r).fit i).length=(al r).ab.length:=by
 have hi:i<r.os.length:=h;simp only[al,nth,List.getD_eq_getElem?_getD,List.getElem?_map,List.getElem?_range hi,Option.map_some,Option.getD_some];exact eG r i
theorem bW{α:Type}[Inhabited α]{E:Nat→α→Int}:∀{l:List α}{k:Nat},(bX E l k).2=0→∀j,j<l.length→E (k+j) (nth l j)=0
 |[],k,_,j,hj=>absurd hj (by simp)
 |x::r,k,h,j,hj=>by
  unfold bX at h;by_cases he:E k x=0
  ·rw[if_pos he] at h
   cases j with
   |zero=>exact he
   |succ j=>
    have:=bW h j (by simpa using hj);rw[show k+(j+1)=k+1+j by omega];exact this
  ·rw[if_neg he] at h;exact absurd h he
theorem bZ{α:Type}[Inhabited α]{nm:α→ByteArray}{mr:α→Int}{l:List α}:∀{r:List α}{k:Nat},(dB nm mr l r k).2=0→∀j,j<r.length→fE nm mr l (k+j) (nth r j)=0
 |[],k,_,j,hj=>absurd hj (by simp)
 |x::r,k,h,j,hj=>by
  unfold dB at h;by_cases he:fE nm mr l k x=0
  ·rw[if_pos he] at h
   cases j with
   |zero=>exact he
   |succ j=>
    have:=bZ h j (by simpa using hj);rw[show k+(j+1)=k+1+j by omega];exact this
  ·rw[if_neg he] at h;exact absurd h he
theorem bd{e:Int}{r:List Int}(h:bL (e::r)=0):e=0∧bL r=0:=by
 unfold bL at h;split at h
 ·rename_i he;exact⟨he,h⟩
 ·rename_i he;exact absurd h he
theorem bo{b:Bool}{e:Int}(he:e≠0)(h:aU b e=0):b=true:=by
 unfold aU at h
 cases b with
 |true=>rfl
 |false=>exact absurd h he
theorem bA{n lo hi:Int}:aL n lo hi=true↔lo≤n∧n≤hi:=by simp[aL]
theorem not_true{b:Bool}(h:(!b)=true):b=false:=by cases b<;>simp_all
structure b9(x:Rd):Prop where
 lc:x.ab.length≤8
 lo:x.os.length≤8
 lw:x.wt.length=x.os.length
 lz:x.zs.length≤64
 lf:x.fit.length=x.os.length
 fr:∀i,i<x.os.length→(nth x.fit i).length=x.ab.length
 wr:∀i,i<x.os.length→(nth x.wt i).length=x.ab.length
 wn:∀i,i<x.os.length→∀k,k<x.ab.length→0≤nth (nth x.wt i) k∧nth (nth x.wt i) k≤100000
 sc:∀k,k<x.ab.length→1≤(nth x.ab k).2.1∧(nth x.ab k).2.1≤8
 so:∀i,i<x.os.length→1≤(nth x.os i).2.1∧(nth x.os i).2.1≤8
 pr:∀i,i<x.os.length→0≤(nth x.os i).2.2.2∧(nth x.os i).2.2.2≤6
 nc:∀k,k<x.ab.length→dH (nth x.ab k).1=true∧((x.ab.take k).any fun y=>decide (y.1=(nth x.ab k).1))=false
 no:∀k,k<x.os.length→dH (nth x.os k).1=true∧((x.os.take k).any fun y=>decide (y.1=(nth x.os k).1))=false
 zr:∀j,j<x.zs.length→(0≤(nth x.zs j).1∧(nth x.zs j).1≤(x.os.length:Int)-1)∧(0≤(nth x.zs j).2∧(nth x.zs j).2≤(x.ab.length:Int)-1)
theorem bR(r:Tw.RND)(h:ceR r=0):b9 (al r):=by
 unfold ceR fG at h;split at h
 ·simp at h
 rename_i g1;split at h
 ·rename_i h2;exact absurd h h2
 rename_i g2;split at h
 ·simp at h
 rename_i g3;split at h
 ·rename_i h2;exact absurd h h2
 rename_i g4;split at h
 ·simp at h
 rename_i g5;have hcont:=yg h
 have hw:(bX (fun _=>eh r.ab.length) r.wt 0).2=0:=by
  unfold dT at h;split at h
  ·rename_i h1;exact absurd h h1
  ·rename_i h1;simpa using h1
 rw[hcont] at h;unfold fF at h;split at h
 ·simp at h
 rename_i g6;have g2':(dB Prod.fst dI r.ab r.ab 0).2=0:=Classical.not_not.1 g2;have g4':(dB Prod.fst dj r.os r.os 0).2=0:=Classical.not_not.1 g4
 have C:=fun j hj=>bZ g2' j hj
 have O:=fun j hj=>bZ g4' j hj
 have W:=fun j hj=>bW hw j hj
 have Z:=fun j hj=>bW h j hj
 simp only[Nat.zero_add] at C O W Z
 have hlw:r.wt.length=r.os.length:=by omega
 have wait:∀i,i<r.os.length→(nth r.wt i).length=r.ab.length∧((nth r.wt i).any fun x=>!aL x 0 100000)=false:=fun i hi=>by
  have:=W i (by omega);unfold eh at this;obtain⟨w1,w2⟩:=bd this;obtain⟨w2,_⟩:=bd w2;refine⟨?_,?_⟩
  ·have:=bo (by decide) w1;have:=of_decide_eq_true this;omega
  ·simpa using bo (by decide) w2
 refine⟨by show r.ab.length≤8;omega,by show r.os.length≤8;omega,hlw,by show r.zs.length≤64;omega,eF r,eL r,fun i hi=>(wait i hi).1,fun i hi k hk=>?_,fun k hk=>?_,fun i hi=>?_,fun i hi=>?_,fun k hk=>?_,fun k hk=>?_,fun j hj=>?_⟩
 ·obtain⟨w1,w2⟩:=wait i hi
  have hk':k<(nth r.wt i).length:=by rw[w1];exact hk
  have hm:=ew hk';have:=List.any_eq_false.1 w2 _ hm;have:=bA.1 (by simpa using this);exact this
 ·have:=C k hk;obtain⟨_,n2⟩:=bd this;obtain⟨_,n3⟩:=bd n2;obtain⟨n4,_⟩:=bd n3;exact bA.1 (bo (by decide) n4)
 ·have:=O i hi;obtain⟨_,n2⟩:=bd this;obtain⟨_,n3⟩:=bd n2;obtain⟨n4,_⟩:=bd n3;have:=bo (by decide) n4;rw[Bool.and_eq_true] at this;exact bA.1 this.1
 ·have:=O i hi;obtain⟨_,n2⟩:=bd this;obtain⟨_,n3⟩:=bd n2;obtain⟨n4,_⟩:=bd n3;have:=bo (by decide) n4;rw[Bool.and_eq_true] at this;exact bA.1 this.2
 ·have:=C k hk;obtain⟨n1,n2⟩:=bd this;obtain⟨n2,_⟩:=bd n2;exact⟨bo (by decide) n1,not_true (bo (by decide) n2)⟩
 ·have:=O k hk;obtain⟨n1,n2⟩:=bd this;obtain⟨n2,_⟩:=bd n2;exact⟨bo (by decide) n1,not_true (bo (by decide) n2)⟩
 ·have:=Z j hj;unfold gR at this;obtain⟨n1,_⟩:=bd this;have:=bo (by decide) n1;rw[Bool.and_eq_true] at this;exact⟨bA.1 this.1,bA.1 this.2⟩
end Go.Proofs.YthpkmilhiganjaaGreat
namespace Go.Proofs.YthpkmilhiganjaaGreat
open Go Go.Fi
variable[ar]
def mK(row:List Bool)(w p:List Int)(m0:Int):Nat→Int
 |0=>m0
 |k+1=>if nth row k then (if nth w k+nth p k<mK row w p m0 k then nth w k+nth p k else mK row w p m0 k) else mK row w p m0 k
@[simp] theorem kO(row:List Bool)(w p:List Int)(m0:Int):mK row w p m0 0=m0:=rfl
end Go.Proofs.YthpkmilhiganjaaGreat
namespace Go.Proofs.YthpkmilhiganjaaGreat
open Go Go.Fi
noncomputable instance instLD19:ar:=LD
def er(l:List Int):Nat→Int
 |0=>0
 |k+1=>er l k+nth l k
@[simp] theorem kB(l:List Int):er l 0=0:=rfl
end Go.Proofs.YthpkmilhiganjaaGreat
namespace Go.Proofs.YthpkmilhiganjaaGreat
open Go Go.Fi
variable[ar]
def prio(x:Rd)(i:Nat):Nat:=(nth x.os i).2.2.2.toNat
def ez(x:Rd):Nat→Int
 |0=>0
 |k+1=>ez x k+bf (prio x k)
@[simp] theorem kC(x:Rd):ez x 0=0:=rfl
structure kQ(x:Rd)(plan:List Int):Prop where
 len:plan.length=x.os.length
 at_:∀k,k<plan.length→nth plan k=-1∨(0≤nth plan k∧nth plan k<(x.ab.length:Int))
def iA(l:List Int):List AV:=(ints l).map (AV.w false false)
@[simp] theorem kF(l:List Int):(iA l).length=l.length:=by simp[iA]
@[simp] theorem k6(l:List Int)(n:Nat):AV.lt.ltL n (iA l)=true:=mZ n false false (ints l)
@[simp] theorem kG{D:List Nat}{h:aj}{n n':Nat}(l:List Int):fD D h n n' (iA l) (iA l)=True:=eq_true (lJ false false _)
@[simp high] theorem kH(h:aj)(d:Nat)(l:List Int):(iA l).mapM (frz h d)=some (ints l):=tJ h d false false (ints l)
@[simp] theorem cq:∀l:List Int,dE (ints l)=true
 |[]=>rfl
 |x::r=>by have:=cq r;simpa[ints,dE,flat] using this
@[simp high] theorem kJ(h:aj)(d:Nat)(l:List Int):(iA l).all (db h d)=true:=qe h d false false (ints l) (cq l)
@[simp] theorem cr(a b:List Int):iA a++iA b=iA (a++b):=by simp[iA,ints]
def bB(ab:List Car)(os:List Ord)(zs:List Par)(i k:Nat):Bool:=
 (decide ((nth os i).2.1≤(nth ab k).2.1)&&((nth ab k).2.2 || !(nth os i).2.2.1)) && !hasB zs ((i:Int),(k:Int))
theorem eA(r:Tw.RND)(i k:Nat)(hi:i<r.os.length)(hk:k<r.ab.length):nth (nth (al r).fit i) k=bB r.ab r.os r.zs i k:=by
 have e1:nth (al r).fit i=Tw.iV r i:=by
  unfold al;simp[nth,List.getD_eq_getElem?_getD,hi]
 have e2:nth (Tw.iV r i) k=Tw.yQ (Tw.odW (Tw.odR r) i 0 0 0) k:=by
  show nth ((List.range r.ab.length).map _) k=_;simp[nth,List.getD_eq_getElem?_getD,hk]
 rw[e1,e2]
 have e3:Tw.nu r.zs (i:Int) (k:Int)=hasB r.zs ((i:Int),(k:Int)):=by
  unfold Tw.nu hasB;congr 1
  funext z
  obtain⟨a,b⟩:=z;rw[Bool.eq_iff_iff];simp only[beq_iff_eq,Prod.mk.injEq,Bool.and_eq_true,decide_eq_true_eq];exact⟨fun h=>⟨h.1.symm,h.2.symm⟩,fun h=>⟨h.1.symm,h.2.symm⟩⟩
 show ((decide (((r.ab.getD k (default,0,false)).2.1)≥(r.os.getD i (default,0,false,0)).2.1)&&((r.ab.getD k (default,0,false)).2.2 || !(r.os.getD i (default,0,false,0)).2.2.1))&&(!Tw.nu r.zs i k))=_;rw[e3]
 have h1:r.ab.getD k (default,0,false)=nth r.ab k:=by simp[nth,List.getD_eq_getElem?_getD,hk]
 have h2:r.os.getD i (default,0,false,0)=nth r.os i:=by simp[nth,List.getD_eq_getElem?_getD,hi]
 rw[h1,h2];rfl
theorem dn(ab:List Car)(os:List Ord)(wt:List (List Int))(zs:List Par)(i k:Nat)(hi:i<os.length)(hk:k<ab.length)(hz:zs.length<100000):aA Tz.prog 60 [.agg [.sl ab.length (aQ ab),.sl os.length (aP os),.sl wt.length (aZ wt),.sl zs.length (aS zs)],.int .i64 i,.int .i64 k] (.bool (bB ab os zs i k)) true:=by
 have c1:=cm zs hz ((i:Int),(k:Int));unfold Tw.bH at c1;unfold bB;generalize hasB zs ((i:Int),(k:Int))=g at *;by_cases h1:(nth os i).2.1≤(nth ab k).2.1
 ·rw[decide_eq_true h1]
  cases h2:(nth ab k).2.2 with
  |true=>
   simp only[Bool.true_or,Bool.true_and];refine rcK Tz.func60 ?_;simp only[Tryz.results60,Tryz.ntmps60]
   repeat' (first|(with_reducible first|refine af ?_|refine az ?_|refine ae ?_|refine jk (id:=1) [0,1,2,3,4,5,6,7,8,9,10,11] [12,13] [[],[],[],[],[],[.new 0],[.new 0],[.new 0],[.new 0],[.new 0],[],[]] [[.new 0],[.new 1]] mixed (by decide +kernel) ?_|refine And.intro ?_ ?_|refine cw (c1) ?_|intro _)|(simp[*,hi,hk,h1,h2,Tw.cj,Tw.bG,Tw.bH])|(refine ai (c1) ?_ ?_;(· (simp[*];done))))
   all_goals first|omega
  |false=>
   cases h3:(nth os i).2.2.1 with
   |true=>
    simp only[Bool.not_true,Bool.or_false,Bool.and_false,Bool.false_and];refine rcK Tz.func60 ?_;simp only[Tryz.results60,Tryz.ntmps60]
    repeat' (first|(with_reducible first|refine af ?_|refine az ?_|refine ae ?_|refine jk (id:=1) [0,1,2,3,4,5,6,7,8,9,10,11] [12,13] [[],[],[],[],[],[.new 0],[.new 0],[.new 0],[.new 0],[.new 0],[],[]] [[.new 0],[.new 1]] mixed (by decide +kernel) ?_|refine And.intro ?_ ?_|intro _)|(simp[*,hi,hk,h1,h2,h3,Tw.cj,Tw.bG,Tw.bH])|(refine ai (c1) ?_ ?_;(· (simp[*];done))))
    all_goals first|omega
   |false=>
    simp only[Bool.not_false,Bool.or_true,Bool.true_and];refine rcK Tz.func60 ?_;simp only[Tryz.results60,Tryz.ntmps60]
    repeat' (first|(with_reducible first|refine af ?_|refine az ?_|refine ae ?_|refine jk (id:=1) [0,1,2,3,4,5,6,7,8,9,10,11] [12,13] [[],[],[],[],[],[.new 0],[.new 0],[.new 0],[.new 0],[.new 0],[],[]] [[.new 0],[.new 1]] mixed (by decide +kernel) ?_|refine And.intro ?_ ?_|refine cw (c1) ?_|intro _)|(simp[*,hi,hk,h1,h2,h3,Tw.cj,Tw.bG,Tw.bH])|(refine ai (c1) ?_ ?_;(· (simp[*];done))))
    all_goals first|omega
 ·rw[decide_eq_false h1];simp only[Bool.false_and];refine rcK Tz.func60 ?_;simp only[Tryz.results60,Tryz.ntmps60]
  repeat' (first|(with_reducible first|refine af ?_|refine az ?_|refine ae ?_|refine jk (id:=1) [0,1,2,3,4,5,6,7,8,9,10,11] [12,13] [[],[],[],[],[],[.new 0],[.new 0],[.new 0],[.new 0],[.new 0],[],[]] [[.new 0],[.new 1]] mixed (by decide +kernel) ?_|refine And.intro ?_ ?_|intro _)|(simp[*,hi,hk,h1,Tw.cj,Tw.bG,Tw.bH])|(refine ai (c1) ?_ ?_;(· (simp[*];done))))
  all_goals first|omega
def ah(ab:List Car)(os:List Ord)(zs:List Par)(i n:Nat):List Int:=((List.range n).filter (bB ab os zs i)).map fun k=>((k:Nat):Int)
theorem eM(ab:List Car)(os:List Ord)(zs:List Par)(i n:Nat):ah ab os zs i (n+1)=if bB ab os zs i n then ah ab os zs i n++[(n:Int)] else ah ab os zs i n:=by
 unfold ah;rw[List.range_succ,List.filter_append,List.map_append]
 cases h:bB ab os zs i n<;>simp[h]
theorem eb(ab:List Car)(os:List Ord)(zs:List Par)(i n:Nat):(ah ab os zs i n).length≤n:=by
 unfold ah;rw[List.length_map];exact Nat.le_trans (List.length_filter_le _ _) (by simp)
theorem eN(ab:List Car)(os:List Ord)(wt:List (List Int))(zs:List Par)(i:Nat)(hi:i<os.length)(hc:ab.length≤1000)(hz:zs.length<100000):aA Tz.prog 59 [.agg [.sl ab.length (aQ ab),.sl os.length (aP os),.sl wt.length (aZ wt),.sl zs.length (aS zs)],.int .i64 i] (.sl (ah ab os zs i ab.length).length (ints (ah ab os zs i ab.length))) true:=by
 have c1:=fun k hk=>dn ab os wt zs i k hi hk hz
 have e0:ah ab os zs i 0=[]:=rfl;have eK:=eM ab os zs i;have hK:=eb ab os zs i;generalize ah ab os zs i=K at *;generalize bB ab os zs i=F at *;have kk:=keep (And.intro c1 (And.intro eK hK))
 have e1:(K 0).length=0:=by rw[e0];rfl
 have e2:iA (K 0)=[]:=by rw[e0];rfl
 clear c1 eK hK e0 hi hz;refine rcK Tz.func59 ?_;simp only[Tryz.results59,Tryz.ntmps59]
 repeat' (first|(with_reducible first|refine af ?_|refine ae ?_|intro _)|(simp[*]))
 refine cC 2 (fun(k:Nat)=>k≤ab.length) [1,2] (fun(k:Nat)=>[(5,.msl 1 (K k).length 1 0 (K k).length),(6,.w false false (.int .i64 k))]) [0] (fun(k:Nat)=>[(1,iA (K k))]) (fun(k:Nat)=>ab.length-k) (fun(_u:Unit)=>True) [] (fun(_u:Unit)=>[(5,.msl 1 (K ab.length).length 1 0 (K ab.length).length)]) [] (fun(_u:Unit)=>[(1,iA (K ab.length))]) (0) (Nat.zero_le _) (aO [] (by simp[e1,e2]) (by simp[e1,e2])) (fun k hk=>?_) (fun _u hf=>?_)
 ·clear e1 e2;by_cases hlt:k<ab.length
  ·obtain⟨c1,eK,hK⟩:=kk;have c:=c1 k hlt;have e:=eK k;have hi1:inI .i64 ((k:Int)+1):=aF (by omega) (by omega)
   have hz:k+1≤ab.length:=by omega
   have hb:=hK k
   have hb9:(K k).length+1≤1000000000:=by omega
   clear c1 eK hK
   cases hf:F k with
   |true=>
    rw[hf] at c e;rw[if_pos rfl] at e
    have e3:iA (K (k+1))=iA (K k)++[.w false false (.int .i64 k)]:=by rw[e,←cr];rfl
    have e4:(K (k+1)).length=(K k).length+1:=by rw[e];simp
    clear e hf
    repeat' (first|(with_reducible first|refine af ?_|refine aD ?_|refine av ?_|refine ae ?_|refine ak ?_|refine And.intro ?_ ?_|refine cw (c) ?_|intro _)|(simp[*,hlt,hi1])|(refine ai (c) ?_ ?_;(· (simp[*];done))))
    all_goals first
     |omega
     |assumption
     |(refine nx (k+1) ?_ ?_;(· exact hz);(refine aO [] ?_ ?_<;>first|trivial|(simp[*,e3,e4];done)))
   |false=>
    rw[hf] at c e;rw[if_neg (by decide)] at e;clear hf
    repeat' (first|(with_reducible first|refine af ?_|refine aD ?_|refine av ?_|refine ae ?_|refine ak ?_|refine And.intro ?_ ?_|refine cw (c) ?_|intro _)|(simp[*,hlt,hi1])|(refine ai (c) ?_ ?_;(· (simp[*];done))))
    all_goals first
     |omega
     |assumption
     |(refine nx (k+1) ?_ ?_;(· exact hz);(refine aO [] ?_ ?_<;>first|trivial|(simp[*,e];done)))
  ·have hke:k=ab.length:=by omega
   subst hke;clear kk
   repeat' (first|(with_reducible first|refine af ?_|refine aJ ?_|refine ae ?_|refine ak ?_|intro _)|(simp[*,hlt]))
   all_goals first
    |omega
    |(refine aT () ?_ ?_;(· trivial);(refine aB ?_ ?_<;>first|trivial|(simp[*];done)))
 ·clear kk e1 e2
  repeat' (first|(with_reducible first|refine af ?_|refine az ?_|refine ae ?_|intro _)|(simp[*]))
end Go.Proofs.YthpkmilhiganjaaGreat
