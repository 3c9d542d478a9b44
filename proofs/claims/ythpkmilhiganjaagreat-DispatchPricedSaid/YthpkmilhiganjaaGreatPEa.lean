/- Lemmas. -/
import Derived.Test.YthpkmilhiganjaaGreatPDb
import Derived.Test.YthpkmilhiganjaaGreatPDa
set_option linter.unusedSimpArgs false
set_option linter.unusedVariables false
set_option linter.unusedSectionVars false
set_option maxHeartbeats 32000000
set_option maxRecDepth 100000
namespace Go.Proofs.YthpkmilhiganjaaGreat
open Go Go.Fi
variable[ar]
theorem er(s:ByteArray)(hs:s.size<1000000):aA Tz.prog 134 [.str s] (.bool (dH s)) true:=by
 refine rcK Tz.func134 ?_;simp only[Tryz.results134,Tryz.ntmps134]
 repeat' (first|(with_reducible first|refine af ?_|refine av ?_|refine az ?_|refine ae ?_|refine ak ?_|refine tB ?_ ?_|refine dO ?_ ?_|intro _)|(simp[*]))
 ·exact Kz (by omega)
 rotate_left
 ·rename_i h0;exact Dk (by have:=of_decide_eq_true h0;omega)
 rename_i hA hB
 have hpos:s.size≠0:=by have:=of_decide_eq_false hA;omega
 refine tG (fun k:Nat=>k≤s.size∧iY s k=true) [0] (fun k=>[(3,.w false false (.int .i64 k))]) (fun _=>[]) (fun k=>s.size-k)
  (fun _:Unit=>iY s s.size=true) [0] (fun _=>[]) (fun _=>[]) 0 ⟨Nat.zero_le _,rfl⟩ (by simp) (by simp) (fun k hk=>?_) (fun _ hf=>?_)
 ·obtain⟨hk,hf⟩:=hk
  repeat' (first|(with_reducible first|refine af ?_|refine aD ?_|refine av ?_|refine az ?_|refine aJ ?_|refine ae ?_|refine ak ?_|refine And.intro ?_ ?_|refine tB ?_ ?_|refine tA ?_ ?_|refine dO ?_ ?_|intro _)|(simp[*]))
  all_goals first
   |exact aF (by omega) (by omega)
   |omega
   |(refine nx (k+1) ?_ ?_;(· refine⟨by omega,?_⟩;unfold iY;rw[hf];clear hf;simp[okB,qT] at *;omega);(refine aB ?_ ?_<;>first|trivial|(simp[*];done)))
   |(refine aT () ?_ ?_;(· rw[show s.size=k by omega];exact hf);(refine aB ?_ ?_<;>first|trivial|(simp[*];done)))
   |(unfold dH;rw[yc s k (by clear hf;simp[okB,qT] at *;omega) s.size (by omega)];rfl)
 ·repeat' (first|(with_reducible first|refine af ?_|refine az ?_|refine ae ?_|intro _)|(simp[*]))
  all_goals (rw[Dl hf hpos];simp;omega)
theorem eO(ab:List Car)(os:List Ord)(wt:List (List Int))(zs:List Par)(i:Nat)(hi:i<ab.length)(hl:ab.length≤1000)(hs:∀x∈ab,x.1.size<1000000):aA Tz.prog 108 [.agg [.sl ab.length (aQ ab),.sl os.length (aP os),.sl wt.length (aZ wt),.sl zs.length (aS zs)],.int .i64 i] (.int .i64 (fE Prod.fst dI ab i (nth ab i))) true:=by
 have c1:=er (nth ab i).1 (hs _ (ew hi));have c2:=jm (nth ab i).2.1 1 8;generalize hR:fE Prod.fst dI ab i (nth ab i)=R;unfold fE dI at hR;clear hs
 cases hb:dH (nth ab i).1 with
 |false=>
  rw[hb] at c1 hR;have hR:(4:Int)=R:=hR;subst hR;clear hb c2;refine rcK Tz.func108 ?_;simp only[Tryz.results108,Tryz.ntmps108]
  repeat' (first|(with_reducible first|refine af ?_|refine az ?_|refine ae ?_|refine ak ?_|refine And.intro ?_ ?_|refine cw (c1) ?_|intro _)|(simp[*,hi])|(refine ai (c1) ?_ ?_;(· (simp[*];done))))
  all_goals first|omega
 |true=>
  rw[hb] at c1 hR;clear hb;have hR:bL [aU (!((ab.take i).any fun y=>decide (y.1=(nth ab i).1))) 5,aU (aL (nth ab i).2.1 1 8) 2]=R:=hR;generalize hA:((ab.take i).any fun y=>decide (y.1=(nth ab i).1))=A at hR;have kA:aI (((ab.take i).drop 0).any (fun y=>decide (y.1=(nth ab i).1))=A):=hA;have kR:=keep hR;clear hA hR;refine rcK Tz.func108 ?_;simp only[Tryz.results108,Tryz.ntmps108]
  repeat' (first|(with_reducible first|refine af ?_|refine av ?_|refine ae ?_|refine ak ?_|refine And.intro ?_ ?_|refine cw (c1) ?_|intro _)|(simp[*,hi])|(refine ai (c1) ?_ ?_;(· (simp[*];done))))
  all_goals try first|omega|assumption
  refine bF (fun(k:Nat)=>k≤i∧((ab.take i).drop k).any (fun y=>decide (y.1=(nth ab i).1))=A) [1,2] (fun(k:Nat)=>[(5,.w false false (.int .i64 k))]) [0] (fun(k:Nat)=>[]) (fun(k:Nat)=>i-k) (fun(_u:Unit)=>A=false) [1,2] (fun(_u:Unit)=>[]) [0] (fun(_u:Unit)=>[]) (0) ⟨Nat.zero_le _,kA⟩ (by simp) (by simp) (fun k hk=>?_) (fun _u hf=>?_)
  ·obtain⟨hk,hj⟩:=hk;clear c1;by_cases hlt:k<i
   ·have hkl:k<ab.length:=by omega
    have hlt2:k<(ab.take i).length:=by rw[List.length_take];omega
    rw[b8 _ k hlt2,List.any_cons] at hj
    have e:nth (ab.take i) k=nth ab k:=by
     simp[nth,List.getD_eq_getElem?_getD,List.getElem?_take,hlt]
    rw[e] at hj;have kj:=keep hj;clear hj e hlt2;by_cases hn:(nth ab k).1=(nth ab i).1
    ·have hA:A=true:=by have h:=kj;unfold aI at h;rw[←h];simp[hn]
     subst hA;have hR:(5:Int)=R:=kR;subst hR;clear kj kR kA
     repeat' (first|(with_reducible first|refine af ?_|refine aD ?_|refine av ?_|refine az ?_|refine ae ?_|refine aK (id:=6) 13 mixed (by decide +kernel) ?_|refine ak ?_|intro _)|(simp[*,hlt,hkl,hi,hn]))
     all_goals first|omega|exact aF (by omega) (by omega)
    ·have kj2:aI (((ab.take i).drop (k+1)).any (fun y=>decide (y.1=(nth ab i).1))=A):=by have h:=kj;unfold aI at h ⊢;rw[←h];simp[hn]
     clear kj kA
     repeat' (first|(with_reducible first|refine af ?_|refine aD ?_|refine av ?_|refine ae ?_|refine aK (id:=6) 13 mixed (by decide +kernel) ?_|refine ak ?_|refine And.intro ?_ ?_|intro _)|(simp[*,hlt,hkl,hi,hn]))
     all_goals first
      |omega
      |exact aF (by omega) (by omega)
      |(refine nx (k+1) ?_ ?_;(· exact⟨by omega,kj2⟩);(refine aB ?_ ?_<;>first|trivial|(simp[*];done)))
   ·have hke:k=i:=by omega
    subst hke;have hj2:aI (A=false):=keep (by rw[←hj];simp);clear hj kA
    repeat' (first|(with_reducible first|refine af ?_|refine aJ ?_|refine ae ?_|refine ak ?_|intro _)|(simp[*]))
    all_goals first
     |omega
     |(refine aT () ?_ ?_;(· exact hj2);(refine aB ?_ ?_<;>first|trivial|(simp[*];done)))
  ·subst hf;clear kA c1
   cases hw:aL (nth ab i).2.1 1 8 with
   |true=>
    rw[hw] at c2 kR;have hR:(0:Int)=R:=kR;subst hR;clear kR hw
    repeat' (first|(with_reducible first|refine af ?_|refine av ?_|refine az ?_|refine ae ?_|refine ak ?_|refine And.intro ?_ ?_|refine cw (c2) ?_|intro _)|(simp[*,hi])|(refine ai (c2) ?_ ?_;(· (simp[*];done))))
    all_goals first|omega
   |false=>
    rw[hw] at c2 kR;have hR:(2:Int)=R:=kR;subst hR;clear kR hw
    repeat' (first|(with_reducible first|refine af ?_|refine az ?_|refine ae ?_|refine ak ?_|refine And.intro ?_ ?_|refine cw (c2) ?_|intro _)|(simp[*,hi])|(refine ai (c2) ?_ ?_;(· (simp[*];done))))
    all_goals first|omega
theorem eP(ab:List Car)(os:List Ord)(wt:List (List Int))(zs:List Par)(i:Nat)(hi:i<os.length)(hl:os.length≤1000)(hs:∀x∈os,x.1.size<1000000):aA Tz.prog 109 [.agg [.sl ab.length (aQ ab),.sl os.length (aP os),.sl wt.length (aZ wt),.sl zs.length (aS zs)],.int .i64 i] (.int .i64 (fE Prod.fst dj os i (nth os i))) true:=by
 have c1:=er (nth os i).1 (hs _ (ew hi));have c2:=jm (nth os i).2.1 1 8;have c3:=jm (nth os i).2.2.2 0 6;generalize hR:fE Prod.fst dj os i (nth os i)=R;unfold fE dj at hR;clear hs
 cases hb:dH (nth os i).1 with
 |false=>
  rw[hb] at c1 hR;have hR:(4:Int)=R:=hR;subst hR;clear hb c2 c3;refine rcK Tz.func109 ?_;simp only[Tryz.results109,Tryz.ntmps109]
  repeat' (first|(with_reducible first|refine af ?_|refine az ?_|refine ae ?_|refine ak ?_|refine And.intro ?_ ?_|refine cw (c1) ?_|intro _)|(simp[*,hi])|(refine ai (c1) ?_ ?_;(· (simp[*];done))))
  all_goals first|omega
 |true=>
  rw[hb] at c1 hR;clear hb;have hR:bL [aU (!((os.take i).any fun y=>decide (y.1=(nth os i).1))) 5,aU (aL (nth os i).2.1 1 8&&aL (nth os i).2.2.2 0 6) 2]=R:=hR;generalize hA:((os.take i).any fun y=>decide (y.1=(nth os i).1))=A at hR;have kA:aI (((os.take i).drop 0).any (fun y=>decide (y.1=(nth os i).1))=A):=hA;have kR:=keep hR;clear hA hR;refine rcK Tz.func109 ?_;simp only[Tryz.results109,Tryz.ntmps109]
  repeat' (first|(with_reducible first|refine af ?_|refine av ?_|refine ae ?_|refine ak ?_|refine And.intro ?_ ?_|refine cw (c1) ?_|intro _)|(simp[*,hi])|(refine ai (c1) ?_ ?_;(· (simp[*];done))))
  all_goals try first|omega|assumption
  refine bF (fun(k:Nat)=>k≤i∧((os.take i).drop k).any (fun y=>decide (y.1=(nth os i).1))=A) [1,2] (fun(k:Nat)=>[(5,.w false false (.int .i64 k))]) [0] (fun(k:Nat)=>[]) (fun(k:Nat)=>i-k) (fun(_u:Unit)=>A=false) [1,2] (fun(_u:Unit)=>[]) [0] (fun(_u:Unit)=>[]) (0) ⟨Nat.zero_le _,kA⟩ (by simp) (by simp) (fun k hk=>?_) (fun _u hf=>?_)
  ·obtain⟨hk,hj⟩:=hk;clear c1;by_cases hlt:k<i
   ·have hkl:k<os.length:=by omega
    have hlt2:k<(os.take i).length:=by rw[List.length_take];omega
    rw[b8 _ k hlt2,List.any_cons] at hj
    have e:nth (os.take i) k=nth os k:=by
     simp[nth,List.getD_eq_getElem?_getD,List.getElem?_take,hlt]
    rw[e] at hj;have kj:=keep hj;clear hj e hlt2;by_cases hn:(nth os k).1=(nth os i).1
    ·have hA:A=true:=by have h:=kj;unfold aI at h;rw[←h];simp[hn]
     subst hA;have hR:(5:Int)=R:=kR;subst hR;clear kj kR kA
     repeat' (first|(with_reducible first|refine af ?_|refine aD ?_|refine av ?_|refine az ?_|refine ae ?_|refine aK (id:=6) 13 mixed (by decide +kernel) ?_|refine ak ?_|intro _)|(simp[*,hlt,hkl,hi,hn]))
     all_goals first|omega|exact aF (by omega) (by omega)
    ·have kj2:aI (((os.take i).drop (k+1)).any (fun y=>decide (y.1=(nth os i).1))=A):=by have h:=kj;unfold aI at h ⊢;rw[←h];simp[hn]
     clear kj kA
     repeat' (first|(with_reducible first|refine af ?_|refine aD ?_|refine av ?_|refine ae ?_|refine aK (id:=6) 13 mixed (by decide +kernel) ?_|refine ak ?_|refine And.intro ?_ ?_|intro _)|(simp[*,hlt,hkl,hi,hn]))
     all_goals first
      |omega
      |exact aF (by omega) (by omega)
      |(refine nx (k+1) ?_ ?_;(· exact⟨by omega,kj2⟩);(refine aB ?_ ?_<;>first|trivial|(simp[*];done)))
   ·have hke:k=i:=by omega
    subst hke;have hj2:aI (A=false):=keep (by rw[←hj];simp);clear hj kA
    repeat' (first|(with_reducible first|refine af ?_|refine aJ ?_|refine ae ?_|refine ak ?_|intro _)|(simp[*]))
    all_goals first
     |omega
     |(refine aT () ?_ ?_;(· exact hj2);(refine aB ?_ ?_<;>first|trivial|(simp[*];done)))
  ·subst hf;clear kA c1
   cases hw:aL (nth os i).2.1 1 8 with
   |true=>
    cases hv:aL (nth os i).2.2.2 0 6 with
    |true=>
     rw[hw,hv] at kR;rw[hw] at c2;rw[hv] at c3;have hR:(0:Int)=R:=kR;subst hR;clear kR hw hv
     repeat' (first|(with_reducible first|refine af ?_|refine av ?_|refine az ?_|refine ae ?_|refine ak ?_|refine And.intro ?_ ?_|refine cw (c2) ?_|refine cw (c3) ?_|intro _)|(simp[*,hi])|(refine ai (c2) ?_ ?_;(· (simp[*];done)))|(refine ai (c3) ?_ ?_;(· (simp[*];done))))
     all_goals first|omega
    |false=>
     rw[hw,hv] at kR;rw[hw] at c2;rw[hv] at c3;have hR:(2:Int)=R:=kR;subst hR;clear kR hw hv
     repeat' (first|(with_reducible first|refine af ?_|refine az ?_|refine ae ?_|refine ak ?_|refine And.intro ?_ ?_|refine cw (c2) ?_|refine cw (c3) ?_|intro _)|(simp[*,hi])|(refine ai (c2) ?_ ?_;(· (simp[*];done)))|(refine ai (c3) ?_ ?_;(· (simp[*];done))))
     all_goals first|omega
   |false=>
    rw[hw] at c2 kR;have hR:(2:Int)=R:=kR;subst hR;clear kR hw c3
    repeat' (first|(with_reducible first|refine af ?_|refine az ?_|refine ae ?_|refine ak ?_|refine And.intro ?_ ?_|refine cw (c2) ?_|intro _)|(simp[*,hi])|(refine ai (c2) ?_ ?_;(· (simp[*];done))))
    all_goals first|omega
def hasB(l:List Par)(v:Par):Bool:=l.any fun y=>decide (v.1=y.1)&&decide (v.2=y.2)
theorem ez(l:List Par)(hl:l.length<100000)(v:Par):aA Tz.prog 110 [.sl l.length (aS l),.agg (Tw.bH v)] (.bool (hasB l v)) true:=by
 unfold hasB;generalize hR:(l.any fun y=>decide (v.1=y.1)&&decide (v.2=y.2))=R;have kR:aI ((l.drop 0).any (fun y=>decide (v.1=y.1)&&decide (v.2=y.2))=R):=keep hR;clear hR;obtain⟨v1,v2⟩:=v;simp only[Tw.bH];refine rcK Tz.func110 ?_;simp only[Tryz.results110,Tryz.ntmps110]
 repeat' (first|(with_reducible first|refine af ?_|refine ae ?_|intro _)|(simp[*]))
 refine bF (fun(k:Nat)=>k≤l.length∧(l.drop k).any (fun y=>decide (v1=y.1)&&decide (v2=y.2))=R) [0,3] (fun(k:Nat)=>[(5,.w false false (.int .i64 k))]) [0] (fun(k:Nat)=>[]) (fun(k:Nat)=>l.length-k) (fun(_u:Unit)=>R=false) [] (fun(_u:Unit)=>[]) [0] (fun(_u:Unit)=>[]) (0) ⟨Nat.zero_le _,kR⟩ (by simp) (by simp) (fun k hk=>?_) (fun _u hf=>?_)
 ·obtain⟨hk,hj⟩:=hk;by_cases hlt:k<l.length
  ·rw[b8 l k hlt,List.any_cons] at hj;by_cases h1:(nth l k).1=v1
   ·by_cases h2:(nth l k).2=v2
    ·have hR:R=true:=by rw[←hj];simp[h1,h2]
     subst hR;clear hj kR
     repeat' (first|(with_reducible first|refine af ?_|refine aD ?_|refine av ?_|refine az ?_|refine ae ?_|refine aK (id:=4) 6 mixed (by decide +kernel) ?_|refine ak ?_|refine And.intro ?_ ?_|intro _)|(simp[*,hlt,h1,h2,Tw.bH]))
     all_goals first|omega|exact aF (by omega) (by omega)
    ·have h2':¬v2=(nth l k).2:=fun e=>h2 e.symm
     have kj:aI ((l.drop (k+1)).any (fun y=>decide (v1=y.1)&&decide (v2=y.2))=R):=keep (by rw[←hj];simp[h2']);clear hj kR h2'
     repeat' (first|(with_reducible first|refine af ?_|refine aD ?_|refine av ?_|refine ae ?_|refine aK (id:=4) 6 mixed (by decide +kernel) ?_|refine ak ?_|refine And.intro ?_ ?_|intro _)|(simp[*,hlt,h1,h2,Tw.bH]))
     all_goals first
      |omega
      |exact aF (by omega) (by omega)
      |(refine nx (k+1) ?_ ?_;(· exact⟨by omega,kj⟩);(refine aB ?_ ?_<;>first|trivial|(simp[*];done)))
   ·have h1':¬v1=(nth l k).1:=fun e=>h1 e.symm
    have kj:aI ((l.drop (k+1)).any (fun y=>decide (v1=y.1)&&decide (v2=y.2))=R):=keep (by rw[←hj];simp[h1']);clear hj kR h1'
    repeat' (first|(with_reducible first|refine af ?_|refine aD ?_|refine av ?_|refine ae ?_|refine aK (id:=4) 6 mixed (by decide +kernel) ?_|refine ak ?_|refine And.intro ?_ ?_|intro _)|(simp[*,hlt,h1,Tw.bH]))
    all_goals first
     |omega
     |exact aF (by omega) (by omega)
     |(refine nx (k+1) ?_ ?_;(· exact⟨by omega,kj⟩);(refine aB ?_ ?_<;>first|trivial|(simp[*];done)))
  ·have hke:k=l.length:=by omega
   subst hke;have kj:aI (R=false):=keep (by rw[←hj];simp);clear hj kR
   repeat' (first|(with_reducible first|refine af ?_|refine aJ ?_|refine ae ?_|refine ak ?_|intro _)|(simp[*]))
   all_goals first
    |(refine aT () ?_ ?_;(· exact kj);(refine aB ?_ ?_<;>first|trivial|(simp[*];done)))
 ·subst hf
  repeat' (first|(with_reducible first|refine af ?_|refine az ?_|refine ae ?_|intro _)|(simp[*]))
theorem eR(ab:List Car)(os:List Ord)(wt:List (List Int))(zs:List Par)(ho:os.length<100000)(n:Int):aA Tz.prog 43 [.agg [.sl ab.length (aQ ab),.sl os.length (aP os),.sl wt.length (aZ wt),.sl zs.length (aS zs)],.int .i64 n] (.bool (aL n 0 ((os.length:Int)-1))) true:=by
 refine rcK Tz.func43 ?_;simp only[Tryz.results43,Tryz.ntmps43]
 repeat' (first|(with_reducible first|refine af ?_|refine az ?_|refine ae ?_|refine And.intro ?_ ?_|refine cw (jm _ _ _) ?_|intro _)|(simp[*])|(refine ai (jm _ _ _) ?_ ?_;(· (simp[*];done))))
 all_goals first|omega|exact aF (by omega) (by omega)
theorem eW(ab:List Car)(os:List Ord)(wt:List (List Int))(zs:List Par)(ho:ab.length<100000)(n:Int):aA Tz.prog 45 [.agg [.sl ab.length (aQ ab),.sl os.length (aP os),.sl wt.length (aZ wt),.sl zs.length (aS zs)],.int .i64 n] (.bool (aL n 0 ((ab.length:Int)-1))) true:=by
 refine rcK Tz.func45 ?_;simp only[Tryz.results45,Tryz.ntmps45]
 repeat' (first|(with_reducible first|refine af ?_|refine az ?_|refine ae ?_|refine And.intro ?_ ?_|refine cw (jm _ _ _) ?_|intro _)|(simp[*])|(refine ai (jm _ _ _) ?_ ?_;(· (simp[*];done))))
 all_goals first|omega|exact aF (by omega) (by omega)
theorem fb(ab:List Car)(os:List Ord)(wt:List (List Int))(zs:List Par)(hc1:ab.length≤1000)(ho1:os.length≤1000)(hw1:wt.length<100000)(hz1:zs.length<100000)(hc:∀x∈ab,x.1.size<1000000)(ho:∀x∈os,x.1.size<1000000)(hw:∀x∈wt,x.length<100000):aA Tz.prog 58 [.agg [.sl ab.length (aQ ab),.sl os.length (aP os),.sl wt.length (aZ wt),.sl zs.length (aS zs)]] (.tup [.int .i64 (fG ab os wt zs).1,.int .i64 (fG ab os wt zs).2]) true:=by
 generalize hR:fG ab os wt zs=R;obtain⟨R1,R2⟩:=R;unfold fG at hR;have kc:=keep hc;have ko:=keep ho;have kw:=keep hw;clear hc ho hw;by_cases a1:(8:Int)<ab.length
 ·rw[if_pos a1] at hR;obtain⟨q1,q2⟩:=Prod.mk.inj hR;subst q1 q2;clear hR;refine rcK Tz.func58 ?_;simp only[Tryz.results58,Tryz.ntmps58]
  repeat' (first|(with_reducible first|refine af ?_|refine az ?_|refine ae ?_|refine ak ?_|intro _)|(simp[*,a1]))
  all_goals first|omega|exact aF (by omega) (by omega)|assumption
 rw[if_neg a1] at hR;generalize hN:eU Prod.fst dI ab=N at hR;obtain⟨N1,N2⟩:=N;have kN:aI (dB Prod.fst dI ab (ab.drop 0) 0=(N1,N2)):=hN;have kR:=keep hR;clear hR hN;refine rcK Tz.func58 ?_;simp only[Tryz.results58,Tryz.ntmps58]
 repeat' (first|(with_reducible first|refine af ?_|refine av ?_|refine ae ?_|refine ak ?_|intro _)|(simp[*,a1]))
 refine bF (fun(k:Nat)=>k≤ab.length∧dB Prod.fst dI ab (ab.drop k) k=(N1,N2)) [1] (fun(k:Nat)=>[(4,.w false false (.int .i64 k))]) [0] (fun(k:Nat)=>[]) (fun(k:Nat)=>ab.length-k) (fun(_u:Unit)=>N1=0∧N2=0) [1] (fun(_u:Unit)=>[]) [0] (fun(_u:Unit)=>[]) (0) ⟨Nat.zero_le _,kN⟩ (by simp) (by simp) (fun k hk=>?_) (fun _u hf=>?_)
 ·obtain⟨hk,hj⟩:=hk;by_cases hlt:k<ab.length
  ·have c1:=eO ab os wt zs k hlt (by omega) kc;rw[b8 ab k hlt,dB] at hj;generalize fE Prod.fst dI ab k (nth ab k)=e at hj c1;by_cases he:e=0
   ·rw[if_pos he] at hj;subst he;have kj:=keep hj;clear hj
    repeat' (first|(with_reducible first|refine af ?_|refine aD ?_|refine av ?_|refine ae ?_|refine ak ?_|refine And.intro ?_ ?_|refine cw (c1) ?_|intro _)|(simp[*,hlt])|(refine ai (c1) ?_ ?_;(· (simp[*];done))))
    all_goals first
     |omega
     |exact aF (by omega) (by omega)
     |(refine nx (k+1) ?_ ?_;(· exact⟨by omega,kj⟩);(refine aB ?_ ?_<;>first|trivial|(simp[*];done)))
   ·rw[if_neg he] at hj;obtain⟨g1,g2⟩:=Prod.mk.inj hj;have h1:=(Prod.mk.inj (show (N1,N2)=(R1,R2) by have h:=kR;unfold aI at h;rw[if_pos (show (N1,N2).2≠0 from fun h0=>he (g2.trans h0))] at h;exact h));have q1:(k:Int)=R1:=g1.trans h1.1;have q2:e=R2:=g2.trans h1.2;subst q1 q2;clear hj kR g1 g2 h1 kN
    repeat' (first|(with_reducible first|refine af ?_|refine aD ?_|refine av ?_|refine az ?_|refine ae ?_|refine ak ?_|refine And.intro ?_ ?_|refine cw (c1) ?_|intro _)|(simp[*,hlt,he])|(refine ai (c1) ?_ ?_;(· (simp[*];done))))
    all_goals first|omega|exact aF (by omega) (by omega)|assumption
  ·have hke:k=ab.length:=by omega
   subst hke;rw[List.drop_length] at hj;have hj:((0:Int),(0:Int))=(N1,N2):=hj;have kj:aI (N1=0∧N2=0):=keep ⟨(Prod.mk.inj hj).1.symm,(Prod.mk.inj hj).2.symm⟩;clear hj
   repeat' (first|(with_reducible first|refine af ?_|refine aJ ?_|refine ae ?_|refine ak ?_|intro _)|(simp[*]))
   all_goals first
    |omega
    |(refine aT () ?_ ?_;(· exact kj);(refine aB ?_ ?_<;>first|trivial|(simp[*];done)))
 obtain⟨rfl,rfl⟩:=hf;have hR:(if (8:Int)<os.length then ((0:Int),(8:Int)) else if (eU Prod.fst dj os).2≠0 then eU Prod.fst dj os else if (wt.length:Int)≠os.length then (0,10) else dT (fun _=>eh ab.length) wt 0 (fF os.length ab.length zs))=(R1,R2):=kR;clear kR kN;by_cases a2:(8:Int)<os.length
 ·rw[if_pos a2] at hR;obtain⟨q1,q2⟩:=Prod.mk.inj hR;subst q1 q2;clear hR
  repeat' (first|(with_reducible first|refine af ?_|refine az ?_|refine ae ?_|refine ak ?_|intro _)|(simp[*,a2]))
  all_goals first|omega|exact aF (by omega) (by omega)|assumption
 rw[if_neg a2] at hR;generalize hN:eU Prod.fst dj os=M at hR;obtain⟨M1,M2⟩:=M;have kM:aI (dB Prod.fst dj os (os.drop 0) 0=(M1,M2)):=hN;have kR:=keep hR;clear hR hN
 repeat' (first|(with_reducible first|refine af ?_|refine av ?_|refine ae ?_|refine ak ?_|intro _)|(simp[*,a2]))
 refine bF (fun(k:Nat)=>k≤os.length∧dB Prod.fst dj os (os.drop k) k=(M1,M2)) [1] (fun(k:Nat)=>[(6,.w false false (.int .i64 k))]) [0] (fun(k:Nat)=>[]) (fun(k:Nat)=>os.length-k) (fun(_u:Unit)=>M1=0∧M2=0) [1] (fun(_u:Unit)=>[]) [0] (fun(_u:Unit)=>[]) (0) ⟨Nat.zero_le _,kM⟩ (by simp) (by simp) (fun k hk=>?_) (fun _u hf=>?_)
 ·obtain⟨hk,hj⟩:=hk;by_cases hlt:k<os.length
  ·have c1:=eP ab os wt zs k hlt (by omega) ko;rw[b8 os k hlt,dB] at hj;generalize fE Prod.fst dj os k (nth os k)=e at hj c1;by_cases he:e=0
   ·rw[if_pos he] at hj;subst he;have kj:=keep hj;clear hj
    repeat' (first|(with_reducible first|refine af ?_|refine aD ?_|refine av ?_|refine ae ?_|refine ak ?_|refine And.intro ?_ ?_|refine cw (c1) ?_|intro _)|(simp[*,hlt])|(refine ai (c1) ?_ ?_;(· (simp[*];done))))
    all_goals first
     |omega
     |exact aF (by omega) (by omega)
     |(refine nx (k+1) ?_ ?_;(· exact⟨by omega,kj⟩);(refine aB ?_ ?_<;>first|trivial|(simp[*];done)))
   ·rw[if_neg he] at hj;obtain⟨g1,g2⟩:=Prod.mk.inj hj;have h1:=(Prod.mk.inj (show (M1,M2)=(R1,R2) by have h:=kR;unfold aI at h;rw[if_pos (show (M1,M2).2≠0 from fun h0=>he (g2.trans h0))] at h;exact h));have q1:(k:Int)=R1:=g1.trans h1.1;have q2:e=R2:=g2.trans h1.2;subst q1 q2;clear hj kR g1 g2 h1 kM
    repeat' (first|(with_reducible first|refine af ?_|refine aD ?_|refine av ?_|refine az ?_|refine ae ?_|refine ak ?_|refine And.intro ?_ ?_|refine cw (c1) ?_|intro _)|(simp[*,hlt,he])|(refine ai (c1) ?_ ?_;(· (simp[*];done))))
    all_goals first|omega|exact aF (by omega) (by omega)|assumption
  ·have hke:k=os.length:=by omega
   subst hke;rw[List.drop_length] at hj;have hj:((0:Int),(0:Int))=(M1,M2):=hj;have kj:aI (M1=0∧M2=0):=keep ⟨(Prod.mk.inj hj).1.symm,(Prod.mk.inj hj).2.symm⟩;clear hj
   repeat' (first|(with_reducible first|refine af ?_|refine aJ ?_|refine ae ?_|refine ak ?_|intro _)|(simp[*]))
   all_goals first
    |omega
    |(refine aT () ?_ ?_;(· exact kj);(refine aB ?_ ?_<;>first|trivial|(simp[*];done)))
 obtain⟨rfl,rfl⟩:=hf;have hR:(if (wt.length:Int)≠os.length then ((0:Int),(10:Int)) else dT (fun _=>eh ab.length) wt 0 (fF os.length ab.length zs))=(R1,R2):=kR;clear kR kM;by_cases a3:(wt.length:Int)=os.length
 rotate_left
 ·rw[if_pos a3] at hR;obtain⟨q1,q2⟩:=Prod.mk.inj hR;subst q1 q2;clear hR
  repeat' (first|(with_reducible first|refine af ?_|refine az ?_|refine ae ?_|refine ak ?_|intro _)|(simp[*,a3]))
  all_goals first|omega|exact aF (by omega) (by omega)|assumption
 rw[if_neg (fun h=>h a3)] at hR;have kT:aI (dT (fun _=>eh ab.length) (wt.drop 0) 0 (fF os.length ab.length zs)=(R1,R2)):=hR;clear hR
 repeat' (first|(with_reducible first|refine af ?_|refine av ?_|refine ae ?_|refine ak ?_|intro _)|(simp[*,a3]))
 refine bF (fun(k:Nat)=>k≤wt.length∧dT (fun _=>eh ab.length) (wt.drop k) k (fF os.length ab.length zs)=(R1,R2)) [1] (fun(k:Nat)=>[(8,.w false false (.int .i64 k))]) [0] (fun(k:Nat)=>[]) (fun(k:Nat)=>wt.length-k) (fun(_u:Unit)=>fF os.length ab.length zs=(R1,R2)) [1] (fun(_u:Unit)=>[]) [0] (fun(_u:Unit)=>[]) (0) ⟨Nat.zero_le _,kT⟩ (by simp) (by simp) (fun k hk=>?_) (fun _u hf=>?_)
 ·obtain⟨hk,hj⟩:=hk;clear kT;by_cases hlt:k<wt.length
  ·have hrow:=kw _ (ew hlt);rw[b8 wt k hlt,Dp] at hj;unfold eh at hj;by_cases hl:((nth wt k).length:Int)=ab.length
   ·rw[decide_eq_true hl] at hj
    have hj:(if aU (!((nth wt k).any fun x=>!aL x 0 100000)) 2=0 then dT (fun _=>eh ab.length) (wt.drop (k+1)) (k+1) (fF os.length ab.length zs) else ((k:Int),aU (!((nth wt k).any fun x=>!aL x 0 100000)) 2))=(R1,R2):=by
     rw[←hj];simp only[bL,aU]
     cases ((nth wt k).any fun x=>!aL x 0 100000)<;>rfl
    generalize hA:((nth wt k).any fun x=>!aL x 0 100000)=A at hj;have kA:aI (((nth wt k).drop 0).any (fun x=>!aL x 0 100000)=A):=hA;have kj:=keep hj;clear hj hA
    repeat' (first|(with_reducible first|refine af ?_|refine aD ?_|refine av ?_|refine aJ ?_|refine ae ?_|refine aK (id:=22) 10 mixed (by decide +kernel) ?_|refine ak ?_|refine dO ?_ ?_|intro _)|(simp[*,hlt,hl]))
    all_goals try first|omega|assumption
    refine bF (fun(j:Nat)=>j≤(nth wt k).length∧((nth wt k).drop j).any (fun x=>!aL x 0 100000)=A) [1,8] (fun(j:Nat)=>[(9,.w false false (.int .i64 j))]) [0] (fun(j:Nat)=>[]) (fun(j:Nat)=>(nth wt k).length-j) (fun(_u:Unit)=>A=false) [1,8] (fun(_u:Unit)=>[]) [0] (fun(_u:Unit)=>[]) (0) ⟨Nat.zero_le _,kA⟩ (by simp) (by simp) (fun j hk=>?_) (fun _u hf=>?_)
    ·obtain⟨hj1,hj2⟩:=hk;clear kA;by_cases hjt:j<(nth wt k).length
     ·rw[b8 _ j hjt,List.any_cons] at hj2;have c1:=jm (nth (nth wt k) j) 0 100000
      cases hb:aL (nth (nth wt k) j) 0 100000 with
      |true=>
       rw[hb] at hj2 c1;have kj2:aI (((nth wt k).drop (j+1)).any (fun x=>!aL x 0 100000)=A):=keep hj2;clear hj2 kj hb
       repeat' (first|(with_reducible first|refine af ?_|refine aD ?_|refine av ?_|refine aJ ?_|refine ae ?_|refine ak ?_|refine And.intro ?_ ?_|refine dO ?_ ?_|refine cw (c1) ?_|intro _)|(simp[*,hlt,hjt])|(refine ai (c1) ?_ ?_;(· (simp[*];done))))
       all_goals first
        |omega
        |exact aF (by omega) (by omega)
        |(refine nx (j+1) ?_ ?_;(· exact⟨by omega,kj2⟩);(refine aB ?_ ?_<;>first|trivial|(simp[*];done)))
      |false=>
       rw[hb] at hj2 c1
       have hA:A=true:=by rw[←hj2];rfl
       subst hA;have h1:((k:Int),(2:Int))=(R1,R2):=kj;obtain⟨q1,q2⟩:=Prod.mk.inj h1;subst q1 q2;clear hj2 kj hb h1
       repeat' (first|(with_reducible first|refine af ?_|refine aD ?_|refine av ?_|refine az ?_|refine aJ ?_|refine ae ?_|refine ak ?_|refine And.intro ?_ ?_|refine dO ?_ ?_|refine cw (c1) ?_|intro _)|(simp[*,hlt,hjt])|(refine ai (c1) ?_ ?_;(· (simp[*];done))))
       all_goals first|omega|exact aF (by omega) (by omega)
     ·have hke:j=(nth wt k).length:=by omega
      subst hke;have kj2:aI (A=false):=keep (by rw[←hj2];simp);clear hj2 kj
      repeat' (first|(with_reducible first|refine af ?_|refine aJ ?_|refine ae ?_|refine ak ?_|intro _)|(simp[*,hlt]))
      all_goals first
       |omega
       |(refine aT () ?_ ?_;(· exact kj2);(refine aB ?_ ?_<;>first|trivial|(simp[*];done)))
    ·subst hf;have kj2:aI (dT (fun _=>eh ab.length) (wt.drop (k+1)) (k+1) (fF os.length ab.length zs)=(R1,R2)):=kj;clear kj kA
     repeat' (first|(with_reducible first|refine ae ?_|refine And.intro ?_ ?_|intro _)|(simp[*,hlt]))
     all_goals first
      |omega
      |exact aF (by omega) (by omega)
      |(refine nx (k+1) ?_ ?_;(· exact⟨by omega,kj2⟩);(refine aB ?_ ?_<;>first|trivial|(simp[*];done)))
   ·rw[decide_eq_false hl] at hj;have h1:((k:Int),(10:Int))=(R1,R2):=hj;obtain⟨q1,q2⟩:=Prod.mk.inj h1;subst q1 q2;clear hj h1
    repeat' (first|(with_reducible first|refine af ?_|refine aD ?_|refine av ?_|refine az ?_|refine aJ ?_|refine ae ?_|refine aK (id:=22) 10 mixed (by decide +kernel) ?_|refine ak ?_|refine dO ?_ ?_|intro _)|(simp[*,hlt,hl]))
    all_goals first|omega|exact aF (by omega) (by omega)
  ·have hke:k=wt.length:=by omega
   subst hke;rw[List.drop_length,Dq] at hj;have kj:=keep hj;clear hj
   repeat' (first|(with_reducible first|refine af ?_|refine aJ ?_|refine ae ?_|refine ak ?_|intro _)|(simp[*,a3]))
   all_goals first
    |omega
    |(refine aT () ?_ ?_;(· exact kj);(refine aB ?_ ?_<;>first|trivial|(simp[*];done)))
 clear kT;unfold fF at hf;by_cases a4:(64:Int)<zs.length
 ·rw[if_pos a4] at hf;obtain⟨q1,q2⟩:=Prod.mk.inj hf;subst q1 q2;clear hf
  repeat' (first|(with_reducible first|refine af ?_|refine az ?_|refine ae ?_|refine ak ?_|intro _)|(simp[*,a4]))
  all_goals first|omega|exact aF (by omega) (by omega)|assumption
 rw[if_neg a4] at hf;have kS:aI (bX (gR os.length ab.length zs) (zs.drop 0) 0=(R1,R2)):=hf;clear hf
 repeat' (first|(with_reducible first|refine af ?_|refine av ?_|refine ae ?_|refine ak ?_|intro _)|(simp[*,a4]))
 refine cC 1 (fun(k:Nat)=>k≤zs.length∧bX (gR os.length ab.length zs) (zs.drop k) k=(R1,R2)) [1] (fun(k:Nat)=>[(10,.w false false (.int .i64 k))]) [0] (fun(k:Nat)=>[]) (fun(k:Nat)=>zs.length-k) (fun(_u:Unit)=>R1=0∧R2=0) [] (fun(_u:Unit)=>[]) [0] (fun(_u:Unit)=>[]) (0) ⟨Nat.zero_le _,kS⟩ (aO [] (by simp) (by simp)) (fun k hk=>?_) (fun _u hf=>?_)
 ·obtain⟨hk,hj⟩:=hk;clear kS;by_cases hlt:k<zs.length
  ·have c1:=ez (zs.take k) (by rw[List.length_take];omega) (nth zs k);rw[List.length_take_of_le hk] at c1;have w1:=eR ab os wt zs (by omega) (nth zs k).1;have w2:=eW ab os wt zs (by omega) (nth zs k).2;rw[b8 zs k hlt,bX] at hj;have hE:gR os.length ab.length zs k (nth zs k)=bL [aU (aL (nth zs k).1 0 ((os.length:Int)-1)&&aL (nth zs k).2 0 ((ab.length:Int)-1)) 6,aU (!(hasB (zs.take k) (nth zs k))) 26]:=rfl;rw[hE] at hj;clear hE;unfold Tw.bH at c1;generalize aL (nth zs k).1 0 ((os.length:Int)-1)=g1 at *;generalize aL (nth zs k).2 0 ((ab.length:Int)-1)=g2 at *;generalize hasB (zs.take k) (nth zs k)=g3 at *
   have fin:∀e:Int,e≠0→((if e=0 then bX (gR os.length ab.length zs) (zs.drop (k+1)) (k+1) else ((k:Int),e))=(R1,R2))→(k:Int)=R1∧e=R2:=fun e he h=>by rw[if_neg he] at h;exact Prod.mk.inj h
   cases g1 with
   |false=>
    obtain⟨q1,q2⟩:=fin 6 (by decide) hj;subst q1 q2;clear hj fin
    repeat' (first|(with_reducible first|refine af ?_|refine aD ?_|refine av ?_|refine az ?_|refine ae ?_|refine ak ?_|refine And.intro ?_ ?_|refine cw (w1) ?_|intro _)|(simp[*,hlt,Tw.bH])|(refine ai (w1) ?_ ?_;(· (simp[*];done))))
    all_goals first|omega|exact aF (by omega) (by omega)
   |true=>
    cases g2 with
    |false=>
     obtain⟨q1,q2⟩:=fin 6 (by decide) hj;subst q1 q2;clear hj fin
     repeat' (first|(with_reducible first|refine af ?_|refine aD ?_|refine av ?_|refine az ?_|refine ae ?_|refine ak ?_|refine And.intro ?_ ?_|refine cw (w1) ?_|refine cw (w2) ?_|intro _)|(simp[*,hlt,Tw.bH])|(refine ai (w1) ?_ ?_;(· (simp[*];done)))|(refine ai (w2) ?_ ?_;(· (simp[*];done))))
     all_goals first|omega|exact aF (by omega) (by omega)
    |true=>
     cases g3 with
     |true=>
      obtain⟨q1,q2⟩:=fin 26 (by decide) hj;subst q1 q2;clear hj fin
      repeat' (first|(with_reducible first|refine af ?_|refine aD ?_|refine av ?_|refine az ?_|refine ae ?_|refine aK (id:=37) 6 mixed (by decide +kernel) ?_|refine ak ?_|refine And.intro ?_ ?_|refine cw (w1) ?_|refine cw (w2) ?_|refine cw (c1) ?_|intro _)|(simp[*,hlt,Tw.bH])|(refine ai (w1) ?_ ?_;(· (simp[*];done)))|(refine ai (w2) ?_ ?_;(· (simp[*];done)))|(refine ai (c1) ?_ ?_;(· (simp[*];done))))
      all_goals first|omega|exact aF (by omega) (by omega)
     |false=>
      have kj:aI (bX (gR os.length ab.length zs) (zs.drop (k+1)) (k+1)=(R1,R2)):=hj;clear hj fin
      repeat' (first|(with_reducible first|refine af ?_|refine aD ?_|refine av ?_|refine ae ?_|refine aK (id:=37) 6 mixed (by decide +kernel) ?_|refine ak ?_|refine And.intro ?_ ?_|refine cw (w1) ?_|refine cw (w2) ?_|refine cw (c1) ?_|intro _)|(simp[*,hlt,Tw.bH])|(refine ai (w1) ?_ ?_;(· (simp[*];done)))|(refine ai (w2) ?_ ?_;(· (simp[*];done)))|(refine ai (c1) ?_ ?_;(· (simp[*];done))))
      all_goals first
       |omega
       |exact aF (by omega) (by omega)
       |(refine nx (k+1) ?_ ?_;(· exact⟨by omega,kj⟩);(refine aO [] ?_ ?_<;>first|trivial|(simp[*];done)))
  ·have hke:k=zs.length:=by omega
   subst hke;rw[List.drop_length] at hj;have hj:((0:Int),(0:Int))=(R1,R2):=hj;have kj:aI (R1=0∧R2=0):=keep ⟨(Prod.mk.inj hj).1.symm,(Prod.mk.inj hj).2.symm⟩;clear hj
   repeat' (first|(with_reducible first|refine af ?_|refine aJ ?_|refine ae ?_|refine ak ?_|intro _)|(simp[*,a4]))
   all_goals first
    |omega
    |(refine aT () ?_ ?_;(· exact kj);(refine aB ?_ ?_<;>first|trivial|(simp[*];done)))
 ·obtain⟨rfl,rfl⟩:=hf
  repeat' (first|(with_reducible first|refine af ?_|refine az ?_|refine ae ?_|intro _)|(simp[*]))
end Go.Proofs.YthpkmilhiganjaaGreat
namespace Go.Proofs.YthpkmilhiganjaaGreat
open Go Go.Fi
noncomputable instance instLD14:ar:=LD
theorem fh(r:Tw.RND):(al r).fit.length=(al r).os.length:=by simp[al]
theorem ic(r:Tw.RND)(i:Nat):(Tw.iV r i).length=r.ab.length:=by
 simp[Tw.iV,Tw.zt,Tw.gJ,Tw.odR]
theorem km(r:Tw.RND)(i:Nat)(h:i<(al r).os.length):(nth (al r).fit i).length=(al r).ab.length:=by
 have hi:i<r.os.length:=h;simp only[al,nth,List.getD_eq_getElem?_getD,List.getElem?_map,List.getElem?_range hi,Option.map_some,Option.getD_some];exact ic r i
theorem dn{α:Type}[Inhabited α]{E:Nat→α→Int}:∀{l:List α}{k:Nat},(bX E l k).2=0→∀j,j<l.length→E (k+j) (nth l j)=0
 |[],k,_,j,hj=>absurd hj (by simp)
 |x::r,k,h,j,hj=>by
  unfold bX at h;by_cases he:E k x=0
  ·rw[if_pos he] at h
   cases j with
   |zero=>exact he
   |succ j=>
    have:=dn h j (by simpa using hj);rw[show k+(j+1)=k+1+j by omega];exact this
  ·rw[if_neg he] at h;exact absurd h he
theorem eb{α:Type}[Inhabited α]{nm:α→ByteArray}{mr:α→Int}{l:List α}:∀{r:List α}{k:Nat},(dB nm mr l r k).2=0→∀j,j<r.length→fE nm mr l (k+j) (nth r j)=0
 |[],k,_,j,hj=>absurd hj (by simp)
 |x::r,k,h,j,hj=>by
  unfold dB at h;by_cases he:fE nm mr l k x=0
  ·rw[if_pos he] at h
   cases j with
   |zero=>exact he
   |succ j=>
    have:=eb h j (by simpa using hj);rw[show k+(j+1)=k+1+j by omega];exact this
  ·rw[if_neg he] at h;exact absurd h he
theorem bl{e:Int}{r:List Int}(h:bL (e::r)=0):e=0∧bL r=0:=by
 unfold bL at h;split at h
 ·rename_i he;exact⟨he,h⟩
 ·rename_i he;exact absurd h he
theorem bR{b:Bool}{e:Int}(he:e≠0)(h:aU b e=0):b=true:=by
 unfold aU at h
 cases b with
 |true=>rfl
 |false=>exact absurd h he
theorem bW{n lo hi:Int}:aL n lo hi=true↔lo≤n∧n≤hi:=by simp[aL]
theorem not_true{b:Bool}(h:(!b)=true):b=false:=by cases b<;>simp_all
structure cr(x:Rd):Prop where
 lc:x.ab.length≤8
 lo:x.os.length≤8
 lw:x.wt.length=x.os.length
 lz:x.zs.length≤64
 lf:x.fit.length=x.os.length
 fr:∀i,i<x.os.length→(nth x.fit i).length=x.ab.length
 wr:∀i,i<x.os.length→(nth x.wt i).length=x.ab.length
 wn:∀i,i<x.os.length→∀k,k<x.ab.length→0≤nth (nth x.wt i) k∧nth (nth x.wt i) k≤100000
 sc:∀k,k<x.ab.length→1≤(nth x.ab k).2.1∧(nth x.ab k).2.1≤8
 so:∀i,i<x.os.length→1≤(nth x.os i).2.1∧(nth x.os i).2.1≤8
 pr:∀i,i<x.os.length→0≤(nth x.os i).2.2.2∧(nth x.os i).2.2.2≤6
 nc:∀k,k<x.ab.length→dH (nth x.ab k).1=true∧((x.ab.take k).any fun y=>decide (y.1=(nth x.ab k).1))=false
 no:∀k,k<x.os.length→dH (nth x.os k).1=true∧((x.os.take k).any fun y=>decide (y.1=(nth x.os k).1))=false
 zr:∀j,j<x.zs.length→(0≤(nth x.zs j).1∧(nth x.zs j).1≤(x.os.length:Int)-1)∧(0≤(nth x.zs j).2∧(nth x.zs j).2≤(x.ab.length:Int)-1)
theorem ej(r:Tw.RND)(h:ceR r=0):cr (al r):=by
 unfold ceR fG at h;split at h
 ·simp at h
 rename_i g1;split at h
 ·rename_i h2;exact absurd h h2
 rename_i g2;split at h
 ·simp at h
 rename_i g3;split at h
 ·rename_i h2;exact absurd h h2
 rename_i g4;split at h
 ·simp at h
 rename_i g5;have hcont:=yg h
 have hw:(bX (fun _=>eh r.ab.length) r.wt 0).2=0:=by
  unfold dT at h;split at h
  ·rename_i h1;exact absurd h h1
  ·rename_i h1;simpa using h1
 rw[hcont] at h;unfold fF at h;split at h
 ·simp at h
 rename_i g6;have g2':(dB Prod.fst dI r.ab r.ab 0).2=0:=Classical.not_not.1 g2;have g4':(dB Prod.fst dj r.os r.os 0).2=0:=Classical.not_not.1 g4
 have C:=fun j hj=>eb g2' j hj
 have O:=fun j hj=>eb g4' j hj
 have W:=fun j hj=>dn hw j hj
 have Z:=fun j hj=>dn h j hj
 simp only[Nat.zero_add] at C O W Z
 have hlw:r.wt.length=r.os.length:=by omega
 have wait:∀i,i<r.os.length→(nth r.wt i).length=r.ab.length∧((nth r.wt i).any fun x=>!aL x 0 100000)=false:=fun i hi=>by
  have:=W i (by omega);unfold eh at this;obtain⟨w1,w2⟩:=bl this;obtain⟨w2,_⟩:=bl w2;refine⟨?_,?_⟩
  ·have:=bR (by decide) w1;have:=of_decide_eq_true this;omega
  ·simpa using bR (by decide) w2
 refine⟨by show r.ab.length≤8;omega,by show r.os.length≤8;omega,hlw,by show r.zs.length≤64;omega,fh r,km r,fun i hi=>(wait i hi).1,fun i hi k hk=>?_,fun k hk=>?_,fun i hi=>?_,fun i hi=>?_,fun k hk=>?_,fun k hk=>?_,fun j hj=>?_⟩
 ·obtain⟨w1,w2⟩:=wait i hi
  have hk':k<(nth r.wt i).length:=by rw[w1];exact hk
  have hm:=ew hk';have:=List.any_eq_false.1 w2 _ hm;have:=bW.1 (by simpa using this);exact this
 ·have:=C k hk;obtain⟨_,n2⟩:=bl this;obtain⟨_,n3⟩:=bl n2;obtain⟨n4,_⟩:=bl n3;exact bW.1 (bR (by decide) n4)
 ·have:=O i hi;obtain⟨_,n2⟩:=bl this;obtain⟨_,n3⟩:=bl n2;obtain⟨n4,_⟩:=bl n3;have:=bR (by decide) n4;rw[Bool.and_eq_true] at this;exact bW.1 this.1
 ·have:=O i hi;obtain⟨_,n2⟩:=bl this;obtain⟨_,n3⟩:=bl n2;obtain⟨n4,_⟩:=bl n3;have:=bR (by decide) n4;rw[Bool.and_eq_true] at this;exact bW.1 this.2
 ·have:=C k hk;obtain⟨n1,n2⟩:=bl this;obtain⟨n2,_⟩:=bl n2;exact⟨bR (by decide) n1,not_true (bR (by decide) n2)⟩
 ·have:=O k hk;obtain⟨n1,n2⟩:=bl this;obtain⟨n2,_⟩:=bl n2;exact⟨bR (by decide) n1,not_true (bR (by decide) n2)⟩
 ·have:=Z j hj;unfold gR at this;obtain⟨n1,_⟩:=bl this;have:=bR (by decide) n1;rw[Bool.and_eq_true] at this;exact⟨bW.1 this.1,bW.1 this.2⟩
end Go.Proofs.YthpkmilhiganjaaGreat
namespace Go.Proofs.YthpkmilhiganjaaGreat
open Go Go.Fi
variable[ar]
def mK(row:List Bool)(w p:List Int)(m0:Int):Nat→Int
 |0=>m0
 |k+1=>if nth row k then (if nth w k+nth p k<mK row w p m0 k then nth w k+nth p k else mK row w p m0 k) else mK row w p m0 k
@[simp] theorem mO(row:List Bool)(w p:List Int)(m0:Int):mK row w p m0 0=m0:=rfl
def cq(x:Rd)(i:Nat)(p:List Int):Int:=mK (nth x.fit i) (nth x.wt i) p (bf (nth x.os i).2.2.2.toNat) (nth x.fit i).length
theorem ku(x:Rd)(i:Nat)(p:List Int)(hi:i<x.os.length)(hc:x.ab.length<100000)(hfl:i<x.fit.length)(hwl:i<x.wt.length)(hr:(nth x.fit i).length=x.ab.length)(hwr:(nth x.wt i).length=x.ab.length)(hpl:p.length=x.ab.length)(hpr:0≤(nth x.os i).2.2.2∧(nth x.os i).2.2.2≤6)(hw:∀k,k<x.ab.length→0≤nth (nth x.wt i) k∧nth (nth x.wt i) k≤100000)(hp:∀k,k<x.ab.length→-100000000000000≤nth p k∧nth p k≤100000000000000):aA Tz.prog 73 [x.pv,.int .i64 i,.sl p.length (ints p)] (.int .i64 (cq x i p)) true:=by
 obtain⟨ab,os,wt,zs,fit⟩:=x;unfold Rd.pv cq;simp only[] at hi hc hfl hwl hr hwr hpl hpr hw hp ⊢;generalize hq:(nth os i).2.2.2=q at hpr ⊢;obtain⟨u,rfl⟩:∃u:Nat,q=u:=⟨q.toNat,by omega⟩;have c1:=pd u (by omega);simp only[Int.toNat_natCast];generalize bf u=m0 at c1 ⊢;have kw:=keep hw;have kp:=keep hp;have kr:=keep hr;have kwr:=keep hwr;have kpl:=keep hpl;have kc:=keep hc;clear hw hp hr hwr hpl hpr hc;refine rcK Tz.func73 ?_;simp only[Tryz.results73,Tryz.ntmps73]
 repeat' (first|(with_reducible first|refine af ?_|refine ae ?_|refine And.intro ?_ ?_|refine cw (c1) ?_|intro _)|(simp[*,hi,hfl,hq])|(refine ai (c1) ?_ ?_;(· (simp[*];done))))
 all_goals first
  |omega
  |skip
 refine bF (fun(k:Nat)=>k≤(nth fit i).length) [0,1,2,26,27] (fun(k:Nat)=>[(28,.w false false (.int .i64 k)),(7,.w false false (.int .i64 (mK (nth fit i) (nth wt i) p m0 k)))]) [] (fun(k:Nat)=>[]) (fun(k:Nat)=>(nth fit i).length-k) (fun(_u:Unit)=>True) [] (fun(_u:Unit)=>[(7,.w false false (.int .i64 (mK (nth fit i) (nth wt i) p m0 (nth fit i).length)))]) [] (fun(_u:Unit)=>[]) (0) (Nat.zero_le _) (by simp) (by simp) (fun k hk=>?_) (fun _u hf=>?_)
 ·have hk2:=hk;by_cases hlt:k<(nth fit i).length
  ·have hlc:k<ab.length:=by have:=kr;unfold aI at this;omega
   have hlw:k<(nth wt i).length:=by have:=kwr;unfold aI at this;omega
   have hlp:k<p.length:=by have:=kpl;unfold aI at this;omega
   have hcc:ab.length<100000:=kc;obtain⟨w1,w2⟩:=kw k hlc;obtain⟨p1,p2⟩:=kp k hlc;have hrr:(nth fit i).length=ab.length:=kr
   have hz:k+1≤(nth fit i).length:=by omega
   have hz2:(nth fit i).length-(k+1)<(nth fit i).length-k:=by omega
   have hi1:inI .i64 ((k:Int)+1):=aF (by omega) (by omega);have hi2:inI .i64 (nth (nth wt i) k+nth p k):=aF (by omega) (by omega)
   have em:mK (nth fit i) (nth wt i) p m0 (k+1)=if nth (nth fit i) k then (if nth (nth wt i) k+nth p k<mK (nth fit i) (nth wt i) p m0 k then nth (nth wt i) k+nth p k else mK (nth fit i) (nth wt i) p m0 k) else mK (nth fit i) (nth wt i) p m0 k:=rfl
   clear w1 w2 p1 p2 hrr hcc hk2 hlc
   cases hb:nth (nth fit i) k with
   |true=>
    rw[hb] at em;simp only[if_true] at em
    repeat' (first|(with_reducible first|refine af ?_|refine aD ?_|refine av ?_|refine ae ?_|refine aK (id:=6) 18 mixed (by decide +kernel) ?_|refine ak ?_|intro _)|(simp[*,hlt,hi,hfl,hwl,hlw,hlp,hb,hi1,hi2]))
    all_goals first
     |omega
     |assumption
     |(refine nx (k+1) ?_ ?_;(· exact hz);(refine aB ?_ ?_<;>first|trivial|(simp[*,em];done)))
   |false=>
    rw[hb] at em;simp only[Bool.false_eq_true,if_false] at em
    repeat' (first|(with_reducible first|refine af ?_|refine aD ?_|refine av ?_|refine ae ?_|refine ak ?_|intro _)|(simp[*,hlt,hi,hfl,hwl,hlw,hlp,hb,hi1,hi2]))
    all_goals first
     |omega
     |assumption
     |(refine nx (k+1) ?_ ?_;(· exact hz);(refine aB ?_ ?_<;>first|trivial|(simp[*,em];done)))
  ·have hke:k=(nth fit i).length:=by omega
   subst hke
   repeat' (first|(with_reducible first|refine af ?_|refine aJ ?_|refine ae ?_|refine ak ?_|intro _)|(simp[*]))
   all_goals first
    |omega
    |(refine aT () ?_ ?_;(· trivial);(refine aB ?_ ?_<;>first|trivial|(simp[*];done)))
 ·repeat' (first|(with_reducible first|refine af ?_|refine az ?_|refine ae ?_|intro _)|(simp[*]))
end Go.Proofs.YthpkmilhiganjaaGreat
