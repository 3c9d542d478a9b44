/- Lemmas. -/
import Derived.Test.YthpkmilhiganjaaGreatPDb
import Derived.Test.YthpkmilhiganjaaGreatPDa
import Derived.Test.YthpkmilhiganjaaGreatPEa
import Derived.Test.YthpkmilhiganjaaGreatPEd
set_option linter.all false
set_option maxHeartbeats 32000000
set_option maxRecDepth 100000
namespace Go.Proofs.YthpkmilhiganjaaGreat
open Go Go.Fi
variable[bJ]
theorem zfd(s:ByteArray)(hs:s.size<1000000):bT Tz.prog 134 [.str s] (.bool (gr s)) true:=by
 refine rcK Tz.func134 ?_;simp only[Tryz.results134,Tryz.ntmps134]
 repeat' first|(with_reducible first|apply bG|apply bS|apply bU|apply bE|apply bP|refine wY ?_ ?_|refine jJ ?_ ?_|intro _)|simp[*]
 .exact Ok ab
 rotate_left
 .rename_i h0;exact GJ (by have:=of_decide_eq_true h0;omega)
 rename_i hA hB
 have hm:s.size≠0:=by have:=of_decide_eq_false hA;omega
 refine w9 (λk:Nat=>k<=s.size/\mQ s k=true) [0] (λk=>[(3,.w false false (.int .i64 k))]) (λ_=>[]) (λk=>s.size-k)
  (λ_:Unit=>mQ s s.size=true) [0] (λ_=>[]) (λ_=>[]) 0 ⟨cG _,rfl⟩ ae ae (λk hk=>?_) (λ_ hf=>?_)
 .obtain⟨hk,hf⟩:=hk
  repeat' first|(with_reducible first|apply bG|apply cj|apply bS|apply bU|apply cK|apply bE|apply bP|refine And.intro ?_ ?_|refine wY ?_ ?_|refine wX ?_ ?_|refine jJ ?_ ?_|intro _)|simp[*]
  all_goals first
   |exact cu ab ab
   |omega
   |(refine nx (k+1) ?_ ?_;(· refine⟨ab,?_⟩;unfold mQ;rw[hf];clear hf;simp[okB,uN] at *;omega);(refine cg ?_ ?_<;>first|trivial|(simp[*];done)))
   |(refine dp () ?_ ?_;(· rw[show s.size=k by omega];exact hf);(refine cg ?_ ?_<;>first|trivial|simp))
   |(unfold gr;rw[Bq s k (by clear hf;simp[okB,uN] at *;omega) s.size ab];rfl)
 .repeat' first|(with_reducible first|apply bG|apply bU|apply bE|intro _)|simp[*]
  all_goals (rw[GK hf hm];simp;omega)
theorem zg5(bz:List Car)(os:List Ord)(wt:List (List Int))(zs:List Par)(i:Nat)(hi:i<bz.length)(hl:bz.length<=1000)(hs:∀x∈bz,x.1.size<1000000):bT Tz.prog 108 [.agg [.sl bz.length (dk bz),.sl os.length (dj os),.sl wt.length (dQ wt),.sl zs.length (dm zs)],.int .i64 i] (.int .i64 (iP Prod.fst gu bz i (nth bz i))) true:=by
 have c1:=zfd (nth bz i).1 (hs _ (lB hi));have c2:=oY (nth bz i).2.1 1 8;generalize hR:iP Prod.fst gu bz i (nth bz i)=R;unfold iP gu at hR;clear hs
 cases hb:gr (nth bz i).1 with
 |false=>
  rw[hb] at c1 hR;have hR:(4:Int)=R:=hR;subst hR;clear hb c2;refine rcK Tz.func108 ?_;simp only[Tryz.results108,Tryz.ntmps108]
  repeat' first|(with_reducible first|apply bG|apply bU|apply bE|apply bP|refine And.intro ?_ ?_|intro _)|simp[*,hi]|(refine bN (c1) ?_ ?_;· simp[*];done)
  all_goals first|omega
 |true=>
  rw[hb] at c1 hR;clear hb;have hR:fg [dt (!((bz.take i).any λy=>decide (y.1=(nth bz i).1))) 5,dt (da (nth bz i).2.1 1 8) 2]=R:=hR;generalize hA:((bz.take i).any λy=>decide (y.1=(nth bz i).1))=A at hR;have kA:dh (((bz.take i).drop 0).any (λy=>decide (y.1=(nth bz i).1))=A):=hA;have kR:=keep hR;clear hA hR;refine rcK Tz.func108 ?_;simp only[Tryz.results108,Tryz.ntmps108]
  repeat' first|(with_reducible first|apply bG|apply bS|apply bE|apply bP|refine And.intro ?_ ?_|intro _)|simp[*,hi]|(refine bN (c1) ?_ ?_;· simp[*];done)
  all_goals try first|omega|assumption
  refine fj (λ(k:Nat)=>k<=i/\((bz.take i).drop k).any (λy=>decide (y.1=(nth bz i).1))=A) [1,2] (λ(k:Nat)=>[(5,.w false false (.int .i64 k))]) [0] (λ(k:Nat)=>[]) (λ(k:Nat)=>i-k) (λ(_u:Unit)=>A=false) [1,2] (λ(_u:Unit)=>[]) [0] (λ(_u:Unit)=>[]) (0) ⟨cG _,kA⟩ ae ae (λk hk=>?_) (λ_u hf=>?_)
  .obtain⟨hk,hj⟩:=hk;clear c1;by_cases h5:k<i
   .have hh:k<bz.length:=ab
    have h':k<(bz.take i).length:=aO
    rw[fQ _ k h',yo] at hj
    have e:nth (bz.take i) k=nth bz k:=by
     simp[nth,eu,k8,h5]
    rw[e] at hj;have kj:=keep hj;clear hj e h';by_cases hn:(nth bz k).1=(nth bz i).1
    .have hA:A=true:=by have h:=kj;unfold dh at h;rw[<-h];simp[hn]
     subst hA;have hR:(5:Int)=R:=kR;subst hR;clear kj kR kA
     repeat' first|(with_reducible first|apply bG|apply cj|apply bS|apply bU|apply bE|refine cT (id:=6) 13 mixed ai ?_|apply bP|intro _)|simp[*,h5,hh,hi,hn]
     all_goals first|omega|exact cu ab ab
    .have kj2:dh (((bz.take i).drop (k+1)).any (λy=>decide (y.1=(nth bz i).1))=A):=by have h:=kj;simp_all
     clear kj kA
     repeat' first|(with_reducible first|apply bG|apply cj|apply bS|apply bE|refine cT (id:=6) 13 mixed ai ?_|apply bP|refine And.intro ?_ ?_|intro _)|simp[*,h5,hh,hi,hn]
     all_goals first
      |omega
      |exact cu ab ab
      |(refine dJ _ _ _ _ _ (k+1) _ ?_ ab ?_;(· trivial);(refine cg ?_ ?_<;>first|trivial|simp))
   .have h8:k=i:=ab
    subst h8;have h9:dh (A=false):=keep (by rw[<-hj];simp);clear hj kA
    repeat' first|(with_reducible first|apply bG|apply cK|apply bE|apply bP|intro _)|simp[*]
    all_goals first
     |omega
     |(refine dp () ?_ ?_;(· exact h9);(refine cg ?_ ?_<;>first|trivial|simp))
  .subst hf;clear kA c1
   cases hw:da (nth bz i).2.1 1 8 with
   |true=>
    rw[hw] at c2 kR;have hR:(0:Int)=R:=kR;subst hR;clear kR hw
    repeat' first|(with_reducible first|apply bG|apply bS|apply bU|apply bE|apply bP|refine And.intro ?_ ?_|intro _)|simp[*,hi]|(refine bN (c2) ?_ ?_;· simp[*];done)
    omega
   |false=>
    rw[hw] at c2 kR;have hR:(2:Int)=R:=kR;subst hR;clear kR hw
    repeat' first|(with_reducible first|apply bG|apply bU|apply bE|apply bP|refine And.intro ?_ ?_|intro _)|simp[*,hi]|(refine bN (c2) ?_ ?_;· simp[*];done)
    omega
theorem zg6(bz:List Car)(os:List Ord)(wt:List (List Int))(zs:List Par)(i:Nat)(hi:i<os.length)(hl:os.length<=1000)(hs:∀x∈os,x.1.size<1000000):bT Tz.prog 109 [.agg [.sl bz.length (dk bz),.sl os.length (dj os),.sl wt.length (dQ wt),.sl zs.length (dm zs)],.int .i64 i] (.int .i64 (iP Prod.fst fU os i (nth os i))) true:=by
 have c1:=zfd (nth os i).1 (hs _ (lB hi));have c2:=oY (nth os i).2.1 1 8;have c3:=oY (nth os i).2.2.2 0 6;generalize hR:iP Prod.fst fU os i (nth os i)=R;unfold iP fU at hR;clear hs
 cases hb:gr (nth os i).1 with
 |false=>
  rw[hb] at c1 hR;have hR:(4:Int)=R:=hR;subst hR;clear hb c2 c3;refine rcK Tz.func109 ?_;simp only[Tryz.results109,Tryz.ntmps109]
  repeat' first|(with_reducible first|apply bG|apply bU|apply bE|apply bP|refine And.intro ?_ ?_|intro _)|simp[*,hi]|(refine bN (c1) ?_ ?_;· simp[*];done)
  all_goals first|omega
 |true=>
  rw[hb] at c1 hR;clear hb;have hR:fg [dt (!((os.take i).any λy=>decide (y.1=(nth os i).1))) 5,dt (da (nth os i).2.1 1 8&&da (nth os i).2.2.2 0 6) 2]=R:=hR;generalize hA:((os.take i).any λy=>decide (y.1=(nth os i).1))=A at hR;have kA:dh (((os.take i).drop 0).any (λy=>decide (y.1=(nth os i).1))=A):=hA;have kR:=keep hR;clear hA hR;refine rcK Tz.func109 ?_;simp only[Tryz.results109,Tryz.ntmps109]
  repeat' first|(with_reducible first|apply bG|apply bS|apply bE|apply bP|refine And.intro ?_ ?_|intro _)|simp[*,hi]|(refine bN (c1) ?_ ?_;· simp[*];done)
  all_goals try first|omega|assumption
  refine fj (λ(k:Nat)=>k<=i/\((os.take i).drop k).any (λy=>decide (y.1=(nth os i).1))=A) [1,2] (λ(k:Nat)=>[(5,.w false false (.int .i64 k))]) [0] (λ(k:Nat)=>[]) (λ(k:Nat)=>i-k) (λ(_u:Unit)=>A=false) [1,2] (λ(_u:Unit)=>[]) [0] (λ(_u:Unit)=>[]) (0) ⟨cG _,kA⟩ ae ae (λk hk=>?_) (λ_u hf=>?_)
  .obtain⟨hk,hj⟩:=hk;clear c1;by_cases h5:k<i
   .have hh:k<os.length:=ab
    have h':k<(os.take i).length:=aO
    rw[fQ _ k h',yo] at hj
    have e:nth (os.take i) k=nth os k:=by
     simp[nth,eu,k8,h5]
    rw[e] at hj;have kj:=keep hj;clear hj e h';by_cases hn:(nth os k).1=(nth os i).1
    .have hA:A=true:=by have h:=kj;unfold dh at h;rw[<-h];simp[hn]
     subst hA;have hR:(5:Int)=R:=kR;subst hR;clear kj kR kA
     repeat' first|(with_reducible first|apply bG|apply cj|apply bS|apply bU|apply bE|refine cT (id:=6) 13 mixed ai ?_|apply bP|intro _)|simp[*,h5,hh,hi,hn]
     all_goals first|omega|exact cu ab ab
    .have kj2:dh (((os.take i).drop (k+1)).any (λy=>decide (y.1=(nth os i).1))=A):=by have h:=kj;simp_all
     clear kj kA
     repeat' first|(with_reducible first|apply bG|apply cj|apply bS|apply bE|refine cT (id:=6) 13 mixed ai ?_|apply bP|refine And.intro ?_ ?_|intro _)|simp[*,h5,hh,hi,hn]
     all_goals first
      |omega
      |exact cu ab ab
      |(refine dJ _ _ _ _ _ (k+1) _ ?_ ab ?_;(· trivial);(refine cg ?_ ?_<;>first|trivial|simp))
   .have h8:k=i:=ab
    subst h8;have h9:dh (A=false):=keep (by rw[<-hj];simp);clear hj kA
    repeat' first|(with_reducible first|apply bG|apply cK|apply bE|apply bP|intro _)|simp[*]
    all_goals first
     |omega
     |(refine dp () ?_ ?_;(· exact h9);(refine cg ?_ ?_<;>first|trivial|simp))
  .subst hf;clear kA c1
   cases hw:da (nth os i).2.1 1 8 with
   |true=>
    cases hv:da (nth os i).2.2.2 0 6 with
    |true=>
     rw[hw,hv] at kR;rw[hw] at c2;rw[hv] at c3;have hR:(0:Int)=R:=kR;subst hR;clear kR hw hv
     repeat' first|(with_reducible first|apply bG|apply bS|apply bU|apply bE|apply bP|refine And.intro ?_ ?_|intro _)|simp[*,hi]|(refine bN (c2) ?_ ?_;· simp[*];done)|(refine bN (c3) ?_ ?_;· simp[*];done)
     all_goals first|omega
    |false=>
     rw[hw,hv] at kR;rw[hw] at c2;rw[hv] at c3;have hR:(2:Int)=R:=kR;subst hR;clear kR hw hv
     repeat' first|(with_reducible first|apply bG|apply bU|apply bE|apply bP|refine And.intro ?_ ?_|intro _)|simp[*,hi]|(refine bN (c2) ?_ ?_;· simp[*];done)|(refine bN (c3) ?_ ?_;· simp[*];done)
     all_goals first|omega
   |false=>
    rw[hw] at c2 kR;have hR:(2:Int)=R:=kR;subst hR;clear kR hw c3
    repeat' first|(with_reducible first|apply bG|apply bU|apply bE|apply bP|refine And.intro ?_ ?_|intro _)|simp[*,hi]|(refine bN (c2) ?_ ?_;· simp[*];done)
    omega
def hasB(l:List Par)(v:Par):Bool:=l.any λy=>decide (v.1=y.1)&&decide (v.2=y.2)
theorem zfe(l:List Par)(hl:l.length<100000)(v:Par):bT Tz.prog 110 [.sl l.length (dm l),.agg (Tw.dP v)] (.bool (hasB l v)) true:=by
 unfold hasB;generalize hR:(l.any λy=>decide (v.1=y.1)&&decide (v.2=y.2))=R;have kR:dh ((l.drop 0).any (λy=>decide (v.1=y.1)&&decide (v.2=y.2))=R):=keep hR;clear hR;obtain⟨v1,v2⟩:=v;simp only[Tw.dP];refine rcK Tz.func110 ?_;simp only[Tryz.results110,Tryz.ntmps110]
 repeat' first|(with_reducible first|apply bG|apply bE|intro _)|simp[*]
 refine fj (λ(k:Nat)=>k<=l.length/\(l.drop k).any (λy=>decide (v1=y.1)&&decide (v2=y.2))=R) [0,3] (λ(k:Nat)=>[(5,.w false false (.int .i64 k))]) [0] (λ(k:Nat)=>[]) (λ(k:Nat)=>l.length-k) (λ(_u:Unit)=>R=false) [] (λ(_u:Unit)=>[]) [0] (λ(_u:Unit)=>[]) (0) ⟨cG _,kR⟩ ae ae (λk hk=>?_) (λ_u hf=>?_)
 .obtain⟨hk,hj⟩:=hk;by_cases h5:k<l.length
  .rw[fQ l k h5,yo] at hj;by_cases h1:(nth l k).1=v1
   .by_cases h2:(nth l k).2=v2
    .have hR:R=true:=by rw[<-hj];simp[h1,h2]
     subst hR;clear hj kR
     repeat' first|(with_reducible first|apply bG|apply cj|apply bS|apply bU|apply bE|refine cT (id:=4) 6 mixed ai ?_|apply bP|refine And.intro ?_ ?_|intro _)|simp[*,h5,h1,h2,Tw.dP]
     omega
    .have hy:¬v2=(nth l k).2:=λe=>h2 e.symm
     have kj:dh ((l.drop (k+1)).any (λy=>decide (v1=y.1)&&decide (v2=y.2))=R):=keep (by rw[<-hj];simp[hy]);clear hj kR hy
     repeat' first|(with_reducible first|apply bG|apply cj|apply bS|apply bE|refine cT (id:=4) 6 mixed ai ?_|apply bP|refine And.intro ?_ ?_|intro _)|simp[*,h5,h1,h2,Tw.dP]
     all_goals first
      |omega
      |exact cu ab ab
      |(refine dJ _ _ _ _ _ (k+1) _ ?_ ab ?_;(· trivial);(refine cg ?_ ?_<;>first|trivial|simp))
   .have hx:¬v1=(nth l k).1:=λe=>h1 e.symm
    have kj:dh ((l.drop (k+1)).any (λy=>decide (v1=y.1)&&decide (v2=y.2))=R):=keep (by rw[<-hj];simp[hx]);clear hj kR hx
    repeat' first|(with_reducible first|apply bG|apply cj|apply bS|apply bE|refine cT (id:=4) 6 mixed ai ?_|apply bP|refine And.intro ?_ ?_|intro _)|simp[*,h5,h1,Tw.dP]
    all_goals first
     |omega
     |exact cu ab ab
     |(refine dJ _ _ _ _ _ (k+1) _ ?_ ab ?_;(· trivial);(refine cg ?_ ?_<;>first|trivial|simp))
  .have h8:k=l.length:=ab
   subst h8;have kj:dh (R=false):=keep (by rw[<-hj];simp);clear hj kR
   repeat' first|(with_reducible first|apply bG|apply cK|apply bE|apply bP|intro _)|simp[*]
   all_goals first
    |(refine dp () ?_ ?_;(· exact kj);(refine cg ?_ ?_<;>first|trivial|(simp[*];done)))
 .subst hf
  repeat' first|(with_reducible first|apply bG|apply bU|apply bE|intro _)|simp[*]
theorem zg7(bz:List Car)(os:List Ord)(wt:List (List Int))(zs:List Par)(ho:os.length<100000)(n:Int):bT Tz.prog 43 [.agg [.sl bz.length (dk bz),.sl os.length (dj os),.sl wt.length (dQ wt),.sl zs.length (dm zs)],.int .i64 n] (.bool (da n 0 ((os.length:Int)-1))) true:=by
 refine rcK Tz.func43 ?_;simp only[Tryz.results43,Tryz.ntmps43]
 repeat' first|(with_reducible first|apply bG|apply bU|apply bE|refine And.intro ?_ ?_|refine cw (oY _ _ _) ?_|intro _)|simp[*]|(refine bN (oY _ _ _) ?_ ?_;· simp[*];done)
 all_goals first|omega|exact cu ab ab
theorem zff(bz:List Car)(os:List Ord)(wt:List (List Int))(zs:List Par)(ho:bz.length<100000)(n:Int):bT Tz.prog 45 [.agg [.sl bz.length (dk bz),.sl os.length (dj os),.sl wt.length (dQ wt),.sl zs.length (dm zs)],.int .i64 n] (.bool (da n 0 ((bz.length:Int)-1))) true:=by
 refine rcK Tz.func45 ?_;simp only[Tryz.results45,Tryz.ntmps45]
 repeat' first|(with_reducible first|apply bG|apply bU|apply bE|refine And.intro ?_ ?_|refine cw (oY _ _ _) ?_|intro _)|simp[*]|(refine bN (oY _ _ _) ?_ ?_;· simp[*];done)
 all_goals first|omega|exact cu ab ab
theorem zg8(bz:List Car)(os:List Ord)(wt:List (List Int))(zs:List Par)(a5:bz.length<=1000)(a6:os.length<=1000)(aa:wt.length<100000)(ao:zs.length<100000)(hc:∀x∈bz,x.1.size<1000000)(ho:∀x∈os,x.1.size<1000000)(hw:∀x∈wt,x.length<100000):bT Tz.prog 58 [.agg [.sl bz.length (dk bz),.sl os.length (dj os),.sl wt.length (dQ wt),.sl zs.length (dm zs)]] (.tup [.int .i64 (iR bz os wt zs).1,.int .i64 (iR bz os wt zs).2]) true:=by
 generalize hR:iR bz os wt zs=R;obtain⟨R1,R2⟩:=R;unfold iR at hR;have kc:=keep hc;have ko:=keep ho;have kw:=keep hw;clear hc ho hw;by_cases a1:(8:Int)<bz.length
 .rw[bX a1] at hR;obtain⟨q1,q2⟩:=dq hR;subst q1 q2;clear hR;refine rcK Tz.func58 ?_;simp only[Tryz.results58,Tryz.ntmps58]
  repeat' first|(with_reducible first|apply bG|apply bU|apply bE|apply bP|intro _)|simp[*,a1]
  all_goals first|omega|exact cu ab ab|assumption
 rw[bH a1] at hR;generalize hN:iu Prod.fst gu bz=N at hR;obtain⟨N1,N2⟩:=N;have kN:dh (gi Prod.fst gu bz (bz.drop 0) 0=(N1,N2)):=hN;have kR:=keep hR;clear hR hN;refine rcK Tz.func58 ?_;simp only[Tryz.results58,Tryz.ntmps58]
 repeat' first|(with_reducible first|apply bG|apply bS|apply bE|apply bP|intro _)|simp[*,a1]
 refine fj (λ(k:Nat)=>k<=bz.length/\gi Prod.fst gu bz (bz.drop k) k=(N1,N2)) [1] (λ(k:Nat)=>[(4,.w false false (.int .i64 k))]) [0] (λ(k:Nat)=>[]) (λ(k:Nat)=>bz.length-k) (λ(_u:Unit)=>N1=0/\N2=0) [1] (λ(_u:Unit)=>[]) [0] (λ(_u:Unit)=>[]) (0) ⟨cG _,kN⟩ ae ae (λk hk=>?_) (λ_u hf=>?_)
 .obtain⟨hk,hj⟩:=hk;by_cases h5:k<bz.length
  .have c1:=zg5 bz os wt zs k h5 ab kc;rw[fQ bz k h5,gi] at hj;generalize iP Prod.fst gu bz k (nth bz k)=e at hj c1;by_cases he:e=0
   .rw[bX he] at hj;subst he;have kj:=keep hj;clear hj
    repeat' first|(with_reducible first|apply bG|apply cj|apply bS|apply bE|apply bP|refine And.intro ?_ ?_|intro _)|simp[*,h5]|(refine bN (c1) ?_ ?_;· simp[*];done)
    all_goals first
     |omega
     |exact cu ab ab
     |(refine dJ _ _ _ _ _ (k+1) _ ?_ ab ?_;(· trivial);(refine cg ?_ ?_<;>first|trivial|simp))
   .rw[bH he] at hj;obtain⟨g1,g2⟩:=dq hj;have h1:=(dq (show (N1,N2)=(R1,R2) by have h:=kR;unfold dh at h;rw[bX (show (N1,N2).2≠0 fromλh0=>he (g2.trans h0))] at h;exact h));have q1:(k:Int)=R1:=g1.trans h1.1;have q2:e=R2:=g2.trans h1.2;subst q1 q2;clear hj kR g1 g2 h1 kN
    repeat' first|(with_reducible first|apply bG|apply cj|apply bS|apply bU|apply bE|apply bP|refine And.intro ?_ ?_|intro _)|simp[*,h5,he]|(refine bN (c1) ?_ ?_;· simp[*];done)
    all_goals first|omega|exact cu ab ab|assumption
  .have h8:k=bz.length:=ab
   subst h8;rw[jG] at hj;have hj:((0:Int),(0:Int))=(N1,N2):=hj;have kj:dh (N1=0/\N2=0):=keep ⟨(dq hj).1.symm,(dq hj).2.symm⟩;clear hj
   repeat' first|(with_reducible first|apply bG|apply cK|apply bE|apply bP|intro _)|simp[*]
   all_goals first
    |omega
    |(refine dp () ?_ ?_;(· exact kj);(refine cg ?_ ?_<;>first|trivial|(simp[*];done)))
 obtain⟨rfl,rfl⟩:=hf;have hR:(if (8:Int)<os.length then ((0:Int),(8:Int)) else if (iu Prod.fst fU os).2≠0 then iu Prod.fst fU os else if (wt.length:Int)≠os.length then (0,10) else gO (λ_=>hY bz.length) wt 0 (iQ os.length bz.length zs))=(R1,R2):=kR;clear kR kN;by_cases a2:(8:Int)<os.length
 .rw[bX a2] at hR;obtain⟨q1,q2⟩:=dq hR;subst q1 q2;clear hR
  repeat' first|(with_reducible first|apply bG|apply bU|apply bE|apply bP|intro _)|simp[*,a2]
  all_goals first|omega|exact cu ab ab|assumption
 rw[bH a2] at hR;generalize hN:iu Prod.fst fU os=M at hR;obtain⟨M1,M2⟩:=M;have kM:dh (gi Prod.fst fU os (os.drop 0) 0=(M1,M2)):=hN;have kR:=keep hR;clear hR hN
 repeat' first|(with_reducible first|apply bG|apply bS|apply bE|apply bP|intro _)|simp[*,a2]
 refine fj (λ(k:Nat)=>k<=os.length/\gi Prod.fst fU os (os.drop k) k=(M1,M2)) [1] (λ(k:Nat)=>[(6,.w false false (.int .i64 k))]) [0] (λ(k:Nat)=>[]) (λ(k:Nat)=>os.length-k) (λ(_u:Unit)=>M1=0/\M2=0) [1] (λ(_u:Unit)=>[]) [0] (λ(_u:Unit)=>[]) (0) ⟨cG _,kM⟩ ae ae (λk hk=>?_) (λ_u hf=>?_)
 .obtain⟨hk,hj⟩:=hk;by_cases h5:k<os.length
  .have c1:=zg6 bz os wt zs k h5 ab ko;rw[fQ os k h5,gi] at hj;generalize iP Prod.fst fU os k (nth os k)=e at hj c1;by_cases he:e=0
   .rw[bX he] at hj;subst he;have kj:=keep hj;clear hj
    repeat' first|(with_reducible first|apply bG|apply cj|apply bS|apply bE|apply bP|refine And.intro ?_ ?_|intro _)|simp[*,h5]|(refine bN (c1) ?_ ?_;· simp[*];done)
    all_goals first
     |omega
     |exact cu ab ab
     |(refine dJ _ _ _ _ _ (k+1) _ ?_ ab ?_;(· trivial);(refine cg ?_ ?_<;>first|trivial|simp))
   .rw[bH he] at hj;obtain⟨g1,g2⟩:=dq hj;have h1:=(dq (show (M1,M2)=(R1,R2) by have h:=kR;unfold dh at h;rw[bX (show (M1,M2).2≠0 fromλh0=>he (g2.trans h0))] at h;exact h));have q1:(k:Int)=R1:=g1.trans h1.1;have q2:e=R2:=g2.trans h1.2;subst q1 q2;clear hj kR g1 g2 h1 kM
    repeat' first|(with_reducible first|apply bG|apply cj|apply bS|apply bU|apply bE|apply bP|refine And.intro ?_ ?_|intro _)|simp[*,h5,he]|(refine bN (c1) ?_ ?_;· simp[*];done)
    all_goals first|omega|exact cu ab ab|assumption
  .have h8:k=os.length:=ab
   subst h8;rw[jG] at hj;have hj:((0:Int),(0:Int))=(M1,M2):=hj;have kj:dh (M1=0/\M2=0):=keep ⟨(dq hj).1.symm,(dq hj).2.symm⟩;clear hj
   repeat' first|(with_reducible first|apply bG|apply cK|apply bE|apply bP|intro _)|simp[*]
   all_goals first
    |omega
    |(refine dp () ?_ ?_;(· exact kj);(refine cg ?_ ?_<;>first|trivial|(simp[*];done)))
 obtain⟨rfl,rfl⟩:=hf;have hR:(if (wt.length:Int)≠os.length then ((0:Int),(10:Int)) else gO (λ_=>hY bz.length) wt 0 (iQ os.length bz.length zs))=(R1,R2):=kR;clear kR kM;by_cases a3:(wt.length:Int)=os.length
 rotate_left
 .rw[bX a3] at hR;obtain⟨q1,q2⟩:=dq hR;subst q1 q2;clear hR
  repeat' first|(with_reducible first|apply bG|apply bU|apply bE|apply bP|intro _)|simp[*,a3]
  all_goals first|omega|exact cu ab ab|assumption
 rw[bH (λh=>h a3)] at hR;have kT:dh (gO (λ_=>hY bz.length) (wt.drop 0) 0 (iQ os.length bz.length zs)=(R1,R2)):=hR;clear hR
 repeat' first|(with_reducible first|apply bG|apply bS|apply bE|apply bP|intro _)|simp[*,a3]
 refine fj (λ(k:Nat)=>k<=wt.length/\gO (λ_=>hY bz.length) (wt.drop k) k (iQ os.length bz.length zs)=(R1,R2)) [1] (λ(k:Nat)=>[(8,.w false false (.int .i64 k))]) [0] (λ(k:Nat)=>[]) (λ(k:Nat)=>wt.length-k) (λ(_u:Unit)=>iQ os.length bz.length zs=(R1,R2)) [1] (λ(_u:Unit)=>[]) [0] (λ(_u:Unit)=>[]) (0) ⟨cG _,kT⟩ ae ae (λk hk=>?_) (λ_u hf=>?_)
 .obtain⟨hk,hj⟩:=hk;clear kT;by_cases h5:k<wt.length
  .have aq:=kw _ (lB h5);rw[fQ wt k h5,GO] at hj;unfold hY at hj;by_cases hl:((nth wt k).length:Int)=bz.length
   .rw[decide_eq_true hl] at hj
    have hj:(if dt (!((nth wt k).any λx=>!da x 0 100000)) 2=0 then gO (λ_=>hY bz.length) (wt.drop (k+1)) (k+1) (iQ os.length bz.length zs) else ((k:Int),dt (!((nth wt k).any λx=>!da x 0 100000)) 2))=(R1,R2):=by
     rw[<-hj];simp only[fg,dt]
     cases ((nth wt k).any λx=>!da x 0 100000)<;>rfl
    generalize hA:((nth wt k).any λx=>!da x 0 100000)=A at hj;have kA:dh (((nth wt k).drop 0).any (λx=>!da x 0 100000)=A):=hA;have kj:=keep hj;clear hj hA
    repeat' first|(with_reducible first|apply bG|apply cj|apply bS|apply cK|apply bE|refine cT (id:=22) 10 mixed ai ?_|apply bP|refine jJ ?_ ?_|intro _)|simp[*,h5,hl]
    all_goals try first|omega|assumption
    refine fj (λ(j:Nat)=>j<=(nth wt k).length/\((nth wt k).drop j).any (λx=>!da x 0 100000)=A) [1,8] (λ(j:Nat)=>[(9,.w false false (.int .i64 j))]) [0] (λ(j:Nat)=>[]) (λ(j:Nat)=>(nth wt k).length-j) (λ(_u:Unit)=>A=false) [1,8] (λ(_u:Unit)=>[]) [0] (λ(_u:Unit)=>[]) (0) ⟨cG _,kA⟩ ae ae (λj hk=>?_) (λ_u hf=>?_)
    .obtain⟨aw,h9⟩:=hk;clear kA;by_cases hg:j<(nth wt k).length
     .rw[fQ _ j hg,yo] at h9;have c1:=oY (nth (nth wt k) j) 0 100000
      cases hb:da (nth (nth wt k) j) 0 100000 with
      |true=>
       rw[hb] at h9 c1;have kj2:dh (((nth wt k).drop (j+1)).any (λx=>!da x 0 100000)=A):=keep h9;clear h9 kj hb
       repeat' first|(with_reducible first|apply bG|apply cj|apply bS|apply cK|apply bE|apply bP|refine And.intro ?_ ?_|refine jJ ?_ ?_|intro _)|simp[*,h5,hg]|(refine bN (c1) ?_ ?_;· simp[*];done)
       all_goals first
        |omega
        |exact cu ab ab
        |(refine dJ _ _ _ _ _ (j+1) _ ?_ ab ?_;(· trivial);(refine cg ?_ ?_<;>first|trivial|simp))
      |false=>
       rw[hb] at h9 c1
       have hA:A=true:=by rw[<-h9];rfl
       subst hA;have h1:((k:Int),(2:Int))=(R1,R2):=kj;obtain⟨q1,q2⟩:=dq h1;subst q1 q2;clear h9 kj hb h1
       repeat' first|(with_reducible first|apply bG|apply cj|apply bS|apply bU|apply cK|apply bE|apply bP|refine And.intro ?_ ?_|refine jJ ?_ ?_|intro _)|simp[*,h5,hg]|(refine bN (c1) ?_ ?_;· simp[*];done)
       omega
     .have h8:j=(nth wt k).length:=ab
      subst h8;have kj2:dh (A=false):=keep (by rw[<-h9];simp);clear h9 kj
      repeat' first|(with_reducible first|apply bG|apply cK|apply bE|apply bP|intro _)|simp[*,h5]
      all_goals first
       |omega
       |(refine dp () ?_ ?_;(· exact kj2);(refine cg ?_ ?_<;>first|trivial|simp))
    .subst hf;have kj2:dh (gO (λ_=>hY bz.length) (wt.drop (k+1)) (k+1) (iQ os.length bz.length zs)=(R1,R2)):=kj;clear kj kA
     repeat' first|(with_reducible first|apply bE|refine And.intro ?_ ?_|intro _)|simp[*,h5]
     all_goals first
      |omega
      |exact cu ab ab
      |(refine dJ _ _ _ _ _ (k+1) _ ?_ ab ?_;(· trivial);(refine cg ?_ ?_<;>first|trivial|simp))
   .rw[decide_eq_false hl] at hj;have h1:((k:Int),(10:Int))=(R1,R2):=hj;obtain⟨q1,q2⟩:=dq h1;subst q1 q2;clear hj h1
    repeat' first|(with_reducible first|apply bG|apply cj|apply bS|apply bU|apply cK|apply bE|refine cT (id:=22) 10 mixed ai ?_|apply bP|refine jJ ?_ ?_|intro _)|simp[*,h5,hl]
    omega
  .have h8:k=wt.length:=ab
   subst h8;rw[jG,GP] at hj;have kj:=keep hj;clear hj
   repeat' first|(with_reducible first|apply bG|apply cK|apply bE|apply bP|intro _)|simp[*,a3]
   all_goals first
    |omega
    |(refine dp () ?_ ?_;(· exact kj);(refine cg ?_ ?_<;>first|trivial|(simp[*];done)))
 clear kT;unfold iQ at hf;by_cases a4:(64:Int)<zs.length
 .rw[bX a4] at hf;obtain⟨q1,q2⟩:=dq hf;subst q1 q2;clear hf
  repeat' first|(with_reducible first|apply bG|apply bU|apply bE|apply bP|intro _)|simp[*,a4]
  all_goals first|omega|exact cu ab ab|assumption
 rw[bH a4] at hf;have kS:dh (fB (kY os.length bz.length zs) (zs.drop 0) 0=(R1,R2)):=hf;clear hf
 repeat' first|(with_reducible first|apply bG|apply bS|apply bE|apply bP|intro _)|simp[*,a4]
 refine fI 1 (λ(k:Nat)=>k<=zs.length/\fB (kY os.length bz.length zs) (zs.drop k) k=(R1,R2)) [1] (λ(k:Nat)=>[(10,.w false false (.int .i64 k))]) [0] (λ(k:Nat)=>[]) (λ(k:Nat)=>zs.length-k) (λ(_u:Unit)=>R1=0/\R2=0) [] (λ(_u:Unit)=>[]) [0] (λ(_u:Unit)=>[]) (0) ⟨cG _,kS⟩ (de [] ae ae) (λk hk=>?_) (λ_u hf=>?_)
 .obtain⟨hk,hj⟩:=hk;clear kS;by_cases h5:k<zs.length
  .have c1:=zfe (zs.take k) aO (nth zs k);rw[u5 hk] at c1;have w1:=zg7 bz os wt zs ab (nth zs k).1;have w2:=zff bz os wt zs ab (nth zs k).2;rw[fQ zs k h5,fB] at hj;have hE:kY os.length bz.length zs k (nth zs k)=fg [dt (da (nth zs k).1 0 ((os.length:Int)-1)&&da (nth zs k).2 0 ((bz.length:Int)-1)) 6,dt (!(hasB (zs.take k) (nth zs k))) 26]:=rfl;rw[hE] at hj;clear hE;unfold Tw.dP at c1;generalize da (nth zs k).1 0 ((os.length:Int)-1)=g1 at *;generalize da (nth zs k).2 0 ((bz.length:Int)-1)=g2 at *;generalize hasB (zs.take k) (nth zs k)=g3 at *
   have fin:∀e:Int,e≠0->((if e=0 then fB (kY os.length bz.length zs) (zs.drop (k+1)) (k+1) else ((k:Int),e))=(R1,R2))->(k:Int)=R1/\e=R2:=λe he h=>by rw[bH he] at h;simp_all
   cases g1 with
   |false=>
    obtain⟨q1,q2⟩:=fin 6 af hj;subst q1 q2;clear hj fin
    repeat' first|(with_reducible first|apply bG|apply cj|apply bS|apply bU|apply bE|apply bP|refine And.intro ?_ ?_|intro _)|simp[*,h5,Tw.dP]|(refine bN (w1) ?_ ?_;· simp[*];done)
    omega
   |true=>
    cases g2 with
    |false=>
     obtain⟨q1,q2⟩:=fin 6 af hj;subst q1 q2;clear hj fin
     repeat' first|(with_reducible first|apply bG|apply cj|apply bS|apply bU|apply bE|apply bP|refine And.intro ?_ ?_|intro _)|simp[*,h5,Tw.dP]|(refine bN (w1) ?_ ?_;· simp[*];done)|(refine bN (w2) ?_ ?_;· simp[*];done)
     omega
    |true=>
     cases g3 with
     |true=>
      obtain⟨q1,q2⟩:=fin 26 af hj;subst q1 q2;clear hj fin
      repeat' first|(with_reducible first|apply bG|apply cj|apply bS|apply bU|apply bE|refine cT (id:=37) 6 mixed ai ?_|apply bP|refine And.intro ?_ ?_|intro _)|simp[*,h5,Tw.dP]|(refine bN (w1) ?_ ?_;· simp[*];done)|(refine bN (w2) ?_ ?_;· simp[*];done)|(refine bN (c1) ?_ ?_;· simp[*];done)
      omega
     |false=>
      have kj:dh (fB (kY os.length bz.length zs) (zs.drop (k+1)) (k+1)=(R1,R2)):=hj;clear hj fin
      repeat' first|(with_reducible first|apply bG|apply cj|apply bS|apply bE|refine cT (id:=37) 6 mixed ai ?_|apply bP|refine And.intro ?_ ?_|intro _)|simp[*,h5,Tw.dP]|(refine bN (w1) ?_ ?_;· simp[*];done)|(refine bN (w2) ?_ ?_;· simp[*];done)|(refine bN (c1) ?_ ?_;· simp[*];done)
      all_goals first
       |omega
       |exact cu ab ab
       |(refine dJ _ _ _ _ _ (k+1) _ ?_ ab ?_;(· trivial);(refine de [] ?_ ?_<;>first|trivial|(simp[*];done)))
  .have h8:k=zs.length:=ab
   subst h8;rw[jG] at hj;have hj:((0:Int),(0:Int))=(R1,R2):=hj;have kj:dh (R1=0/\R2=0):=keep ⟨(dq hj).1.symm,(dq hj).2.symm⟩;clear hj
   repeat' first|(with_reducible first|apply bG|apply cK|apply bE|apply bP|intro _)|simp[*,a4]
   all_goals first
    |omega
    |(refine dp () ?_ ?_;(· exact kj);(refine cg ?_ ?_<;>first|trivial|(simp[*];done)))
 .obtain⟨rfl,rfl⟩:=hf
  repeat' first|(with_reducible first|apply bG|apply bU|apply bE|intro _)|simp[*]
def C8(bz:List Car)(os:List Ord)(zs:List Par)(i k:Nat):Bool:=
 (decide ((nth os i).2.1<=(nth bz k).2.1)&&((nth bz k).2.2 || !(nth os i).2.2.1)) && !hasB zs ((i:Int),(k:Int))
theorem zd3(r:Tw.RND)(i k:Nat)(hi:i<r.os.length)(hk:k<r.bz.length):nth (nth (bQ r).fit i) k=C8 r.bz r.os r.zs i k:=by
 have e1:nth (bQ r).fit i=Tw.mM r i:=by
  unfold bQ;simp[nth,eu,hi]
 have e2:nth (Tw.mM r i) k=Tw.B8 (Tw.odW (Tw.odR r) i 0 0 0) k:=by
  show nth ((List.range r.bz.length).map _) k=_;simp[nth,eu,hk]
 rw[e1,e2]
 have e3:Tw.qA r.zs (i:Int) (k:Int)=hasB r.zs ((i:Int),(k:Int)):=by
  unfold Tw.qA hasB
  grind
 show ((decide (((r.bz.getD k (default,0,false)).2.1)>=(r.os.getD i (default,0,false,0)).2.1)&&((r.bz.getD k (default,0,false)).2.2 || !(r.os.getD i (default,0,false,0)).2.2.1))&&(!Tw.qA r.zs i k))=_;rw[e3]
 have h1:r.bz.getD k (default,0,false)=nth r.bz k:=by rfl
 have h2:r.os.getD i (default,0,false,0)=nth r.os i:=by rfl
 rw[h1,h2];rfl
theorem zg9(bz:List Car)(os:List Ord)(wt:List (List Int))(zs:List Par)(i k:Nat)(hi:i<os.length)(hk:k<bz.length)(hz:zs.length<100000):bT Tz.prog 60 [.agg [.sl bz.length (dk bz),.sl os.length (dj os),.sl wt.length (dQ wt),.sl zs.length (dm zs)],.int .i64 i,.int .i64 k] (.bool (C8 bz os zs i k)) true:=by
 have c1:=zfe zs hz ((i:Int),(k:Int));unfold Tw.dP at c1;unfold C8;generalize hasB zs ((i:Int),(k:Int))=g at *;by_cases h1:(nth os i).2.1<=(nth bz k).2.1
 .rw[decide_eq_true h1]
  cases h2:(nth bz k).2.2 with
  |true=>
   simp only[iU,fV];refine rcK Tz.func60 ?_;simp only[Tryz.results60,Tryz.ntmps60]
   repeat' first|(with_reducible first|apply bG|apply bU|apply bE|refine j8 (id:=1) [0,1,2,3,4,5,6,7,8,9,10,11] [12,13] [[],[],[],[],[],[.new 0],[.new 0],[.new 0],[.new 0],[.new 0],[],[]] [[.new 0],[.new 1]] mixed ai ?_|refine And.intro ?_ ?_|intro _)|simp[*,hi,hk,h1,h2,Tw.eX,Tw.dW,Tw.dP]|(refine bN (c1) ?_ ?_;· simp[*];done)
   all_goals first|omega
  |false=>
   cases h3:(nth os i).2.2.1 with
   |true=>
    simp only[gG,jE,jD,iv];refine rcK Tz.func60 ?_;simp only[Tryz.results60,Tryz.ntmps60]
    repeat' first|(with_reducible first|apply bG|apply bU|apply bE|refine j8 (id:=1) [0,1,2,3,4,5,6,7,8,9,10,11] [12,13] [[],[],[],[],[],[.new 0],[.new 0],[.new 0],[.new 0],[.new 0],[],[]] [[.new 0],[.new 1]] mixed ai ?_|refine And.intro ?_ ?_|intro _)|simp[*,hi,hk,h1,h2,h3,Tw.eX,Tw.dW,Tw.dP]|(refine bN (c1) ?_ ?_;· simp[*];done)
    all_goals first|omega
   |false=>
    simp only[iw,jo,fV];refine rcK Tz.func60 ?_;simp only[Tryz.results60,Tryz.ntmps60]
    repeat' first|(with_reducible first|apply bG|apply bU|apply bE|refine j8 (id:=1) [0,1,2,3,4,5,6,7,8,9,10,11] [12,13] [[],[],[],[],[],[.new 0],[.new 0],[.new 0],[.new 0],[.new 0],[],[]] [[.new 0],[.new 1]] mixed ai ?_|refine And.intro ?_ ?_|intro _)|simp[*,hi,hk,h1,h2,h3,Tw.eX,Tw.dW,Tw.dP]|(refine bN (c1) ?_ ?_;· simp[*];done)
    all_goals first|omega
 .rw[decide_eq_false h1];simp only[iv];refine rcK Tz.func60 ?_;simp only[Tryz.results60,Tryz.ntmps60]
  repeat' first|(with_reducible first|apply bG|apply bU|apply bE|refine j8 (id:=1) [0,1,2,3,4,5,6,7,8,9,10,11] [12,13] [[],[],[],[],[],[.new 0],[.new 0],[.new 0],[.new 0],[.new 0],[],[]] [[.new 0],[.new 1]] mixed ai ?_|refine And.intro ?_ ?_|intro _)|simp[*,hi,hk,h1,Tw.eX,Tw.dW,Tw.dP]|(refine bN (c1) ?_ ?_;· simp[*];done)
  all_goals first|omega
theorem zfg(bz:List Car)(os:List Ord)(wt:List (List Int))(zs:List Par)(a5:bz.length<=1000)(a6:os.length<=1000)(aa:wt.length<100000)(ao:zs.length<100000)(hc:∀x∈bz,x.1.size<1000000)(ho:∀x∈os,x.1.size<1000000)(hw:∀x∈wt,x.length<100000):bT Tz.prog 20 [.agg [.sl bz.length (dk bz),.sl os.length (dj os),.sl wt.length (dQ wt),.sl zs.length (dm zs)]] (.int .i64 (iR bz os wt zs).2) true:=by
 have c:=zg8 bz os wt zs a5 a6 aa ao hc ho hw;generalize iR bz os wt zs=R at *;clear hc ho hw;refine rcK Tz.func20 ?_;simp only[Tryz.results20,Tryz.ntmps20]
 repeat' first|(with_reducible first|apply bG|apply bU|apply bE|refine And.intro ?_ ?_|intro _)|simp[*]|(refine bN (c) ?_ ?_;· simp[*];done)
end Go.Proofs.YthpkmilhiganjaaGreat
namespace Go.Proofs.YthpkmilhiganjaaGreat
open Go Go.Fi
noncomputable instance zke:bJ:=LD
theorem EX(ex:List Int)(n:Nat):a9 ex (n+1)=if cO ex n then a9 ex n+1 else a9 ex n:=by
 unfold a9;rw[mH];split<;>simp
theorem zfh{α:Type}[Inhabited α](l m:List α){j:Nat}(h:j<l.length):nth (l++m) j=nth l j:=by
 simp[nth,eu,qU h]
theorem zfi{α:Type}[Inhabited α](l:List α)(i:α):nth (l++[i]) l.length=i:=by
 simp[nth,eu]
theorem l9(ex:List Int):∀(n j:Nat),j<a9 ex n->nth (bf ex n) j<n/\cO ex (nth (bf ex n) j)=true/\a9 ex (nth (bf ex n) j)=j
 |0,j,h=>absurd h aE
 |n+1,j,h=>by
  have ih:=l9 ex n j;rw[EX] at h;rw[mH]
  cases hk:cO ex n with
  |false=>
   rw[hk] at h
   grind
  |true=>
   rw[hk] at h;simp only[cD] at h ⊢;by_cases hj:j<a9 ex n
   .rw[zfh _ _ hj];have:=ih hj
    grind
   .have e:j=(bf ex n).length:=by have:a9 ex n=(bf ex n).length:=rfl;omega
    rw[e,zfi]
    grind
theorem zha(ex:List Int){n i:Nat}(hi:i<n)(hk:cO ex i=true):nth (bf ex n) (a9 ex i)=i:=by
 have h:=l9 ex n (a9 ex i) (m6 hk hi);exact EO h.2.1 hk h.2.2
theorem zcl(ex:List Int)(f:Nat->Int):∀n,bw (λj=>f (nth (bf ex n) j)) (a9 ex n)=bw (λi=>if cO ex i then f i else 0) n
 |0=>rfl
 |n+1=>by
  have ih:=zcl ex f n;rw[EX,mH,show bw (λi=>if cO ex i then f i else 0) (n+1)=bw (λi=>if cO ex i then f i else 0) n+(if cO ex n then f n else 0) from rfl,<-ih]
  cases hk:cO ex n with
  |false=>simp
  |true=>
   simp only[cD];have e:bw (λj=>f (nth (bf ex n++[n]) j)) (a9 ex n+1)=bw (λj=>f (nth (bf ex n++[n]) j)) (a9 ex n)+f (nth (bf ex n++[n]) (a9 ex n)):=rfl;rw[e,show a9 ex n=(bf ex n).length from rfl,zfi];congr 1
   exact zb8 _ λj hj=>by rw[zfh _ _ hj]
theorem zfj{f:Nat->Int}(n:Nat)(h:∀k,k<n->f k=0):bw f n=0:=by
 induction n with
 |zero=>rfl
 |succ n ih=>unfold bw;rw[ih λk hk=>h k ab,h n ab];rfl
theorem zcm{α β:Type}[Inhabited α][Inhabited β](f:α->β)(l:List α)(j:Nat)(h:j<l.length):nth (l.map f) j=f (nth l j):=by
 simp_all
section
variable(x:Rd)(os cs:List Int)
theorem zfk{k:Nat}(hk:k<a9 cs x.bz.length):nth (bu x cs x.bz.length) k=nth x.bz (nth (bf cs x.bz.length) k):=zcm _ _ _ hk
theorem zdm{i:Nat}(hi:i<a9 os x.os.length):nth (bo x os x.os.length) i=nth x.os (nth (bf os x.os.length) i):=zcm _ _ _ hi
theorem zdn{i k:Nat}(hi:i<a9 os x.os.length)(hk:k<a9 cs x.bz.length):nth (nth (bn x os cs x.os.length) i) k=nth (nth x.wt (nth (bf os x.os.length) i)) (nth (bf cs x.bz.length) k):=by
 unfold bn;rw[zcm _ _ _ hi];exact zcm _ _ _ hk
theorem zhb{i k:Nat}(hi:i<a9 os x.os.length)(hk:k<a9 cs x.bz.length):hasB (br x os cs x.zs.length) ((i:Int),(k:Int))=hasB x.zs (((nth (bf os x.os.length) i:Nat):Int),((nth (bf cs x.bz.length) k:Nat):Int)):=by
 obtain⟨o1,o2,o3⟩:=l9 os x.os.length i hi;obtain⟨c1,c2,c3⟩:=l9 cs x.bz.length k hk;unfold hasB br;rw[yn,List.any_flatMap];rw[uU,uS,uS];constructor
 .rintro⟨p,hp,h⟩
  refine⟨p,hp,?_⟩;rw[uS] at h;obtain⟨q,hq,h⟩:=h;obtain⟨a,b,rfl,ha,hb,ka,kb,rfl⟩:=zck hq;simp only[eT,decide_eq_true_eq] at h ⊢;have e1:=EO ka o2 ab;have e2:=EO kb c2 ab;omega
 .rintro⟨p,hp,h⟩
  refine⟨p,hp,?_⟩;simp only[eT,decide_eq_true_eq] at h;have e:p=(((nth (bf os x.os.length) i:Nat):Int),((nth (bf cs x.bz.length) k:Nat):Int)):=Prod.ext h.1.symm h.2.symm;rw[e,zdk o1 c1 o2 c2,o3,c3];simp
theorem zhc{i k:Nat}(hi:i<a9 os x.os.length)(hk:k<a9 cs x.bz.length):C8 (bu x cs x.bz.length) (bo x os x.os.length) (br x os cs x.zs.length) i k=C8 x.bz x.os x.zs (nth (bf os x.os.length) i) (nth (bf cs x.bz.length) k):=by
 unfold C8;rw[zfk x cs hk,zdm x os hi,zhb x os cs hi hk]
end
theorem zhd(x:Rd)(ok:ft x)(U V:Nat->Int)(a':∀i,i<x.os.length->U i<=dR (prio x i))(ag:∀i k,i<x.os.length->k<x.bz.length->nth (nth x.fit i) k=true->U i<=nth (nth x.wt i) k+V k)(hv:∀k,k<x.bz.length->0<=V k)(plan:List Int)(hp:PC x plan):bw U x.os.length-bw V x.bz.length<=eF x plan:=by
 have lU:((List.range x.os.length).map U).length=x.os.length:=ae
 have lV:((List.range x.bz.length).map V).length=x.bz.length:=ae
 have nU:∀i,i<x.os.length->nth ((List.range x.os.length).map U) i=U i:=λi hi=>C9 _ _ _ hi
 have nV:∀k,k<x.bz.length->nth ((List.range x.bz.length).map V) k=V k:=λk hk=>C9 _ _ _ hk
 have h1:=zet x ok ((List.range x.os.length).map U) ((List.range x.bz.length).map V) plan hp lU (λi hi=>by
  rw[lU] at hi;rw[nU i hi]
  refine zd2 _ _ _ _ _ (a' i hi) _ λk hk hr=>?_
  rw[ok.fr i hi] at hk;rw[nV k hk]
  simp_all) plan.length (bV _)
 have h2:=zgy x ((List.range x.bz.length).map V) plan hp (λc hc=>by rw[nV c hc];exact hv c hc);have e1:plan.length=x.os.length:=hp.len;unfold eF;rw[e1] at h1 h2 ⊢;rw[zda _ U _ nU] at h1;rw[zda _ V _ nV] at h2;omega
theorem zhe(x:Rd)(ok:ft x):eF x (ba x)=bw (nth (cM x).u) x.os.length-bw (nth (bK x)) x.bz.length:=by
 rw[zgz x ok,zda (Bd x) (nth (cM x).u) _ (λk hk=>zev x ok k hk),zb9]
theorem zdo(r:Tw.RND)(h:ceR r=0)(os cs:List Int):ceR (bM r h os cs)=0:=(zdj _).2 (zdl (x:=bQ r) ((zdj r).1 h) os cs)
section
variable(r:Tw.RND)(h:ceR r=0)(os cs:List Int)
theorem zcd:(bM r h os cs).os.length=a9 os r.os.length:=by simp[bM,bo,a9];rfl
theorem zcn:(bM r h os cs).bz.length=a9 cs r.bz.length:=by simp[bM,bu,a9];rfl
theorem zhf{i k:Nat}(hi:i<a9 os r.os.length)(hk:k<a9 cs r.bz.length):nth (nth (bQ (bM r h os cs)).fit i) k=nth (nth (bQ r).fit (nth (bf os r.os.length) i)) (nth (bf cs r.bz.length) k):=by
 have h1:=l9 os r.os.length i hi;have h2:=l9 cs r.bz.length k hk;rw[zd3 (bM r h os cs) i k (by rw[zcd];exact hi) (by rw[zcn];exact hk),zd3 r _ _ h1.1 h2.1];exact zhc (bQ r) os cs hi hk
theorem zhg{i k:Nat}(hi:i<a9 os r.os.length)(hk:k<a9 cs r.bz.length):nth (nth (bM r h os cs).wt i) k=nth (nth r.wt (nth (bf os r.os.length) i)) (nth (bf cs r.bz.length) k):=zdn (bQ r) os cs hi hk
theorem zfl{i:Nat}(hi:i<a9 os r.os.length):prio (bQ (bM r h os cs)) i=prio (bQ r) (nth (bf os r.os.length) i):=by
 unfold prio;have:nth (bQ (bM r h os cs)).os i=nth (bQ r).os (nth (bf os r.os.length) i):=zdm (bQ r) os hi;rw[this]
theorem zhh(U V:Nat->Int)(a':∀i,i<r.os.length->cO os i=true->U i<=dR (prio (bQ r) i))(ag:∀i k,i<r.os.length->k<r.bz.length->cO os i=true->cO cs k=true->nth (nth (bQ r).fit i) k=true->U i<=nth (nth r.wt i) k+V k)(hv:∀k,k<r.bz.length->cO cs k=true->0<=V k):bw (λi=>if cO os i then U i else 0) r.os.length-bw (λk=>if cO cs k then V k else 0) r.bz.length<=eF (bQ (bM r h os cs)) (ba (bQ (bM r h os cs))):=by
 have ok:=C7 _ (zdo r h os cs)
 have:=zhd (bQ (bM r h os cs)) ok (λi=>U (nth (bf os r.os.length) i)) (λk=>V (nth (bf cs r.bz.length) k)) (λi hi=>by
  have hi:i<a9 os r.os.length:=by rw[<-zcd r h os cs];exact hi
  rw[zfl r h os cs hi];have:=l9 os r.os.length i hi
  simp_all) (λi k hi hk hf=>by
  have hi:i<a9 os r.os.length:=by rw[<-zcd r h os cs];exact hi
  have hk:k<a9 cs r.bz.length:=by rw[<-zcn r h os cs];exact hk
  rw[zhf r h os cs hi hk] at hf;have h1:=l9 os r.os.length i hi;have h2:=l9 cs r.bz.length k hk;have:=ag _ _ h1.1 h2.1 h1.2.1 h2.2.1 hf;rw[<-zhg r h os cs hi hk] at this
  exact this) (λk hk=>by
  have hk:k<a9 cs r.bz.length:=by rw[<-zcn r h os cs];exact hk
  have h2:=l9 cs r.bz.length k hk
  simp_all) (ba (bQ (bM r h os cs))) (zc8 _ ok)
 rw[show (bQ (bM r h os cs)).os.length=a9 os r.os.length from zcd r h os cs,show (bQ (bM r h os cs)).bz.length=a9 cs r.bz.length from zcn r h os cs,zcl os U,zcl cs V] at this;exact this
end
theorem zco(k:Nat):cO [] k=true:=rfl
theorem zcp(n:Nat):a9 [] n=n:=by
 induction n with
 |zero=>rfl
 |succ n ih=>rw[EX,zco,ih];rfl
def cn(f:Nat->Bool):Nat->Nat
 |0=>0
 |n+1=>cn f n+if f n then 1 else 0
noncomputable instance zkg:bJ:=LD
def zir(F:Nat->List Int):Nat->List (List Int)
 |0=>[[]]
 |i+1=>(zir F i).flatMap λp=>(p++[-1])::((F i).filter λf=>!(p.any λy=>decide (f=y))).map λf=>p++[f]
theorem zhi{l:List Int}{v:Int}:v∈l↔∃j,j<l.length/\nth l j=v:=by
 constructor
 .intro h;obtain⟨j,hj,e⟩:=I7.1 h;exact⟨j,hj,by rw[<-e];simp[nth,eu,hj]⟩
 .rintro⟨j,hj,rfl⟩
  exact lB hj
def rcQ(os:List Ord)(wt:List (List Int))(plan:List Int):Nat->Int
 |0=>0
 |k+1=>rcQ os wt plan k+if nth plan k=-1 then dR (nth os k).2.2.2.toNat else nth (nth wt k) (nth plan k).toNat
def rcS(os:List Ord)(wt:List (List Int))(plan:List Int):Int:=rcQ os wt plan plan.length
theorem zfm(x:Rd)(plan:List Int):∀k,cE x plan k=eB x x.os.length-eB x k+rcQ x.os x.wt plan k
 |0=>by unfold cE rcQ;simp
 |k+1=>by
  have ih:=zfm x plan k
  rw[show cE x plan (k+1)=if nth plan k=-1 then cE x plan k else cE x plan k+(CN x k (nth plan k)-dR (prio x k)) from rfl,
   show rcQ x.os x.wt plan (k+1)=rcQ x.os x.wt plan k+if nth plan k=-1 then dR (nth x.os k).2.2.2.toNat else nth (nth x.wt k) (nth plan k).toNat from rfl,
   show eB x (k+1)=eB x k+dR (prio x k) from rfl,ih]
  unfold CN prio
  split<;>omega
theorem zhj(x:Rd)(plan:List Int)(hl:plan.length=x.os.length):eF x plan=rcS x.os x.wt plan:=by
 unfold eF rcS;rw[zfm,hl];omega
end Go.Proofs.YthpkmilhiganjaaGreat
