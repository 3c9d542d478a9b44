/- Lemmas. -/
import Derived.Test.YthpkmilhiganjaaGreatPDb
import Derived.Test.YthpkmilhiganjaaGreatPDa
import Derived.Test.YthpkmilhiganjaaGreatPEa
import Derived.Test.YthpkmilhiganjaaGreatPEb
set_option linter.all false
set_option maxHeartbeats 32000000
set_option maxRecDepth 100000
namespace Go.Proofs.YthpkmilhiganjaaGreat
open Go Go.Fi
variable[bI]
theorem BF(s:ByteArray)(hs:s.size<1000000):bX Tz.prog 134 [.str s] (.bool (gD s)) true:=by
 refine rcK Tz.func134 ?_;simp only[Tryz.results134,Tryz.ntmps134]
 repeat' first|(with_reducible first|apply bH|apply b7|apply bT|apply bG|apply bQ|refine xu ?_ ?_|refine lH ?_ ?_|intro _)|simp[*]
 .exact Pj ab
 rotate_left
 .rename_i h0;exact Ht (by have:=of_decide_eq_true h0;omega)
 rename_i hA hB
 have hg:s.size≠0:=by have:=of_decide_eq_false hA;omega
 refine xx (λk:Nat=>k<=s.size/\mX s k=true) [0] (λk=>[(3,.w false false (.int .i64 k))]) (λ_=>[]) (λk=>s.size-k)
  (λ_:Unit=>mX s s.size=true) [0] (λ_=>[]) (λ_=>[]) 0 ⟨cG _,rfl⟩ ae ae (λk hk=>?_) (λ_ hf=>?_)
 .obtain⟨hk,hf⟩:=hk
  repeat' first|(with_reducible first|apply bH|apply cO|apply b7|apply bT|apply da|apply bG|apply bQ|refine And.intro ?_ ?_|refine xu ?_ ?_|refine xr ?_ ?_|refine lH ?_ ?_|intro _)|simp[*]
  all_goals first
   |exact dc ab ab
   |omega
   |(refine nx (k+1) ?_ ?_;(· refine⟨ab,?_⟩;unfold mX;rw[hf];clear hf;simp[okB,vh] at *;omega);(refine cD ?_ ?_<;>first|trivial|(simp[*];done)))
   |(refine dH () ?_ ?_;(· rw[show s.size=k by omega];exact hf);(refine cD ?_ ?_<;>first|trivial|simp))
   |(unfold gD;rw[BS s k (by clear hf;simp[okB,vh] at *;omega) s.size ab];rfl)
 .repeat' first|(with_reducible first|apply bH|apply bT|apply bG|intro _)|simp[*]
  all_goals (rw[Hu hf hg];simp;omega)
theorem zdw(bD:List Car)(os:List Ord)(wt:List (List Int))(zs:List Par)(i:Nat)(hi:i<bD.length)(hl:bD.length<=1000)(hs:∀x∈bD,x.1.size<1000000):bX Tz.prog 108 [.agg [.sl bD.length (dG bD),.sl os.length (dE os),.sl wt.length (dU wt),.sl zs.length (dI zs)],.int .i64 i] (.int .i64 (j1 Prod.fst gK bD i (nth bD i))) true:=by
 have c1:=BF (nth bD i).1 (hs _ (iu hi));have c2:=pg (nth bD i).2.1 1 8;generalize hR:j1 Prod.fst gK bD i (nth bD i)=R;unfold j1 gK at hR;clear hs
 cases hb:gD (nth bD i).1 with
 |false=>
  rw[hb] at c1 hR;have hR:(4:Int)=R:=hR;subst hR;clear hb c2;refine rcK Tz.func108 ?_;simp only[Tryz.results108,Tryz.ntmps108]
  repeat' first|(with_reducible first|apply bH|apply bT|apply bG|apply bQ|refine And.intro ?_ ?_|intro _)|simp[*,hi]|(refine bN (c1) ?_ ?_;· simp[*];done)
  all_goals first|omega
 |true=>
  rw[hb] at c1 hR;clear hb;have hR:fD [dw (!((bD.take i).any λy=>decide (y.1=(nth bD i).1))) 5,dw (dj (nth bD i).2.1 1 8) 2]=R:=hR;generalize hA:((bD.take i).any λy=>decide (y.1=(nth bD i).1))=A at hR;have kA:di (((bD.take i).drop 0).any (λy=>decide (y.1=(nth bD i).1))=A):=hA;have kR:=keep hR;clear hA hR;refine rcK Tz.func108 ?_;simp only[Tryz.results108,Tryz.ntmps108]
  repeat' first|(with_reducible first|apply bH|apply b7|apply bG|apply bQ|refine And.intro ?_ ?_|intro _)|simp[*,hi]|(refine bN (c1) ?_ ?_;· simp[*];done)
  all_goals try first|omega|assumption
  refine fp (λ(k:Nat)=>k<=i/\((bD.take i).drop k).any (λy=>decide (y.1=(nth bD i).1))=A) [1,2] (λ(k:Nat)=>[(5,.w false false (.int .i64 k))]) [0] (λ(k:Nat)=>[]) (λ(k:Nat)=>i-k) (λ(_u:Unit)=>A=false) [1,2] (λ(_u:Unit)=>[]) [0] (λ(_u:Unit)=>[]) (0) ⟨cG _,kA⟩ ae ae (λk hk=>?_) (λ_u hf=>?_)
  .obtain⟨hk,hj⟩:=hk;clear c1;by_cases h5:k<i
   .have hh:k<bD.length:=ab
    have h':k<(bD.take i).length:=by rw[lq];omega
    rw[fE _ k h',yP] at hj
    have e:nth (bD.take i) k=nth bD k:=by
     simp[nth,dZ,j5,h5]
    rw[e] at hj;have kj:=keep hj;clear hj e h';by_cases hn:(nth bD k).1=(nth bD i).1
    .have hA:A=true:=by have h:=kj;unfold di at h;rw[<-h];simp[hn]
     subst hA;have hR:(5:Int)=R:=kR;subst hR;clear kj kR kA
     repeat' first|(with_reducible first|apply bH|apply cO|apply b7|apply bT|apply bG|refine df (id:=6) 13 mixed ai ?_|apply bQ|intro _)|simp[*,h5,hh,hi,hn]
     all_goals first|omega|exact dc ab ab
    .have kj2:di (((bD.take i).drop (k+1)).any (λy=>decide (y.1=(nth bD i).1))=A):=by have h:=kj;simp_all
     clear kj kA
     repeat' first|(with_reducible first|apply bH|apply cO|apply b7|apply bG|refine df (id:=6) 13 mixed ai ?_|apply bQ|refine And.intro ?_ ?_|intro _)|simp[*,h5,hh,hi,hn]
     all_goals first
      |omega
      |exact dc ab ab
      |(refine gu _ _ _ _ _ (k+1) _ ?_ ab ?_;(· trivial);(refine cD ?_ ?_<;>first|trivial|simp))
   .have h8:k=i:=ab
    subst h8;have h9:di (A=false):=keep (by rw[<-hj];simp);clear hj kA
    repeat' first|(with_reducible first|apply bH|apply da|apply bG|apply bQ|intro _)|simp[*]
    all_goals first
     |omega
     |(refine dH () ?_ ?_;(· exact h9);(refine cD ?_ ?_<;>first|trivial|simp))
  .subst hf;clear kA c1
   cases hw:dj (nth bD i).2.1 1 8 with
   |true=>
    rw[hw] at c2 kR;have hR:(0:Int)=R:=kR;subst hR;clear kR hw
    repeat' first|(with_reducible first|apply bH|apply b7|apply bT|apply bG|apply bQ|refine And.intro ?_ ?_|intro _)|simp[*,hi]|(refine bN (c2) ?_ ?_;· simp[*];done)
    omega
   |false=>
    rw[hw] at c2 kR;have hR:(2:Int)=R:=kR;subst hR;clear kR hw
    repeat' first|(with_reducible first|apply bH|apply bT|apply bG|apply bQ|refine And.intro ?_ ?_|intro _)|simp[*,hi]|(refine bN (c2) ?_ ?_;· simp[*];done)
    omega
theorem zdx(bD:List Car)(os:List Ord)(wt:List (List Int))(zs:List Par)(i:Nat)(hi:i<os.length)(hl:os.length<=1000)(hs:∀x∈os,x.1.size<1000000):bX Tz.prog 109 [.agg [.sl bD.length (dG bD),.sl os.length (dE os),.sl wt.length (dU wt),.sl zs.length (dI zs)],.int .i64 i] (.int .i64 (j1 Prod.fst gn os i (nth os i))) true:=by
 have c1:=BF (nth os i).1 (hs _ (iu hi));have c2:=pg (nth os i).2.1 1 8;have c3:=pg (nth os i).2.2.2 0 6;generalize hR:j1 Prod.fst gn os i (nth os i)=R;unfold j1 gn at hR;clear hs
 cases hb:gD (nth os i).1 with
 |false=>
  rw[hb] at c1 hR;have hR:(4:Int)=R:=hR;subst hR;clear hb c2 c3;refine rcK Tz.func109 ?_;simp only[Tryz.results109,Tryz.ntmps109]
  repeat' first|(with_reducible first|apply bH|apply bT|apply bG|apply bQ|refine And.intro ?_ ?_|intro _)|simp[*,hi]|(refine bN (c1) ?_ ?_;· simp[*];done)
  all_goals first|omega
 |true=>
  rw[hb] at c1 hR;clear hb;have hR:fD [dw (!((os.take i).any λy=>decide (y.1=(nth os i).1))) 5,dw (dj (nth os i).2.1 1 8&&dj (nth os i).2.2.2 0 6) 2]=R:=hR;generalize hA:((os.take i).any λy=>decide (y.1=(nth os i).1))=A at hR;have kA:di (((os.take i).drop 0).any (λy=>decide (y.1=(nth os i).1))=A):=hA;have kR:=keep hR;clear hA hR;refine rcK Tz.func109 ?_;simp only[Tryz.results109,Tryz.ntmps109]
  repeat' first|(with_reducible first|apply bH|apply b7|apply bG|apply bQ|refine And.intro ?_ ?_|intro _)|simp[*,hi]|(refine bN (c1) ?_ ?_;· simp[*];done)
  all_goals try first|omega|assumption
  refine fp (λ(k:Nat)=>k<=i/\((os.take i).drop k).any (λy=>decide (y.1=(nth os i).1))=A) [1,2] (λ(k:Nat)=>[(5,.w false false (.int .i64 k))]) [0] (λ(k:Nat)=>[]) (λ(k:Nat)=>i-k) (λ(_u:Unit)=>A=false) [1,2] (λ(_u:Unit)=>[]) [0] (λ(_u:Unit)=>[]) (0) ⟨cG _,kA⟩ ae ae (λk hk=>?_) (λ_u hf=>?_)
  .obtain⟨hk,hj⟩:=hk;clear c1;by_cases h5:k<i
   .have hh:k<os.length:=ab
    have h':k<(os.take i).length:=by rw[lq];omega
    rw[fE _ k h',yP] at hj
    have e:nth (os.take i) k=nth os k:=by
     simp[nth,dZ,j5,h5]
    rw[e] at hj;have kj:=keep hj;clear hj e h';by_cases hn:(nth os k).1=(nth os i).1
    .have hA:A=true:=by have h:=kj;unfold di at h;rw[<-h];simp[hn]
     subst hA;have hR:(5:Int)=R:=kR;subst hR;clear kj kR kA
     repeat' first|(with_reducible first|apply bH|apply cO|apply b7|apply bT|apply bG|refine df (id:=6) 13 mixed ai ?_|apply bQ|intro _)|simp[*,h5,hh,hi,hn]
     all_goals first|omega|exact dc ab ab
    .have kj2:di (((os.take i).drop (k+1)).any (λy=>decide (y.1=(nth os i).1))=A):=by have h:=kj;simp_all
     clear kj kA
     repeat' first|(with_reducible first|apply bH|apply cO|apply b7|apply bG|refine df (id:=6) 13 mixed ai ?_|apply bQ|refine And.intro ?_ ?_|intro _)|simp[*,h5,hh,hi,hn]
     all_goals first
      |omega
      |exact dc ab ab
      |(refine gu _ _ _ _ _ (k+1) _ ?_ ab ?_;(· trivial);(refine cD ?_ ?_<;>first|trivial|simp))
   .have h8:k=i:=ab
    subst h8;have h9:di (A=false):=keep (by rw[<-hj];simp);clear hj kA
    repeat' first|(with_reducible first|apply bH|apply da|apply bG|apply bQ|intro _)|simp[*]
    all_goals first
     |omega
     |(refine dH () ?_ ?_;(· exact h9);(refine cD ?_ ?_<;>first|trivial|simp))
  .subst hf;clear kA c1
   cases hw:dj (nth os i).2.1 1 8 with
   |true=>
    cases hv:dj (nth os i).2.2.2 0 6 with
    |true=>
     rw[hw,hv] at kR;rw[hw] at c2;rw[hv] at c3;have hR:(0:Int)=R:=kR;subst hR;clear kR hw hv
     repeat' first|(with_reducible first|apply bH|apply b7|apply bT|apply bG|apply bQ|refine And.intro ?_ ?_|intro _)|simp[*,hi]|(refine bN (c2) ?_ ?_;· simp[*];done)|(refine bN (c3) ?_ ?_;· simp[*];done)
     all_goals first|omega
    |false=>
     rw[hw,hv] at kR;rw[hw] at c2;rw[hv] at c3;have hR:(2:Int)=R:=kR;subst hR;clear kR hw hv
     repeat' first|(with_reducible first|apply bH|apply bT|apply bG|apply bQ|refine And.intro ?_ ?_|intro _)|simp[*,hi]|(refine bN (c2) ?_ ?_;· simp[*];done)|(refine bN (c3) ?_ ?_;· simp[*];done)
     all_goals first|omega
   |false=>
    rw[hw] at c2 kR;have hR:(2:Int)=R:=kR;subst hR;clear kR hw c3
    repeat' first|(with_reducible first|apply bH|apply bT|apply bG|apply bQ|refine And.intro ?_ ?_|intro _)|simp[*,hi]|(refine bN (c2) ?_ ?_;· simp[*];done)
    omega
def hasB(l:List Par)(v:Par):Bool:=l.any λy=>decide (v.1=y.1)&&decide (v.2=y.2)
theorem BO(l:List Par)(hl:l.length<100000)(v:Par):bX Tz.prog 110 [.sl l.length (dI l),.agg (Tw.eD v)] (.bool (hasB l v)) true:=by
 unfold hasB;generalize hR:(l.any λy=>decide (v.1=y.1)&&decide (v.2=y.2))=R;have kR:di ((l.drop 0).any (λy=>decide (v.1=y.1)&&decide (v.2=y.2))=R):=keep hR;clear hR;obtain⟨v1,v2⟩:=v;simp only[Tw.eD];refine rcK Tz.func110 ?_;simp only[Tryz.results110,Tryz.ntmps110]
 repeat' first|(with_reducible first|apply bH|apply bG|intro _)|simp[*]
 refine fp (λ(k:Nat)=>k<=l.length/\(l.drop k).any (λy=>decide (v1=y.1)&&decide (v2=y.2))=R) [0,3] (λ(k:Nat)=>[(5,.w false false (.int .i64 k))]) [0] (λ(k:Nat)=>[]) (λ(k:Nat)=>l.length-k) (λ(_u:Unit)=>R=false) [] (λ(_u:Unit)=>[]) [0] (λ(_u:Unit)=>[]) (0) ⟨cG _,kR⟩ ae ae (λk hk=>?_) (λ_u hf=>?_)
 .obtain⟨hk,hj⟩:=hk;by_cases h5:k<l.length
  .rw[fE l k h5,yP] at hj;by_cases h1:(nth l k).1=v1
   .by_cases h2:(nth l k).2=v2
    .have hR:R=true:=by rw[<-hj];simp[h1,h2]
     subst hR;clear hj kR
     repeat' first|(with_reducible first|apply bH|apply cO|apply b7|apply bT|apply bG|refine df (id:=4) 6 mixed ai ?_|apply bQ|refine And.intro ?_ ?_|intro _)|simp[*,h5,h1,h2,Tw.eD]
     omega
    .have hq:¬v2=(nth l k).2:=λe=>h2 e.symm
     have kj:di ((l.drop (k+1)).any (λy=>decide (v1=y.1)&&decide (v2=y.2))=R):=keep (by rw[<-hj];simp[hq]);clear hj kR hq
     repeat' first|(with_reducible first|apply bH|apply cO|apply b7|apply bG|refine df (id:=4) 6 mixed ai ?_|apply bQ|refine And.intro ?_ ?_|intro _)|simp[*,h5,h1,h2,Tw.eD]
     all_goals first
      |omega
      |exact dc ab ab
      |(refine gu _ _ _ _ _ (k+1) _ ?_ ab ?_;(· trivial);(refine cD ?_ ?_<;>first|trivial|simp))
   .have hm:¬v1=(nth l k).1:=λe=>h1 e.symm
    have kj:di ((l.drop (k+1)).any (λy=>decide (v1=y.1)&&decide (v2=y.2))=R):=keep (by rw[<-hj];simp[hm]);clear hj kR hm
    repeat' first|(with_reducible first|apply bH|apply cO|apply b7|apply bG|refine df (id:=4) 6 mixed ai ?_|apply bQ|refine And.intro ?_ ?_|intro _)|simp[*,h5,h1,Tw.eD]
    all_goals first
     |omega
     |exact dc ab ab
     |(refine gu _ _ _ _ _ (k+1) _ ?_ ab ?_;(· trivial);(refine cD ?_ ?_<;>first|trivial|simp))
  .have h8:k=l.length:=ab
   subst h8;have kj:di (R=false):=keep (by rw[<-hj];simp);clear hj kR
   repeat' first|(with_reducible first|apply bH|apply da|apply bG|apply bQ|intro _)|simp[*]
   all_goals first
    |(refine dH () ?_ ?_;(· exact kj);(refine cD ?_ ?_<;>first|trivial|(simp[*];done)))
 .subst hf
  repeat' first|(with_reducible first|apply bH|apply bT|apply bG|intro _)|simp[*]
theorem zdy(bD:List Car)(os:List Ord)(wt:List (List Int))(zs:List Par)(ho:os.length<100000)(n:Int):bX Tz.prog 43 [.agg [.sl bD.length (dG bD),.sl os.length (dE os),.sl wt.length (dU wt),.sl zs.length (dI zs)],.int .i64 n] (.bool (dj n 0 ((os.length:Int)-1))) true:=by
 refine rcK Tz.func43 ?_;simp only[Tryz.results43,Tryz.ntmps43]
 repeat' first|(with_reducible first|apply bH|apply bT|apply bG|refine And.intro ?_ ?_|refine cw (pg _ _ _) ?_|intro _)|simp[*]|(refine bN (pg _ _ _) ?_ ?_;· simp[*];done)
 all_goals first|omega|exact dc ab ab
theorem BP(bD:List Car)(os:List Ord)(wt:List (List Int))(zs:List Par)(ho:bD.length<100000)(n:Int):bX Tz.prog 45 [.agg [.sl bD.length (dG bD),.sl os.length (dE os),.sl wt.length (dU wt),.sl zs.length (dI zs)],.int .i64 n] (.bool (dj n 0 ((bD.length:Int)-1))) true:=by
 refine rcK Tz.func45 ?_;simp only[Tryz.results45,Tryz.ntmps45]
 repeat' first|(with_reducible first|apply bH|apply bT|apply bG|refine And.intro ?_ ?_|refine cw (pg _ _ _) ?_|intro _)|simp[*]|(refine bN (pg _ _ _) ?_ ?_;· simp[*];done)
 all_goals first|omega|exact dc ab ab
theorem zdz(bD:List Car)(os:List Ord)(wt:List (List Int))(zs:List Par)(hr:bD.length<=1000)(a9:os.length<=1000)(a':wt.length<100000)(aa:zs.length<100000)(hc:∀x∈bD,x.1.size<1000000)(ho:∀x∈os,x.1.size<1000000)(hw:∀x∈wt,x.length<100000):bX Tz.prog 58 [.agg [.sl bD.length (dG bD),.sl os.length (dE os),.sl wt.length (dU wt),.sl zs.length (dI zs)]] (.tup [.int .i64 (j3 bD os wt zs).1,.int .i64 (j3 bD os wt zs).2]) true:=by
 generalize hR:j3 bD os wt zs=R;obtain⟨R1,R2⟩:=R;unfold j3 at hR;have kc:=keep hc;have ko:=keep ho;have kw:=keep hw;clear hc ho hw;by_cases a1:(8:Int)<bD.length
 .rw[b8 a1] at hR;obtain⟨q1,q2⟩:=dq hR;subst q1 q2;clear hR;refine rcK Tz.func58 ?_;simp only[Tryz.results58,Tryz.ntmps58]
  repeat' first|(with_reducible first|apply bH|apply bT|apply bG|apply bQ|intro _)|simp[*,a1]
  all_goals first|omega|exact dc ab ab|assumption
 rw[bP a1] at hR;generalize hN:jo Prod.fst gK bD=N at hR;obtain⟨N1,N2⟩:=N;have kN:di (gL Prod.fst gK bD (bD.drop 0) 0=(N1,N2)):=hN;have kR:=keep hR;clear hR hN;refine rcK Tz.func58 ?_;simp only[Tryz.results58,Tryz.ntmps58]
 repeat' first|(with_reducible first|apply bH|apply b7|apply bG|apply bQ|intro _)|simp[*,a1]
 refine fp (λ(k:Nat)=>k<=bD.length/\gL Prod.fst gK bD (bD.drop k) k=(N1,N2)) [1] (λ(k:Nat)=>[(4,.w false false (.int .i64 k))]) [0] (λ(k:Nat)=>[]) (λ(k:Nat)=>bD.length-k) (λ(_u:Unit)=>N1=0/\N2=0) [1] (λ(_u:Unit)=>[]) [0] (λ(_u:Unit)=>[]) (0) ⟨cG _,kN⟩ ae ae (λk hk=>?_) (λ_u hf=>?_)
 .obtain⟨hk,hj⟩:=hk;by_cases h5:k<bD.length
  .have c1:=zdw bD os wt zs k h5 ab kc;rw[fE bD k h5,gL] at hj;generalize j1 Prod.fst gK bD k (nth bD k)=e at hj c1;by_cases he:e=0
   .rw[b8 he] at hj;subst he;have kj:=keep hj;clear hj
    repeat' first|(with_reducible first|apply bH|apply cO|apply b7|apply bG|apply bQ|refine And.intro ?_ ?_|intro _)|simp[*,h5]|(refine bN (c1) ?_ ?_;· simp[*];done)
    all_goals first
     |omega
     |exact dc ab ab
     |(refine gu _ _ _ _ _ (k+1) _ ?_ ab ?_;(· trivial);(refine cD ?_ ?_<;>first|trivial|simp))
   .rw[bP he] at hj;obtain⟨g1,g2⟩:=dq hj;have h1:=(dq (show (N1,N2)=(R1,R2) by have h:=kR;unfold di at h;rw[b8 (show (N1,N2).2≠0 fromλh0=>he (g2.trans h0))] at h;exact h));have q1:(k:Int)=R1:=g1.trans h1.1;have q2:e=R2:=g2.trans h1.2;subst q1 q2;clear hj kR g1 g2 h1 kN
    repeat' first|(with_reducible first|apply bH|apply cO|apply b7|apply bT|apply bG|apply bQ|refine And.intro ?_ ?_|intro _)|simp[*,h5,he]|(refine bN (c1) ?_ ?_;· simp[*];done)
    all_goals first|omega|exact dc ab ab|assumption
  .have h8:k=bD.length:=ab
   subst h8;rw[jb] at hj;have hj:((0:Int),(0:Int))=(N1,N2):=hj;have kj:di (N1=0/\N2=0):=keep ⟨(dq hj).1.symm,(dq hj).2.symm⟩;clear hj
   repeat' first|(with_reducible first|apply bH|apply da|apply bG|apply bQ|intro _)|simp[*]
   all_goals first
    |omega
    |(refine dH () ?_ ?_;(· exact kj);(refine cD ?_ ?_<;>first|trivial|(simp[*];done)))
 obtain⟨rfl,rfl⟩:=hf;have hR:(if (8:Int)<os.length then ((0:Int),(8:Int)) else if (jo Prod.fst gn os).2≠0 then jo Prod.fst gn os else if (wt.length:Int)≠os.length then (0,10) else iH (λ_=>lh bD.length) wt 0 (jG os.length bD.length zs))=(R1,R2):=kR;clear kR kN;by_cases a2:(8:Int)<os.length
 .rw[b8 a2] at hR;obtain⟨q1,q2⟩:=dq hR;subst q1 q2;clear hR
  repeat' first|(with_reducible first|apply bH|apply bT|apply bG|apply bQ|intro _)|simp[*,a2]
  all_goals first|omega|exact dc ab ab|assumption
 rw[bP a2] at hR;generalize hN:jo Prod.fst gn os=M at hR;obtain⟨M1,M2⟩:=M;have kM:di (gL Prod.fst gn os (os.drop 0) 0=(M1,M2)):=hN;have kR:=keep hR;clear hR hN
 repeat' first|(with_reducible first|apply bH|apply b7|apply bG|apply bQ|intro _)|simp[*,a2]
 refine fp (λ(k:Nat)=>k<=os.length/\gL Prod.fst gn os (os.drop k) k=(M1,M2)) [1] (λ(k:Nat)=>[(6,.w false false (.int .i64 k))]) [0] (λ(k:Nat)=>[]) (λ(k:Nat)=>os.length-k) (λ(_u:Unit)=>M1=0/\M2=0) [1] (λ(_u:Unit)=>[]) [0] (λ(_u:Unit)=>[]) (0) ⟨cG _,kM⟩ ae ae (λk hk=>?_) (λ_u hf=>?_)
 .obtain⟨hk,hj⟩:=hk;by_cases h5:k<os.length
  .have c1:=zdx bD os wt zs k h5 ab ko;rw[fE os k h5,gL] at hj;generalize j1 Prod.fst gn os k (nth os k)=e at hj c1;by_cases he:e=0
   .rw[b8 he] at hj;subst he;have kj:=keep hj;clear hj
    repeat' first|(with_reducible first|apply bH|apply cO|apply b7|apply bG|apply bQ|refine And.intro ?_ ?_|intro _)|simp[*,h5]|(refine bN (c1) ?_ ?_;· simp[*];done)
    all_goals first
     |omega
     |exact dc ab ab
     |(refine gu _ _ _ _ _ (k+1) _ ?_ ab ?_;(· trivial);(refine cD ?_ ?_<;>first|trivial|simp))
   .rw[bP he] at hj;obtain⟨g1,g2⟩:=dq hj;have h1:=(dq (show (M1,M2)=(R1,R2) by have h:=kR;unfold di at h;rw[b8 (show (M1,M2).2≠0 fromλh0=>he (g2.trans h0))] at h;exact h));have q1:(k:Int)=R1:=g1.trans h1.1;have q2:e=R2:=g2.trans h1.2;subst q1 q2;clear hj kR g1 g2 h1 kM
    repeat' first|(with_reducible first|apply bH|apply cO|apply b7|apply bT|apply bG|apply bQ|refine And.intro ?_ ?_|intro _)|simp[*,h5,he]|(refine bN (c1) ?_ ?_;· simp[*];done)
    all_goals first|omega|exact dc ab ab|assumption
  .have h8:k=os.length:=ab
   subst h8;rw[jb] at hj;have hj:((0:Int),(0:Int))=(M1,M2):=hj;have kj:di (M1=0/\M2=0):=keep ⟨(dq hj).1.symm,(dq hj).2.symm⟩;clear hj
   repeat' first|(with_reducible first|apply bH|apply da|apply bG|apply bQ|intro _)|simp[*]
   all_goals first
    |omega
    |(refine dH () ?_ ?_;(· exact kj);(refine cD ?_ ?_<;>first|trivial|(simp[*];done)))
 obtain⟨rfl,rfl⟩:=hf;have hR:(if (wt.length:Int)≠os.length then ((0:Int),(10:Int)) else iH (λ_=>lh bD.length) wt 0 (jG os.length bD.length zs))=(R1,R2):=kR;clear kR kM;by_cases a3:(wt.length:Int)=os.length
 rotate_left
 .rw[b8 a3] at hR;obtain⟨q1,q2⟩:=dq hR;subst q1 q2;clear hR
  repeat' first|(with_reducible first|apply bH|apply bT|apply bG|apply bQ|intro _)|simp[*,a3]
  all_goals first|omega|exact dc ab ab|assumption
 rw[bP (λh=>h a3)] at hR;have kT:di (iH (λ_=>lh bD.length) (wt.drop 0) 0 (jG os.length bD.length zs)=(R1,R2)):=hR;clear hR
 repeat' first|(with_reducible first|apply bH|apply b7|apply bG|apply bQ|intro _)|simp[*,a3]
 refine fp (λ(k:Nat)=>k<=wt.length/\iH (λ_=>lh bD.length) (wt.drop k) k (jG os.length bD.length zs)=(R1,R2)) [1] (λ(k:Nat)=>[(8,.w false false (.int .i64 k))]) [0] (λ(k:Nat)=>[]) (λ(k:Nat)=>wt.length-k) (λ(_u:Unit)=>jG os.length bD.length zs=(R1,R2)) [1] (λ(_u:Unit)=>[]) [0] (λ(_u:Unit)=>[]) (0) ⟨cG _,kT⟩ ae ae (λk hk=>?_) (λ_u hf=>?_)
 .obtain⟨hk,hj⟩:=hk;clear kT;by_cases h5:k<wt.length
  .have ao:=kw _ (iu h5);rw[fE wt k h5,Hx] at hj;unfold lh at hj;by_cases hl:((nth wt k).length:Int)=bD.length
   .rw[decide_eq_true hl] at hj
    have hj:(if dw (!((nth wt k).any λx=>!dj x 0 100000)) 2=0 then iH (λ_=>lh bD.length) (wt.drop (k+1)) (k+1) (jG os.length bD.length zs) else ((k:Int),dw (!((nth wt k).any λx=>!dj x 0 100000)) 2))=(R1,R2):=by
     rw[<-hj];simp only[fD,dw]
     cases ((nth wt k).any λx=>!dj x 0 100000)<;>rfl
    generalize hA:((nth wt k).any λx=>!dj x 0 100000)=A at hj;have kA:di (((nth wt k).drop 0).any (λx=>!dj x 0 100000)=A):=hA;have kj:=keep hj;clear hj hA
    repeat' first|(with_reducible first|apply bH|apply cO|apply b7|apply da|apply bG|refine df (id:=22) 10 mixed ai ?_|apply bQ|refine lH ?_ ?_|intro _)|simp[*,h5,hl]
    all_goals try first|omega|assumption
    refine fp (λ(j:Nat)=>j<=(nth wt k).length/\((nth wt k).drop j).any (λx=>!dj x 0 100000)=A) [1,8] (λ(j:Nat)=>[(9,.w false false (.int .i64 j))]) [0] (λ(j:Nat)=>[]) (λ(j:Nat)=>(nth wt k).length-j) (λ(_u:Unit)=>A=false) [1,8] (λ(_u:Unit)=>[]) [0] (λ(_u:Unit)=>[]) (0) ⟨cG _,kA⟩ ae ae (λj hk=>?_) (λ_u hf=>?_)
    .obtain⟨ay,h9⟩:=hk;clear kA;by_cases ha:j<(nth wt k).length
     .rw[fE _ j ha,yP] at h9;have c1:=pg (nth (nth wt k) j) 0 100000
      cases hb:dj (nth (nth wt k) j) 0 100000 with
      |true=>
       rw[hb] at h9 c1;have kj2:di (((nth wt k).drop (j+1)).any (λx=>!dj x 0 100000)=A):=keep h9;clear h9 kj hb
       repeat' first|(with_reducible first|apply bH|apply cO|apply b7|apply da|apply bG|apply bQ|refine And.intro ?_ ?_|refine lH ?_ ?_|intro _)|simp[*,h5,ha]|(refine bN (c1) ?_ ?_;· simp[*];done)
       all_goals first
        |omega
        |exact dc ab ab
        |(refine gu _ _ _ _ _ (j+1) _ ?_ ab ?_;(· trivial);(refine cD ?_ ?_<;>first|trivial|simp))
      |false=>
       rw[hb] at h9 c1
       have hA:A=true:=by rw[<-h9];rfl
       subst hA;have h1:((k:Int),(2:Int))=(R1,R2):=kj;obtain⟨q1,q2⟩:=dq h1;subst q1 q2;clear h9 kj hb h1
       repeat' first|(with_reducible first|apply bH|apply cO|apply b7|apply bT|apply da|apply bG|apply bQ|refine And.intro ?_ ?_|refine lH ?_ ?_|intro _)|simp[*,h5,ha]|(refine bN (c1) ?_ ?_;· simp[*];done)
       omega
     .have h8:j=(nth wt k).length:=ab
      subst h8;have kj2:di (A=false):=keep (by rw[<-h9];simp);clear h9 kj
      repeat' first|(with_reducible first|apply bH|apply da|apply bG|apply bQ|intro _)|simp[*,h5]
      all_goals first
       |omega
       |(refine dH () ?_ ?_;(· exact kj2);(refine cD ?_ ?_<;>first|trivial|simp))
    .subst hf;have kj2:di (iH (λ_=>lh bD.length) (wt.drop (k+1)) (k+1) (jG os.length bD.length zs)=(R1,R2)):=kj;clear kj kA
     repeat' first|(with_reducible first|apply bG|refine And.intro ?_ ?_|intro _)|simp[*,h5]
     all_goals first
      |omega
      |exact dc ab ab
      |(refine gu _ _ _ _ _ (k+1) _ ?_ ab ?_;(· trivial);(refine cD ?_ ?_<;>first|trivial|simp))
   .rw[decide_eq_false hl] at hj;have h1:((k:Int),(10:Int))=(R1,R2):=hj;obtain⟨q1,q2⟩:=dq h1;subst q1 q2;clear hj h1
    repeat' first|(with_reducible first|apply bH|apply cO|apply b7|apply bT|apply da|apply bG|refine df (id:=22) 10 mixed ai ?_|apply bQ|refine lH ?_ ?_|intro _)|simp[*,h5,hl]
    omega
  .have h8:k=wt.length:=ab
   subst h8;rw[jb,Hy] at hj;have kj:=keep hj;clear hj
   repeat' first|(with_reducible first|apply bH|apply da|apply bG|apply bQ|intro _)|simp[*,a3]
   all_goals first
    |omega
    |(refine dH () ?_ ?_;(· exact kj);(refine cD ?_ ?_<;>first|trivial|(simp[*];done)))
 clear kT;unfold jG at hf;by_cases a4:(64:Int)<zs.length
 .rw[b8 a4] at hf;obtain⟨q1,q2⟩:=dq hf;subst q1 q2;clear hf
  repeat' first|(with_reducible first|apply bH|apply bT|apply bG|apply bQ|intro _)|simp[*,a4]
  all_goals first|omega|exact dc ab ab|assumption
 rw[bP a4] at hf;have kS:di (gh (oP os.length bD.length zs) (zs.drop 0) 0=(R1,R2)):=hf;clear hf
 repeat' first|(with_reducible first|apply bH|apply b7|apply bG|apply bQ|intro _)|simp[*,a4]
 refine kX 1 (λ(k:Nat)=>k<=zs.length/\gh (oP os.length bD.length zs) (zs.drop k) k=(R1,R2)) [1] (λ(k:Nat)=>[(10,.w false false (.int .i64 k))]) [0] (λ(k:Nat)=>[]) (λ(k:Nat)=>zs.length-k) (λ(_u:Unit)=>R1=0/\R2=0) [] (λ(_u:Unit)=>[]) [0] (λ(_u:Unit)=>[]) (0) ⟨cG _,kS⟩ (eJ [] ae ae) (λk hk=>?_) (λ_u hf=>?_)
 .obtain⟨hk,hj⟩:=hk;clear kS;by_cases h5:k<zs.length
  .have c1:=BO (zs.take k) (by rw[lq];omega) (nth zs k);rw[yN hk] at c1;have w1:=zdy bD os wt zs ab (nth zs k).1;have w2:=BP bD os wt zs ab (nth zs k).2;rw[fE zs k h5,gh] at hj;have hE:oP os.length bD.length zs k (nth zs k)=fD [dw (dj (nth zs k).1 0 ((os.length:Int)-1)&&dj (nth zs k).2 0 ((bD.length:Int)-1)) 6,dw (!(hasB (zs.take k) (nth zs k))) 26]:=rfl;rw[hE] at hj;clear hE;unfold Tw.eD at c1;generalize dj (nth zs k).1 0 ((os.length:Int)-1)=g1 at *;generalize dj (nth zs k).2 0 ((bD.length:Int)-1)=g2 at *;generalize hasB (zs.take k) (nth zs k)=g3 at *
   have fin:∀e:Int,e≠0->((if e=0 then gh (oP os.length bD.length zs) (zs.drop (k+1)) (k+1) else ((k:Int),e))=(R1,R2))->(k:Int)=R1/\e=R2:=λe he h=>by rw[bP he] at h;simp_all
   cases g1 with
   |false=>
    obtain⟨q1,q2⟩:=fin 6 af hj;subst q1 q2;clear hj fin
    repeat' first|(with_reducible first|apply bH|apply cO|apply b7|apply bT|apply bG|apply bQ|refine And.intro ?_ ?_|intro _)|simp[*,h5,Tw.eD]|(refine bN (w1) ?_ ?_;· simp[*];done)
    omega
   |true=>
    cases g2 with
    |false=>
     obtain⟨q1,q2⟩:=fin 6 af hj;subst q1 q2;clear hj fin
     repeat' first|(with_reducible first|apply bH|apply cO|apply b7|apply bT|apply bG|apply bQ|refine And.intro ?_ ?_|intro _)|simp[*,h5,Tw.eD]|(refine bN (w1) ?_ ?_;· simp[*];done)|(refine bN (w2) ?_ ?_;· simp[*];done)
     omega
    |true=>
     cases g3 with
     |true=>
      obtain⟨q1,q2⟩:=fin 26 af hj;subst q1 q2;clear hj fin
      repeat' first|(with_reducible first|apply bH|apply cO|apply b7|apply bT|apply bG|refine df (id:=37) 6 mixed ai ?_|apply bQ|refine And.intro ?_ ?_|intro _)|simp[*,h5,Tw.eD]|(refine bN (w1) ?_ ?_;· simp[*];done)|(refine bN (w2) ?_ ?_;· simp[*];done)|(refine bN (c1) ?_ ?_;· simp[*];done)
      omega
     |false=>
      have kj:di (gh (oP os.length bD.length zs) (zs.drop (k+1)) (k+1)=(R1,R2)):=hj;clear hj fin
      repeat' first|(with_reducible first|apply bH|apply cO|apply b7|apply bG|refine df (id:=37) 6 mixed ai ?_|apply bQ|refine And.intro ?_ ?_|intro _)|simp[*,h5,Tw.eD]|(refine bN (w1) ?_ ?_;· simp[*];done)|(refine bN (w2) ?_ ?_;· simp[*];done)|(refine bN (c1) ?_ ?_;· simp[*];done)
      all_goals first
       |omega
       |exact dc ab ab
       |(refine gu _ _ _ _ _ (k+1) _ ?_ ab ?_;(· trivial);(refine eJ [] ?_ ?_<;>first|trivial|(simp[*];done)))
  .have h8:k=zs.length:=ab
   subst h8;rw[jb] at hj;have hj:((0:Int),(0:Int))=(R1,R2):=hj;have kj:di (R1=0/\R2=0):=keep ⟨(dq hj).1.symm,(dq hj).2.symm⟩;clear hj
   repeat' first|(with_reducible first|apply bH|apply da|apply bG|apply bQ|intro _)|simp[*,a4]
   all_goals first
    |omega
    |(refine dH () ?_ ?_;(· exact kj);(refine cD ?_ ?_<;>first|trivial|(simp[*];done)))
 .obtain⟨rfl,rfl⟩:=hf
  repeat' first|(with_reducible first|apply bH|apply bT|apply bG|intro _)|simp[*]
def cN(bD:List Car)(os:List Ord)(zs:List Par)(i k:Nat):Bool:=
 (decide ((nth os i).2.1<=(nth bD k).2.1)&&((nth bD k).2.2 || !(nth os i).2.2.1)) && !hasB zs ((i:Int),(k:Int))
theorem tE(r:Tw.RND)(i k:Nat)(hi:i<r.os.length)(hk:k<r.bD.length):nth (nth (dg r).fit i) k=cN r.bD r.os r.zs i k:=by
 have e1:nth (dg r).fit i=Tw.mU r i:=by
  unfold dg;simp[nth,dZ,hi]
 have e2:nth (Tw.mU r i) k=Tw.Cw (Tw.odW (Tw.odR r) i 0 0 0) k:=by
  show nth ((List.range r.bD.length).map _) k=_;simp[nth,dZ,hk]
 rw[e1,e2]
 have e3:Tw.qR r.zs (i:Int) (k:Int)=hasB r.zs ((i:Int),(k:Int)):=by
  unfold Tw.qR hasB
  grind
 show ((decide (((r.bD.getD k (default,0,false)).2.1)>=(r.os.getD i (default,0,false,0)).2.1)&&((r.bD.getD k (default,0,false)).2.2 || !(r.os.getD i (default,0,false,0)).2.2.1))&&(!Tw.qR r.zs i k))=_;rw[e3]
 have h1:r.bD.getD k (default,0,false)=nth r.bD k:=by rfl
 have h2:r.os.getD i (default,0,false,0)=nth r.os i:=by rfl
 rw[h1,h2];rfl
theorem CK(bD:List Car)(os:List Ord)(wt:List (List Int))(zs:List Par)(i k:Nat)(hi:i<os.length)(hk:k<bD.length)(hz:zs.length<100000):bX Tz.prog 60 [.agg [.sl bD.length (dG bD),.sl os.length (dE os),.sl wt.length (dU wt),.sl zs.length (dI zs)],.int .i64 i,.int .i64 k] (.bool (cN bD os zs i k)) true:=by
 have c1:=BO zs hz ((i:Int),(k:Int));unfold Tw.eD at c1;unfold cN;generalize hasB zs ((i:Int),(k:Int))=g at *;by_cases h1:(nth os i).2.1<=(nth bD k).2.1
 .rw[decide_eq_true h1]
  cases h2:(nth bD k).2.2 with
  |true=>
   simp only[iX,fQ];refine rcK Tz.func60 ?_;simp only[Tryz.results60,Tryz.ntmps60]
   repeat' first|(with_reducible first|apply bH|apply bT|apply bG|refine ny (id:=1) [0,1,2,3,4,5,6,7,8,9,10,11] [12,13] [[],[],[],[],[],[.new 0],[.new 0],[.new 0],[.new 0],[.new 0],[],[]] [[.new 0],[.new 1]] mixed ai ?_|refine And.intro ?_ ?_|intro _)|simp[*,hi,hk,h1,h2,Tw.fq,Tw.dY,Tw.eD]|(refine bN (c1) ?_ ?_;· simp[*];done)
   all_goals first|omega
  |false=>
   cases h3:(nth os i).2.2.1 with
   |true=>
    simp only[ik,jI,js,iJ];refine rcK Tz.func60 ?_;simp only[Tryz.results60,Tryz.ntmps60]
    repeat' first|(with_reducible first|apply bH|apply bT|apply bG|refine ny (id:=1) [0,1,2,3,4,5,6,7,8,9,10,11] [12,13] [[],[],[],[],[],[.new 0],[.new 0],[.new 0],[.new 0],[.new 0],[],[]] [[.new 0],[.new 1]] mixed ai ?_|refine And.intro ?_ ?_|intro _)|simp[*,hi,hk,h1,h2,h3,Tw.fq,Tw.dY,Tw.eD]|(refine bN (c1) ?_ ?_;· simp[*];done)
    all_goals first|omega
   |false=>
    simp only[jq,ju,fQ];refine rcK Tz.func60 ?_;simp only[Tryz.results60,Tryz.ntmps60]
    repeat' first|(with_reducible first|apply bH|apply bT|apply bG|refine ny (id:=1) [0,1,2,3,4,5,6,7,8,9,10,11] [12,13] [[],[],[],[],[],[.new 0],[.new 0],[.new 0],[.new 0],[.new 0],[],[]] [[.new 0],[.new 1]] mixed ai ?_|refine And.intro ?_ ?_|intro _)|simp[*,hi,hk,h1,h2,h3,Tw.fq,Tw.dY,Tw.eD]|(refine bN (c1) ?_ ?_;· simp[*];done)
    all_goals first|omega
 .rw[decide_eq_false h1];simp only[iJ];refine rcK Tz.func60 ?_;simp only[Tryz.results60,Tryz.ntmps60]
  repeat' first|(with_reducible first|apply bH|apply bT|apply bG|refine ny (id:=1) [0,1,2,3,4,5,6,7,8,9,10,11] [12,13] [[],[],[],[],[],[.new 0],[.new 0],[.new 0],[.new 0],[.new 0],[],[]] [[.new 0],[.new 1]] mixed ai ?_|refine And.intro ?_ ?_|intro _)|simp[*,hi,hk,h1,Tw.fq,Tw.dY,Tw.eD]|(refine bN (c1) ?_ ?_;· simp[*];done)
  all_goals first|omega
def br(bD:List Car)(os:List Ord)(zs:List Par)(i n:Nat):List Int:=((List.range n).filter (cN bD os zs i)).map λk=>((k:Nat):Int)
theorem zd0(bD:List Car)(os:List Ord)(zs:List Par)(i n:Nat):br bD os zs i (n+1)=if cN bD os zs i n then br bD os zs i n++[(n:Int)] else br bD os zs i n:=by
 unfold br;rw[JV,List.filter_append,DY]
 cases h:cN bD os zs i n<;>simp[h]
theorem sf(bD:List Car)(os:List Ord)(zs:List Par)(i n:Nat):(br bD os zs i n).length<=n:=by
 unfold br;rw[iI]
 grind
theorem zd1(bD:List Car)(os:List Ord)(wt:List (List Int))(zs:List Par)(i:Nat)(hi:i<os.length)(hc:bD.length<=1000)(hz:zs.length<100000):bX Tz.prog 59 [.agg [.sl bD.length (dG bD),.sl os.length (dE os),.sl wt.length (dU wt),.sl zs.length (dI zs)],.int .i64 i] (.sl (br bD os zs i bD.length).length (ints (br bD os zs i bD.length))) true:=by
 have c1:=λk hk=>CK bD os wt zs i k hi hk hz
 have e0:br bD os zs i 0=[]:=rfl;have eK:=zd0 bD os zs i;have hK:=sf bD os zs i;generalize br bD os zs i=K at *;generalize cN bD os zs i=F at *;have kk:=keep (And.intro c1 (And.intro eK hK))
 have e1:(K 0).length=0:=by rw[e0];rfl
 have e2:iA (K 0)=[]:=by rw[e0];rfl
 clear c1 eK hK e0 hi hz;refine rcK Tz.func59 ?_;simp only[Tryz.results59,Tryz.ntmps59]
 repeat' first|(with_reducible first|apply bH|apply bG|intro _)|simp[*]
 refine kX 2 (λ(k:Nat)=>k<=bD.length) [1,2] (λ(k:Nat)=>[(5,.msl 1 (K k).length 1 0 (K k).length),(6,.w false false (.int .i64 k))]) [0] (λ(k:Nat)=>[(1,iA (K k))]) (λ(k:Nat)=>bD.length-k) (λ(_u:Unit)=>True) [] (λ(_u:Unit)=>[(5,.msl 1 (K bD.length).length 1 0 (K bD.length).length)]) [] (λ(_u:Unit)=>[(1,iA (K bD.length))]) (0) (cG _) (eJ [] (by simp[e1,e2]) (by simp[e1,e2])) (λk hk=>?_) (λ_u hf=>?_)
 .clear e1 e2;by_cases h5:k<bD.length
  .obtain⟨c1,eK,hK⟩:=kk;have c:=c1 k h5;have e:=eK k;have a5:inI .i64 ((k:Int)+1):=dc ab ab
   have hz:k+1<=bD.length:=ab
   have hb:=hK k
   have ax:(K k).length+1<=1000000000:=ab
   clear c1 eK hK
   cases hf:F k with
   |true=>
    rw[hf] at c e;rw[b8 rfl] at e
    have e3:iA (K (k+1))=iA (K k)++[.w false false (.int .i64 k)]:=by rw[e,<-kQ];rfl
    have e4:(K (k+1)).length=(K k).length+1:=by rw[e];simp
    clear e hf
    repeat' first|(with_reducible first|apply bH|apply cO|apply b7|apply bG|apply bQ|refine And.intro ?_ ?_|intro _)|simp[*,h5,a5]|(refine bN (c) ?_ ?_;· simp[*];done)
    all_goals first
     |omega
     |assumption
     |(refine gu _ _ _ _ _ (k+1) _ ?_ ab ?_;(· exact hz);(refine eJ [] ?_ ?_<;>first|trivial|(simp[*,e3,e4];done)))
   |false=>
    rw[hf] at c e;rw[bP af] at e;clear hf
    repeat' first|(with_reducible first|apply bH|apply cO|apply b7|apply bG|apply bQ|refine And.intro ?_ ?_|intro _)|simp[*,h5,a5]|(refine bN (c) ?_ ?_;· simp[*];done)
    all_goals first
     |omega
     |assumption
     |(refine gu _ _ _ _ _ (k+1) _ ?_ ab ?_;(· exact hz);(refine eJ [] ?_ ?_<;>first|trivial|(simp[*,e];done)))
  .have h8:k=bD.length:=ab
   subst h8;clear kk
   repeat' first|(with_reducible first|apply bH|apply da|apply bG|apply bQ|intro _)|simp[*,h5]
   all_goals first
    |omega
    |(refine dH () ?_ ?_;(· trivial);(refine cD ?_ ?_<;>first|trivial|simp))
 .clear kk e1 e2
  repeat' first|(with_reducible first|apply bH|apply bT|apply bG|intro _)|simp[*]
theorem zd2(bD:List Car)(os:List Ord)(wt:List (List Int))(zs:List Par)(hr:bD.length<=1000)(a9:os.length<=1000)(a':wt.length<100000)(aa:zs.length<100000)(hc:∀x∈bD,x.1.size<1000000)(ho:∀x∈os,x.1.size<1000000)(hw:∀x∈wt,x.length<100000):bX Tz.prog 20 [.agg [.sl bD.length (dG bD),.sl os.length (dE os),.sl wt.length (dU wt),.sl zs.length (dI zs)]] (.int .i64 (j3 bD os wt zs).2) true:=by
 have c:=zdz bD os wt zs hr a9 a' aa hc ho hw;generalize j3 bD os wt zs=R at *;clear hc ho hw;refine rcK Tz.func20 ?_;simp only[Tryz.results20,Tryz.ntmps20]
 repeat' first|(with_reducible first|apply bH|apply bT|apply bG|refine And.intro ?_ ?_|intro _)|simp[*]|(refine bN (c) ?_ ?_;· simp[*];done)
end Go.Proofs.YthpkmilhiganjaaGreat
namespace Go.Proofs.YthpkmilhiganjaaGreat
open Go Go.Fi
noncomputable instance zgl:bI:=LD
section
variable(x:Rd)(os cs:List Int)
end
section
variable(r:Tw.RND)(h:ceR r=0)(os cs:List Int)
end
def cn(f:Nat->Bool):Nat->Nat
 |0=>0
 |n+1=>cn f n+if f n then 1 else 0
theorem mO{f g:Nat->Bool}:∀n,(∀k,k<n->f k=true->g k=true)->cn f n<=cn g n
 |0,_=>bS _
 |n+1,h=>by
  have ih:=mO n (λk hk=>h k ab);have h1:=h n ab;unfold cn
  grind
theorem km{f g:Nat->Bool}(n:Nat)(h:∀k,k<n->f k=g k):cn f n=cn g n:=
 Nat.le_antisymm (mO n λk hk e=>by rw[<-h k hk];exact e) (mO n λk hk e=>by rw[h k hk];exact e)
theorem lU(f g:Nat->Bool):∀n,cn f n=cn (λk=>f k&&g k) n+cn (λk=>f k && !g k) n
 |0=>rfl
 |n+1=>by
  have ih:=lU f g n;unfold cn
  cases f n<;>cases g n<;>simp<;>omega
theorem CN(f:Nat->Bool):∀n,cn f n<=n
 |0=>bS _
 |n+1=>by have:=CN f n;unfold cn;split<;>omega
theorem zd3{f:Nat->Bool}:∀n,(∀k,k<n->f k=true)->cn f n=n
 |0,_=>rfl
 |n+1,h=>by have:=zd3 n (λk hk=>h k ab);unfold cn;rw[h n ab,this];rfl
theorem CO{f:Nat->Bool}:∀n,(∀k,k<n->f k=false)->cn f n=0
 |0,_=>rfl
 |n+1,h=>by have:=CO n (λk hk=>h k ab);unfold cn;rw[h n ab,this];rfl
theorem sC(f:Nat->Bool)(c:Nat):∀n,c<n->f c=true->cn f n=cn (λk=>f k && !(decide (k=c))) n+1
 |n+1,hc,hf=>by
  unfold cn;by_cases e:c=n
  .subst e;rw[hf]
   have:=km (f:=f) (g:=λk=>f k && !(decide (k=c))) c (λk hk=>by
    have:¬k=c:=ab
    simp[this])
   rw[this];simp
  .have:=sC f c n ab hf
   have e2:¬n=c:=λh=>e h.symm
   rw[this];grind
theorem lV{f:Nat->Bool}(m:Nat)(g:Nat->Nat):∀(n:Nat)(h:Nat->Bool),(∀k,k<n->f k=true->g k<m/\h (g k)=true)->(∀j k,j<n->k<n->f j=true->f k=true->g j=g k->j=k)->cn f n<=cn h m
 |0,_,_,_=>cG _
 |n+1,h,h1,h2=>by
  rw[show cn f (n+1)=cn f n+if f n then 1 else 0 from rfl]
  cases hf:f n with
  |false=>
   have:=lV m g n h (λk hk=>h1 k ab) (λj k hj hk=>h2 j k ab ab);trivial
  |true=>
   obtain⟨b1,b2⟩:=h1 n ab hf;have e:=sC h (g n) m b1 b2
   have:=lV m g n (λk=>h k && !(decide (k=g n))) (λk hk hx=>by
    obtain⟨c1,c2⟩:=h1 k ab hx;refine⟨c1,?_⟩
    have:¬g k=g n:=λe=>by have:=h2 k n ab ab hx hf e;omega
    simp[c2,this]) (λj k hj hk=>h2 j k ab ab)
   simp_all
noncomputable instance zgm:bI:=LD
def bC(F:Nat->List Int):Nat->List (List Int)
 |0=>[[]]
 |i+1=>(bC F i).flatMap λp=>(p++[-1])::((F i).filter λf=>!(p.any λy=>decide (f=y))).map λf=>p++[f]
theorem sO{α:Type}[Inhabited α](l m:List α){j:Nat}(h:j<l.length):nth (l++m) j=nth l j:=by
 simp[nth,dZ,rA h]
theorem zd4{α:Type}[Inhabited α](l:List α)(i:α):nth (l++[i]) l.length=i:=by
 simp[nth,dZ]
theorem zd5{l:List Int}{v:Int}:v∈l↔∃j,j<l.length/\nth l j=v:=by
 constructor
 .intro h;obtain⟨j,hj,e⟩:=List.mem_iff_getElem.1 h;exact⟨j,hj,by rw[<-e];simp[nth,dZ,hj]⟩
 .rintro⟨j,hj,rfl⟩
  exact iu hj
theorem sR(F:Nat->List Int):∀(n:Nat)(plan:List Int),plan∈bC F n↔plan.length=n/\∀k,k<n->nth plan k=-1\/(nth plan k∈F k/\∀j,j<k->nth plan j≠nth plan k)
 |0,plan=>by
  unfold bC;simp
 |n+1,plan=>by
  have ih:=sR F n;unfold bC;rw[vt];constructor
  .rintro⟨p,hp,h⟩
   obtain⟨h1,h2⟩:=(ih p).1 hp
   obtain⟨v,hv,e⟩:∃v,(v=-1\/(v∈F n/\v ∉ p))/\plan=p++[v]:=by
    grind
   subst e;refine⟨by simp[h1],λk hk=>?_⟩;by_cases ag:k<n
   .rw[sO _ _ ab]
    rcases h2 k ag with h3|⟨h3,h4⟩
    .exact .inl h3
    .exact .inr ⟨h3,λj hj=>by rw[sO _ _ ab];exact h4 j hj⟩
   .have:k=p.length:=ab
    subst this;rw[zd4]
    rcases hv with hv|⟨aq,aw⟩
    .exact .inl hv
    .refine .inr ⟨by rw[h1];exact aq,λj hj e=>aw ?_⟩;rw[sO _ _ hj] at e;rw[<-e];exact iu hj
  .rintro⟨h1,h2⟩
   have hs:plan=plan.take n++[nth plan n]:=by
    have:plan.take (n+1)=plan.take n++[nth plan n]:=by
     rw[T4 ab];simp[nth,dZ,dP (show n<plan.length by omega)]
    rw[<-this,T5 ab]
   have tk:∀j,j<n->nth (plan.take n) j=nth plan j:=λj hj=>by
    simp[nth,dZ,j5,hj]
   refine⟨plan.take n,(ih _).2 ⟨by rw[lq];omega,λk hk=>?_⟩,?_⟩
   .rw[tk k hk]
    grind
   .rcases h2 n ab with h3|⟨h3,h4⟩
    .rw[h3] at hs
     grind
    .refine dM.2 (.inr (jH.2 ⟨nth plan n,rF.2 ⟨h3,?_⟩,hs.symm⟩));rw[qo,J1];intro y hy;obtain⟨j,hj,e⟩:=zd5.1 hy
     have a6:j<n:=by rw[lq] at hj;omega
     rw[tk j a6] at e;have:=h4 j a6
     grind
def m6(r:Tw.RND)(i:Nat):List Int:=br r.bD r.os r.zs i r.bD.length
theorem C3(r:Tw.RND)(i:Nat)(v:Int):v∈m6 r i↔∃k:Nat,k<r.bD.length/\v=(k:Int)/\cN r.bD r.os r.zs i k=true:=by
 unfold m6 br;rw[jH]
 grind
noncomputable def bu(r:Tw.RND):List (List Int):=bC (m6 r) r.os.length
theorem fz(r:Tw.RND)(plan:List Int):eG (dg r) plan↔plan∈bu r:=by
 unfold bu;rw[sR];constructor
 .intro h;have hl:plan.length=r.os.length:=h.len;refine⟨hl,λk hk=>?_⟩;by_cases hn:nth plan k=-1
  .exact .inl hn
  .have h1:=(h.at_ k ab).resolve_left hn;have h2:=h.fit k ab hn;have hc:nth plan k<(r.bD.length:Int):=h1.2;refine .inr ⟨(C3 r k _).2 ⟨(nth plan k).toNat,ab,ab,?_⟩,h.once k ab hn⟩;rw[<-tE r k _ hk ab];exact h2
 .rintro⟨hl,h⟩
  have at_:∀k,k<plan.length->nth plan k≠-1->∃c:Nat,c<r.bD.length/\nth plan k=(c:Int)/\cN r.bD r.os r.zs k c=true:=λk hk hn=>
   (C3 r k _).1 ((h k ab).resolve_left hn).1
  refine⟨⟨hl,λk hk=>?_⟩,λk hk hn=>?_,λk hk hn=>((h k ab).resolve_left hn).2⟩
  .by_cases hn:nth plan k=-1
   .exact .inl hn
   .obtain⟨c,hc,e,_⟩:=at_ k hk hn;refine .inr ⟨ab,?_⟩;show nth plan k<(r.bD.length:Int);omega
  .obtain⟨c,hc,e,hf⟩:=at_ k hk hn;rw[e,jr,tE r k c ab hc];exact hf
def rcQ(os:List Ord)(wt:List (List Int))(plan:List Int):Nat->Int
 |0=>0
 |k+1=>rcQ os wt plan k+if nth plan k=-1 then fV (nth os k).2.2.2.toNat else nth (nth wt k) (nth plan k).toNat
def rcS(os:List Ord)(wt:List (List Int))(plan:List Int):Int:=rcQ os wt plan plan.length
def eA(c:List Int->Int):List (List Int)->Int->Int
 |[],b=>b
 |p::r,b=>eA c r (if b<c p then c p else b)
theorem C4(c:List Int->Int):∀(l:List (List Int))(b:Int),(eA c l b=b\/∃p,p∈l/\eA c l b=c p)/\b<=eA c l b/\∀p,p∈l->c p<=eA c l b
 |[],b=>⟨.inl rfl,Int.le_refl _,λp hp=>absurd hp ae⟩
 |q::r,b=>by
  obtain⟨h1,h2,h3⟩:=C4 c r (if b<c q then c q else b);unfold eA
  grind
def eB(os:List Ord)(p:Int)(plan:List Int):Int:=(cn (λi=>!(decide (nth plan i=-1))&&decide (p<=(nth os i).2.2.2)) plan.length:Nat)
noncomputable def b9(r:Tw.RND)(p:Int):Int:=eA (eB r.os p) (bu r) 0
noncomputable instance zgn:bI:=LD
end Go.Proofs.YthpkmilhiganjaaGreat
