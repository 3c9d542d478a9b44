/- Lemmas. -/
import Derived.Test.YthpkmilhiganjaaGreatPDb
import Derived.Test.YthpkmilhiganjaaGreatPDa
set_option linter.all false
set_option maxHeartbeats 32000000
set_option maxRecDepth 100000
namespace Go.Proofs.YthpkmilhiganjaaGreat
open Go Go.Fi
variable[av]
theorem eO(s:ByteArray)(hs:s.size<1000000):aC Tz.prog 134 [.str s] (.bool (fF s)) true:=by
 refine rcK Tz.func134 ?_;simp only[Tryz.results134,Tryz.ntmps134]
 repeat' first|(with_reducible first|apply ai|apply au|apply az|apply af|apply al|refine wS ?_ ?_|refine fz ?_ ?_|intro _)|(simp[*])
 .exact Oj (by omega)
 rotate_left
 .rename_i h0;exact GD (by have:=of_decide_eq_true h0;omega)
 rename_i hA hB
 have hg:s.size≠0:=by have:=of_decide_eq_false hA;omega
 refine wV (λk:Nat=>k<=s.size/\lI s k=true) [0] (λk=>[(3,.w false false (.int .i64 k))]) (λ_=>[]) (λk=>s.size-k)
  (λ_:Unit=>lI s s.size=true) [0] (λ_=>[]) (λ_=>[]) 0 ⟨aK _,rfl⟩ (by simp) (by simp) (λk hk=>?_) (λ_ hf=>?_)
 .obtain⟨hk,hf⟩:=hk
  repeat' first|(with_reducible first|apply ai|apply aF|apply au|apply az|apply aL|apply af|apply al|refine And.intro ?_ ?_|refine wS ?_ ?_|refine wR ?_ ?_|refine fz ?_ ?_|intro _)|(simp[*])
  all_goals first
   |exact aG (by omega) (by omega)
   |omega
   |(refine nx (k+1) ?_ ?_;(· refine⟨by omega,?_⟩;unfold lI;rw[hf];clear hf;simp[okB,uH] at *;omega);(refine aD ?_ ?_<;>first|trivial|(simp[*];done)))
   |(refine aZ () ?_ ?_;(· rw[show s.size=k by omega];exact hf);(refine aD ?_ ?_<;>first|trivial|(simp[*];done)))
   |(unfold fF;rw[Bn s k (by clear hf;simp[okB,uH] at *;omega) s.size (by omega)];rfl)
 .repeat' first|(with_reducible first|apply ai|apply az|apply af|intro _)|(simp[*])
  all_goals (rw[GF hf hg];simp;omega)
theorem kJ(ab:List Car)(os:List Ord)(wt:List (List Int))(zs:List Par)(i:Nat)(hi:i<ab.length)(hl:ab.length<=1000)(hs:∀x∈ab,x.1.size<1000000):aC Tz.prog 108 [.agg [.sl ab.length (aS ab),.sl os.length (aR os),.sl wt.length (a8 wt),.sl zs.length (aT zs)],.int .i64 i] (.int .i64 (g7 Prod.fst fG ab i (nth ab i))) true:=by
 have c1:=eO (nth ab i).1 (hs _ (eJ hi));have c2:=ma (nth ab i).2.1 1 8;generalize hR:g7 Prod.fst fG ab i (nth ab i)=R;unfold g7 fG at hR;clear hs
 cases hb:fF (nth ab i).1 with
 |false=>
  rw[hb] at c1 hR;have hR:(4:Int)=R:=hR;subst hR;clear hb c2;refine rcK Tz.func108 ?_;simp only[Tryz.results108,Tryz.ntmps108]
  repeat' first|(with_reducible first|apply ai|apply az|apply af|apply al|refine And.intro ?_ ?_|refine cw (c1) ?_|intro _)|(simp[*,hi])|(refine ae (c1) ?_ ?_;(· (simp[*];done)))
  all_goals first|omega
 |true=>
  rw[hb] at c1 hR;clear hb;have hR:cX [ba (!((ab.take i).any λy=>decide (y.1=(nth ab i).1))) 5,ba (aU (nth ab i).2.1 1 8) 2]=R:=hR;generalize hA:((ab.take i).any λy=>decide (y.1=(nth ab i).1))=A at hR;have kA:aN (((ab.take i).drop 0).any (λy=>decide (y.1=(nth ab i).1))=A):=hA;have kR:=keep hR;clear hA hR;refine rcK Tz.func108 ?_;simp only[Tryz.results108,Tryz.ntmps108]
  repeat' first|(with_reducible first|apply ai|apply au|apply af|apply al|refine And.intro ?_ ?_|refine cw (c1) ?_|intro _)|(simp[*,hi])|(refine ae (c1) ?_ ?_;(· (simp[*];done)))
  all_goals try first|omega|assumption
  refine bQ (λ(k:Nat)=>k<=i/\((ab.take i).drop k).any (λy=>decide (y.1=(nth ab i).1))=A) [1,2] (λ(k:Nat)=>[(5,.w false false (.int .i64 k))]) [0] (λ(k:Nat)=>[]) (λ(k:Nat)=>i-k) (λ(_u:Unit)=>A=false) [1,2] (λ(_u:Unit)=>[]) [0] (λ(_u:Unit)=>[]) (0) ⟨aK _,kA⟩ (by simp) (by simp) (λk hk=>?_) (λ_u hf=>?_)
  .obtain⟨hk,hj⟩:=hk;clear c1;by_cases h3:k<i
   .have hh:k<ab.length:=by omega
    have h9:k<(ab.take i).length:=by rw[ia];omega
    rw[dg _ k h9,mX] at hj
    have e:nth (ab.take i) k=nth ab k:=by
     simp[nth,bS,jk,h3]
    rw[e] at hj;have kj:=keep hj;clear hj e h9;by_cases hn:(nth ab k).1=(nth ab i).1
    .have hA:A=true:=by have h:=kj;unfold aN at h;rw[<-h];simp[hn]
     subst hA;have hR:(5:Int)=R:=kR;subst hR;clear kj kR kA
     repeat' first|(with_reducible first|apply ai|apply aF|apply au|apply az|apply af|refine aQ (id:=6) 13 mixed (by decide +kernel) ?_|apply al|intro _)|(simp[*,h3,hh,hi,hn])
     all_goals first|omega|exact aG (by omega) (by omega)
    .have kj2:aN (((ab.take i).drop (k+1)).any (λy=>decide (y.1=(nth ab i).1))=A):=by have h:=kj;unfold aN at h ⊢;rw[<-h];simp[hn]
     clear kj kA
     repeat' first|(with_reducible first|apply ai|apply aF|apply au|apply af|refine aQ (id:=6) 13 mixed (by decide +kernel) ?_|apply al|refine And.intro ?_ ?_|intro _)|(simp[*,h3,hh,hi,hn])
     all_goals first
      |omega
      |exact aG (by omega) (by omega)
      |(refine nx (k+1) ?_ ?_;(· exact⟨by omega,kj2⟩);(refine aD ?_ ?_<;>first|trivial|(simp[*];done)))
   .have h5:k=i:=by omega
    subst h5;have h8:aN (A=false):=keep (by rw[<-hj];simp);clear hj kA
    repeat' first|(with_reducible first|apply ai|apply aL|apply af|apply al|intro _)|(simp[*])
    all_goals first
     |omega
     |(refine aZ () ?_ ?_;(· exact h8);(refine aD ?_ ?_<;>first|trivial|(simp[*];done)))
  .subst hf;clear kA c1
   cases hw:aU (nth ab i).2.1 1 8 with
   |true=>
    rw[hw] at c2 kR;have hR:(0:Int)=R:=kR;subst hR;clear kR hw
    repeat' first|(with_reducible first|apply ai|apply au|apply az|apply af|apply al|refine And.intro ?_ ?_|refine cw (c2) ?_|intro _)|(simp[*,hi])|(refine ae (c2) ?_ ?_;(· (simp[*];done)))
    all_goals first|omega
   |false=>
    rw[hw] at c2 kR;have hR:(2:Int)=R:=kR;subst hR;clear kR hw
    repeat' first|(with_reducible first|apply ai|apply az|apply af|apply al|refine And.intro ?_ ?_|refine cw (c2) ?_|intro _)|(simp[*,hi])|(refine ae (c2) ?_ ?_;(· (simp[*];done)))
    all_goals first|omega
theorem kK(ab:List Car)(os:List Ord)(wt:List (List Int))(zs:List Par)(i:Nat)(hi:i<os.length)(hl:os.length<=1000)(hs:∀x∈os,x.1.size<1000000):aC Tz.prog 109 [.agg [.sl ab.length (aS ab),.sl os.length (aR os),.sl wt.length (a8 wt),.sl zs.length (aT zs)],.int .i64 i] (.int .i64 (g7 Prod.fst eH os i (nth os i))) true:=by
 have c1:=eO (nth os i).1 (hs _ (eJ hi));have c2:=ma (nth os i).2.1 1 8;have c3:=ma (nth os i).2.2.2 0 6;generalize hR:g7 Prod.fst eH os i (nth os i)=R;unfold g7 eH at hR;clear hs
 cases hb:fF (nth os i).1 with
 |false=>
  rw[hb] at c1 hR;have hR:(4:Int)=R:=hR;subst hR;clear hb c2 c3;refine rcK Tz.func109 ?_;simp only[Tryz.results109,Tryz.ntmps109]
  repeat' first|(with_reducible first|apply ai|apply az|apply af|apply al|refine And.intro ?_ ?_|refine cw (c1) ?_|intro _)|(simp[*,hi])|(refine ae (c1) ?_ ?_;(· (simp[*];done)))
  all_goals first|omega
 |true=>
  rw[hb] at c1 hR;clear hb;have hR:cX [ba (!((os.take i).any λy=>decide (y.1=(nth os i).1))) 5,ba (aU (nth os i).2.1 1 8&&aU (nth os i).2.2.2 0 6) 2]=R:=hR;generalize hA:((os.take i).any λy=>decide (y.1=(nth os i).1))=A at hR;have kA:aN (((os.take i).drop 0).any (λy=>decide (y.1=(nth os i).1))=A):=hA;have kR:=keep hR;clear hA hR;refine rcK Tz.func109 ?_;simp only[Tryz.results109,Tryz.ntmps109]
  repeat' first|(with_reducible first|apply ai|apply au|apply af|apply al|refine And.intro ?_ ?_|refine cw (c1) ?_|intro _)|(simp[*,hi])|(refine ae (c1) ?_ ?_;(· (simp[*];done)))
  all_goals try first|omega|assumption
  refine bQ (λ(k:Nat)=>k<=i/\((os.take i).drop k).any (λy=>decide (y.1=(nth os i).1))=A) [1,2] (λ(k:Nat)=>[(5,.w false false (.int .i64 k))]) [0] (λ(k:Nat)=>[]) (λ(k:Nat)=>i-k) (λ(_u:Unit)=>A=false) [1,2] (λ(_u:Unit)=>[]) [0] (λ(_u:Unit)=>[]) (0) ⟨aK _,kA⟩ (by simp) (by simp) (λk hk=>?_) (λ_u hf=>?_)
  .obtain⟨hk,hj⟩:=hk;clear c1;by_cases h3:k<i
   .have hh:k<os.length:=by omega
    have h9:k<(os.take i).length:=by rw[ia];omega
    rw[dg _ k h9,mX] at hj
    have e:nth (os.take i) k=nth os k:=by
     simp[nth,bS,jk,h3]
    rw[e] at hj;have kj:=keep hj;clear hj e h9;by_cases hn:(nth os k).1=(nth os i).1
    .have hA:A=true:=by have h:=kj;unfold aN at h;rw[<-h];simp[hn]
     subst hA;have hR:(5:Int)=R:=kR;subst hR;clear kj kR kA
     repeat' first|(with_reducible first|apply ai|apply aF|apply au|apply az|apply af|refine aQ (id:=6) 13 mixed (by decide +kernel) ?_|apply al|intro _)|(simp[*,h3,hh,hi,hn])
     all_goals first|omega|exact aG (by omega) (by omega)
    .have kj2:aN (((os.take i).drop (k+1)).any (λy=>decide (y.1=(nth os i).1))=A):=by have h:=kj;unfold aN at h ⊢;rw[<-h];simp[hn]
     clear kj kA
     repeat' first|(with_reducible first|apply ai|apply aF|apply au|apply af|refine aQ (id:=6) 13 mixed (by decide +kernel) ?_|apply al|refine And.intro ?_ ?_|intro _)|(simp[*,h3,hh,hi,hn])
     all_goals first
      |omega
      |exact aG (by omega) (by omega)
      |(refine nx (k+1) ?_ ?_;(· exact⟨by omega,kj2⟩);(refine aD ?_ ?_<;>first|trivial|(simp[*];done)))
   .have h5:k=i:=by omega
    subst h5;have h8:aN (A=false):=keep (by rw[<-hj];simp);clear hj kA
    repeat' first|(with_reducible first|apply ai|apply aL|apply af|apply al|intro _)|(simp[*])
    all_goals first
     |omega
     |(refine aZ () ?_ ?_;(· exact h8);(refine aD ?_ ?_<;>first|trivial|(simp[*];done)))
  .subst hf;clear kA c1
   cases hw:aU (nth os i).2.1 1 8 with
   |true=>
    cases hv:aU (nth os i).2.2.2 0 6 with
    |true=>
     rw[hw,hv] at kR;rw[hw] at c2;rw[hv] at c3;have hR:(0:Int)=R:=kR;subst hR;clear kR hw hv
     repeat' first|(with_reducible first|apply ai|apply au|apply az|apply af|apply al|refine And.intro ?_ ?_|refine cw (c2) ?_|refine cw (c3) ?_|intro _)|(simp[*,hi])|(refine ae (c2) ?_ ?_;(· (simp[*];done)))|(refine ae (c3) ?_ ?_;(· (simp[*];done)))
     all_goals first|omega
    |false=>
     rw[hw,hv] at kR;rw[hw] at c2;rw[hv] at c3;have hR:(2:Int)=R:=kR;subst hR;clear kR hw hv
     repeat' first|(with_reducible first|apply ai|apply az|apply af|apply al|refine And.intro ?_ ?_|refine cw (c2) ?_|refine cw (c3) ?_|intro _)|(simp[*,hi])|(refine ae (c2) ?_ ?_;(· (simp[*];done)))|(refine ae (c3) ?_ ?_;(· (simp[*];done)))
     all_goals first|omega
   |false=>
    rw[hw] at c2 kR;have hR:(2:Int)=R:=kR;subst hR;clear kR hw c3
    repeat' first|(with_reducible first|apply ai|apply az|apply af|apply al|refine And.intro ?_ ?_|refine cw (c2) ?_|intro _)|(simp[*,hi])|(refine ae (c2) ?_ ?_;(· (simp[*];done)))
    all_goals first|omega
def hasB(l:List Par)(v:Par):Bool:=l.any λy=>decide (v.1=y.1)&&decide (v.2=y.2)
theorem eQ(l:List Par)(hl:l.length<100000)(v:Par):aC Tz.prog 110 [.sl l.length (aT l),.agg (Tw.cu v)] (.bool (hasB l v)) true:=by
 unfold hasB;generalize hR:(l.any λy=>decide (v.1=y.1)&&decide (v.2=y.2))=R;have kR:aN ((l.drop 0).any (λy=>decide (v.1=y.1)&&decide (v.2=y.2))=R):=keep hR;clear hR;obtain⟨v1,v2⟩:=v;simp only[Tw.cu];refine rcK Tz.func110 ?_;simp only[Tryz.results110,Tryz.ntmps110]
 repeat' first|(with_reducible first|apply ai|apply af|intro _)|(simp[*])
 refine bQ (λ(k:Nat)=>k<=l.length/\(l.drop k).any (λy=>decide (v1=y.1)&&decide (v2=y.2))=R) [0,3] (λ(k:Nat)=>[(5,.w false false (.int .i64 k))]) [0] (λ(k:Nat)=>[]) (λ(k:Nat)=>l.length-k) (λ(_u:Unit)=>R=false) [] (λ(_u:Unit)=>[]) [0] (λ(_u:Unit)=>[]) (0) ⟨aK _,kR⟩ (by simp) (by simp) (λk hk=>?_) (λ_u hf=>?_)
 .obtain⟨hk,hj⟩:=hk;by_cases h3:k<l.length
  .rw[dg l k h3,mX] at hj;by_cases h1:(nth l k).1=v1
   .by_cases h2:(nth l k).2=v2
    .have hR:R=true:=by rw[<-hj];simp[h1,h2]
     subst hR;clear hj kR
     repeat' first|(with_reducible first|apply ai|apply aF|apply au|apply az|apply af|refine aQ (id:=4) 6 mixed (by decide +kernel) ?_|apply al|refine And.intro ?_ ?_|intro _)|(simp[*,h3,h1,h2,Tw.cu])
     all_goals first|omega|exact aG (by omega) (by omega)
    .have hr:¬v2=(nth l k).2:=λe=>h2 e.symm
     have kj:aN ((l.drop (k+1)).any (λy=>decide (v1=y.1)&&decide (v2=y.2))=R):=keep (by rw[<-hj];simp[hr]);clear hj kR hr
     repeat' first|(with_reducible first|apply ai|apply aF|apply au|apply af|refine aQ (id:=4) 6 mixed (by decide +kernel) ?_|apply al|refine And.intro ?_ ?_|intro _)|(simp[*,h3,h1,h2,Tw.cu])
     all_goals first
      |omega
      |exact aG (by omega) (by omega)
      |(refine nx (k+1) ?_ ?_;(· exact⟨by omega,kj⟩);(refine aD ?_ ?_<;>first|trivial|(simp[*];done)))
   .have hq:¬v1=(nth l k).1:=λe=>h1 e.symm
    have kj:aN ((l.drop (k+1)).any (λy=>decide (v1=y.1)&&decide (v2=y.2))=R):=keep (by rw[<-hj];simp[hq]);clear hj kR hq
    repeat' first|(with_reducible first|apply ai|apply aF|apply au|apply af|refine aQ (id:=4) 6 mixed (by decide +kernel) ?_|apply al|refine And.intro ?_ ?_|intro _)|(simp[*,h3,h1,Tw.cu])
    all_goals first
     |omega
     |exact aG (by omega) (by omega)
     |(refine nx (k+1) ?_ ?_;(· exact⟨by omega,kj⟩);(refine aD ?_ ?_<;>first|trivial|(simp[*];done)))
  .have h5:k=l.length:=by omega
   subst h5;have kj:aN (R=false):=keep (by rw[<-hj];simp);clear hj kR
   repeat' first|(with_reducible first|apply ai|apply aL|apply af|apply al|intro _)|(simp[*])
   all_goals first
    |(refine aZ () ?_ ?_;(· exact kj);(refine aD ?_ ?_<;>first|trivial|(simp[*];done)))
 .subst hf
  repeat' first|(with_reducible first|apply ai|apply az|apply af|intro _)|(simp[*])
theorem kO(ab:List Car)(os:List Ord)(wt:List (List Int))(zs:List Par)(ho:os.length<100000)(n:Int):aC Tz.prog 43 [.agg [.sl ab.length (aS ab),.sl os.length (aR os),.sl wt.length (a8 wt),.sl zs.length (aT zs)],.int .i64 n] (.bool (aU n 0 ((os.length:Int)-1))) true:=by
 refine rcK Tz.func43 ?_;simp only[Tryz.results43,Tryz.ntmps43]
 repeat' first|(with_reducible first|apply ai|apply az|apply af|refine And.intro ?_ ?_|refine cw (ma _ _ _) ?_|intro _)|(simp[*])|(refine ae (ma _ _ _) ?_ ?_;(· (simp[*];done)))
 all_goals first|omega|exact aG (by omega) (by omega)
theorem eW(ab:List Car)(os:List Ord)(wt:List (List Int))(zs:List Par)(ho:ab.length<100000)(n:Int):aC Tz.prog 45 [.agg [.sl ab.length (aS ab),.sl os.length (aR os),.sl wt.length (a8 wt),.sl zs.length (aT zs)],.int .i64 n] (.bool (aU n 0 ((ab.length:Int)-1))) true:=by
 refine rcK Tz.func45 ?_;simp only[Tryz.results45,Tryz.ntmps45]
 repeat' first|(with_reducible first|apply ai|apply az|apply af|refine And.intro ?_ ?_|refine cw (ma _ _ _) ?_|intro _)|(simp[*])|(refine ae (ma _ _ _) ?_ ?_;(· (simp[*];done)))
 all_goals first|omega|exact aG (by omega) (by omega)
theorem kP(ab:List Car)(os:List Ord)(wt:List (List Int))(zs:List Par)(a9:ab.length<=1000)(aa:os.length<=1000)(ag:wt.length<100000)(ao:zs.length<100000)(hc:∀x∈ab,x.1.size<1000000)(ho:∀x∈os,x.1.size<1000000)(hw:∀x∈wt,x.length<100000):aC Tz.prog 58 [.agg [.sl ab.length (aS ab),.sl os.length (aR os),.sl wt.length (a8 wt),.sl zs.length (aT zs)]] (.tup [.int .i64 (g9 ab os wt zs).1,.int .i64 (g9 ab os wt zs).2]) true:=by
 generalize hR:g9 ab os wt zs=R;obtain⟨R1,R2⟩:=R;unfold g9 at hR;have kc:=keep hc;have ko:=keep ho;have kw:=keep hw;clear hc ho hw;by_cases a1:(8:Int)<ab.length
 .rw[aB a1] at hR;obtain⟨q1,q2⟩:=br hR;subst q1 q2;clear hR;refine rcK Tz.func58 ?_;simp only[Tryz.results58,Tryz.ntmps58]
  repeat' first|(with_reducible first|apply ai|apply az|apply af|apply al|intro _)|(simp[*,a1])
  all_goals first|omega|exact aG (by omega) (by omega)|assumption
 rw[ar a1] at hR;generalize hN:gC Prod.fst fG ab=N at hR;obtain⟨N1,N2⟩:=N;have kN:aN (fq Prod.fst fG ab (ab.drop 0) 0=(N1,N2)):=hN;have kR:=keep hR;clear hR hN;refine rcK Tz.func58 ?_;simp only[Tryz.results58,Tryz.ntmps58]
 repeat' first|(with_reducible first|apply ai|apply au|apply af|apply al|intro _)|(simp[*,a1])
 refine bQ (λ(k:Nat)=>k<=ab.length/\fq Prod.fst fG ab (ab.drop k) k=(N1,N2)) [1] (λ(k:Nat)=>[(4,.w false false (.int .i64 k))]) [0] (λ(k:Nat)=>[]) (λ(k:Nat)=>ab.length-k) (λ(_u:Unit)=>N1=0/\N2=0) [1] (λ(_u:Unit)=>[]) [0] (λ(_u:Unit)=>[]) (0) ⟨aK _,kN⟩ (by simp) (by simp) (λk hk=>?_) (λ_u hf=>?_)
 .obtain⟨hk,hj⟩:=hk;by_cases h3:k<ab.length
  .have c1:=kJ ab os wt zs k h3 (by omega) kc;rw[dg ab k h3,fq] at hj;generalize g7 Prod.fst fG ab k (nth ab k)=e at hj c1;by_cases he:e=0
   .rw[aB he] at hj;subst he;have kj:=keep hj;clear hj
    repeat' first|(with_reducible first|apply ai|apply aF|apply au|apply af|apply al|refine And.intro ?_ ?_|refine cw (c1) ?_|intro _)|(simp[*,h3])|(refine ae (c1) ?_ ?_;(· (simp[*];done)))
    all_goals first
     |omega
     |exact aG (by omega) (by omega)
     |(refine nx (k+1) ?_ ?_;(· exact⟨by omega,kj⟩);(refine aD ?_ ?_<;>first|trivial|(simp[*];done)))
   .rw[ar he] at hj;obtain⟨g1,g2⟩:=br hj;have h1:=(br (show (N1,N2)=(R1,R2) by have h:=kR;unfold aN at h;rw[aB (show (N1,N2).2≠0 fromλh0=>he (g2.trans h0))] at h;exact h));have q1:(k:Int)=R1:=g1.trans h1.1;have q2:e=R2:=g2.trans h1.2;subst q1 q2;clear hj kR g1 g2 h1 kN
    repeat' first|(with_reducible first|apply ai|apply aF|apply au|apply az|apply af|apply al|refine And.intro ?_ ?_|refine cw (c1) ?_|intro _)|(simp[*,h3,he])|(refine ae (c1) ?_ ?_;(· (simp[*];done)))
    all_goals first|omega|exact aG (by omega) (by omega)|assumption
  .have h5:k=ab.length:=by omega
   subst h5;rw[fg] at hj;have hj:((0:Int),(0:Int))=(N1,N2):=hj;have kj:aN (N1=0/\N2=0):=keep ⟨(br hj).1.symm,(br hj).2.symm⟩;clear hj
   repeat' first|(with_reducible first|apply ai|apply aL|apply af|apply al|intro _)|(simp[*])
   all_goals first
    |omega
    |(refine aZ () ?_ ?_;(· exact kj);(refine aD ?_ ?_<;>first|trivial|(simp[*];done)))
 obtain⟨rfl,rfl⟩:=hf;have hR:(if (8:Int)<os.length then ((0:Int),(8:Int)) else if (gC Prod.fst eH os).2≠0 then gC Prod.fst eH os else if (wt.length:Int)≠os.length then (0,10) else fU (λ_=>gj ab.length) wt 0 (g8 os.length ab.length zs))=(R1,R2):=kR;clear kR kN;by_cases a2:(8:Int)<os.length
 .rw[aB a2] at hR;obtain⟨q1,q2⟩:=br hR;subst q1 q2;clear hR
  repeat' first|(with_reducible first|apply ai|apply az|apply af|apply al|intro _)|(simp[*,a2])
  all_goals first|omega|exact aG (by omega) (by omega)|assumption
 rw[ar a2] at hR;generalize hN:gC Prod.fst eH os=M at hR;obtain⟨M1,M2⟩:=M;have kM:aN (fq Prod.fst eH os (os.drop 0) 0=(M1,M2)):=hN;have kR:=keep hR;clear hR hN
 repeat' first|(with_reducible first|apply ai|apply au|apply af|apply al|intro _)|(simp[*,a2])
 refine bQ (λ(k:Nat)=>k<=os.length/\fq Prod.fst eH os (os.drop k) k=(M1,M2)) [1] (λ(k:Nat)=>[(6,.w false false (.int .i64 k))]) [0] (λ(k:Nat)=>[]) (λ(k:Nat)=>os.length-k) (λ(_u:Unit)=>M1=0/\M2=0) [1] (λ(_u:Unit)=>[]) [0] (λ(_u:Unit)=>[]) (0) ⟨aK _,kM⟩ (by simp) (by simp) (λk hk=>?_) (λ_u hf=>?_)
 .obtain⟨hk,hj⟩:=hk;by_cases h3:k<os.length
  .have c1:=kK ab os wt zs k h3 (by omega) ko;rw[dg os k h3,fq] at hj;generalize g7 Prod.fst eH os k (nth os k)=e at hj c1;by_cases he:e=0
   .rw[aB he] at hj;subst he;have kj:=keep hj;clear hj
    repeat' first|(with_reducible first|apply ai|apply aF|apply au|apply af|apply al|refine And.intro ?_ ?_|refine cw (c1) ?_|intro _)|(simp[*,h3])|(refine ae (c1) ?_ ?_;(· (simp[*];done)))
    all_goals first
     |omega
     |exact aG (by omega) (by omega)
     |(refine nx (k+1) ?_ ?_;(· exact⟨by omega,kj⟩);(refine aD ?_ ?_<;>first|trivial|(simp[*];done)))
   .rw[ar he] at hj;obtain⟨g1,g2⟩:=br hj;have h1:=(br (show (M1,M2)=(R1,R2) by have h:=kR;unfold aN at h;rw[aB (show (M1,M2).2≠0 fromλh0=>he (g2.trans h0))] at h;exact h));have q1:(k:Int)=R1:=g1.trans h1.1;have q2:e=R2:=g2.trans h1.2;subst q1 q2;clear hj kR g1 g2 h1 kM
    repeat' first|(with_reducible first|apply ai|apply aF|apply au|apply az|apply af|apply al|refine And.intro ?_ ?_|refine cw (c1) ?_|intro _)|(simp[*,h3,he])|(refine ae (c1) ?_ ?_;(· (simp[*];done)))
    all_goals first|omega|exact aG (by omega) (by omega)|assumption
  .have h5:k=os.length:=by omega
   subst h5;rw[fg] at hj;have hj:((0:Int),(0:Int))=(M1,M2):=hj;have kj:aN (M1=0/\M2=0):=keep ⟨(br hj).1.symm,(br hj).2.symm⟩;clear hj
   repeat' first|(with_reducible first|apply ai|apply aL|apply af|apply al|intro _)|(simp[*])
   all_goals first
    |omega
    |(refine aZ () ?_ ?_;(· exact kj);(refine aD ?_ ?_<;>first|trivial|(simp[*];done)))
 obtain⟨rfl,rfl⟩:=hf;have hR:(if (wt.length:Int)≠os.length then ((0:Int),(10:Int)) else fU (λ_=>gj ab.length) wt 0 (g8 os.length ab.length zs))=(R1,R2):=kR;clear kR kM;by_cases a3:(wt.length:Int)=os.length
 rotate_left
 .rw[aB a3] at hR;obtain⟨q1,q2⟩:=br hR;subst q1 q2;clear hR
  repeat' first|(with_reducible first|apply ai|apply az|apply af|apply al|intro _)|(simp[*,a3])
  all_goals first|omega|exact aG (by omega) (by omega)|assumption
 rw[ar (λh=>h a3)] at hR;have kT:aN (fU (λ_=>gj ab.length) (wt.drop 0) 0 (g8 os.length ab.length zs)=(R1,R2)):=hR;clear hR
 repeat' first|(with_reducible first|apply ai|apply au|apply af|apply al|intro _)|(simp[*,a3])
 refine bQ (λ(k:Nat)=>k<=wt.length/\fU (λ_=>gj ab.length) (wt.drop k) k (g8 os.length ab.length zs)=(R1,R2)) [1] (λ(k:Nat)=>[(8,.w false false (.int .i64 k))]) [0] (λ(k:Nat)=>[]) (λ(k:Nat)=>wt.length-k) (λ(_u:Unit)=>g8 os.length ab.length zs=(R1,R2)) [1] (λ(_u:Unit)=>[]) [0] (λ(_u:Unit)=>[]) (0) ⟨aK _,kT⟩ (by simp) (by simp) (λk hk=>?_) (λ_u hf=>?_)
 .obtain⟨hk,hj⟩:=hk;clear kT;by_cases h3:k<wt.length
  .have a7:=kw _ (eJ h3);rw[dg wt k h3,GJ] at hj;unfold gj at hj;by_cases hl:((nth wt k).length:Int)=ab.length
   .rw[decide_eq_true hl] at hj
    have hj:(if ba (!((nth wt k).any λx=>!aU x 0 100000)) 2=0 then fU (λ_=>gj ab.length) (wt.drop (k+1)) (k+1) (g8 os.length ab.length zs) else ((k:Int),ba (!((nth wt k).any λx=>!aU x 0 100000)) 2))=(R1,R2):=by
     rw[<-hj];simp only[cX,ba]
     cases ((nth wt k).any λx=>!aU x 0 100000)<;>rfl
    generalize hA:((nth wt k).any λx=>!aU x 0 100000)=A at hj;have kA:aN (((nth wt k).drop 0).any (λx=>!aU x 0 100000)=A):=hA;have kj:=keep hj;clear hj hA
    repeat' first|(with_reducible first|apply ai|apply aF|apply au|apply aL|apply af|refine aQ (id:=22) 10 mixed (by decide +kernel) ?_|apply al|refine fz ?_ ?_|intro _)|(simp[*,h3,hl])
    all_goals try first|omega|assumption
    refine bQ (λ(j:Nat)=>j<=(nth wt k).length/\((nth wt k).drop j).any (λx=>!aU x 0 100000)=A) [1,8] (λ(j:Nat)=>[(9,.w false false (.int .i64 j))]) [0] (λ(j:Nat)=>[]) (λ(j:Nat)=>(nth wt k).length-j) (λ(_u:Unit)=>A=false) [1,8] (λ(_u:Unit)=>[]) [0] (λ(_u:Unit)=>[]) (0) ⟨aK _,kA⟩ (by simp) (by simp) (λj hk=>?_) (λ_u hf=>?_)
    .obtain⟨a',h8⟩:=hk;clear kA;by_cases ha:j<(nth wt k).length
     .rw[dg _ j ha,mX] at h8;have c1:=ma (nth (nth wt k) j) 0 100000
      cases hb:aU (nth (nth wt k) j) 0 100000 with
      |true=>
       rw[hb] at h8 c1;have kj2:aN (((nth wt k).drop (j+1)).any (λx=>!aU x 0 100000)=A):=keep h8;clear h8 kj hb
       repeat' first|(with_reducible first|apply ai|apply aF|apply au|apply aL|apply af|apply al|refine And.intro ?_ ?_|refine fz ?_ ?_|refine cw (c1) ?_|intro _)|(simp[*,h3,ha])|(refine ae (c1) ?_ ?_;(· (simp[*];done)))
       all_goals first
        |omega
        |exact aG (by omega) (by omega)
        |(refine nx (j+1) ?_ ?_;(· exact⟨by omega,kj2⟩);(refine aD ?_ ?_<;>first|trivial|(simp[*];done)))
      |false=>
       rw[hb] at h8 c1
       have hA:A=true:=by rw[<-h8];rfl
       subst hA;have h1:((k:Int),(2:Int))=(R1,R2):=kj;obtain⟨q1,q2⟩:=br h1;subst q1 q2;clear h8 kj hb h1
       repeat' first|(with_reducible first|apply ai|apply aF|apply au|apply az|apply aL|apply af|apply al|refine And.intro ?_ ?_|refine fz ?_ ?_|refine cw (c1) ?_|intro _)|(simp[*,h3,ha])|(refine ae (c1) ?_ ?_;(· (simp[*];done)))
       all_goals first|omega|exact aG (by omega) (by omega)
     .have h5:j=(nth wt k).length:=by omega
      subst h5;have kj2:aN (A=false):=keep (by rw[<-h8];simp);clear h8 kj
      repeat' first|(with_reducible first|apply ai|apply aL|apply af|apply al|intro _)|(simp[*,h3])
      all_goals first
       |omega
       |(refine aZ () ?_ ?_;(· exact kj2);(refine aD ?_ ?_<;>first|trivial|(simp[*];done)))
    .subst hf;have kj2:aN (fU (λ_=>gj ab.length) (wt.drop (k+1)) (k+1) (g8 os.length ab.length zs)=(R1,R2)):=kj;clear kj kA
     repeat' first|(with_reducible first|apply af|refine And.intro ?_ ?_|intro _)|(simp[*,h3])
     all_goals first
      |omega
      |exact aG (by omega) (by omega)
      |(refine nx (k+1) ?_ ?_;(· exact⟨by omega,kj2⟩);(refine aD ?_ ?_<;>first|trivial|(simp[*];done)))
   .rw[decide_eq_false hl] at hj;have h1:((k:Int),(10:Int))=(R1,R2):=hj;obtain⟨q1,q2⟩:=br h1;subst q1 q2;clear hj h1
    repeat' first|(with_reducible first|apply ai|apply aF|apply au|apply az|apply aL|apply af|refine aQ (id:=22) 10 mixed (by decide +kernel) ?_|apply al|refine fz ?_ ?_|intro _)|(simp[*,h3,hl])
    all_goals first|omega|exact aG (by omega) (by omega)
  .have h5:k=wt.length:=by omega
   subst h5;rw[fg,GK] at hj;have kj:=keep hj;clear hj
   repeat' first|(with_reducible first|apply ai|apply aL|apply af|apply al|intro _)|(simp[*,a3])
   all_goals first
    |omega
    |(refine aZ () ?_ ?_;(· exact kj);(refine aD ?_ ?_<;>first|trivial|(simp[*];done)))
 clear kT;unfold g8 at hf;by_cases a4:(64:Int)<zs.length
 .rw[aB a4] at hf;obtain⟨q1,q2⟩:=br hf;subst q1 q2;clear hf
  repeat' first|(with_reducible first|apply ai|apply az|apply af|apply al|intro _)|(simp[*,a4])
  all_goals first|omega|exact aG (by omega) (by omega)|assumption
 rw[ar a4] at hf;have kS:aN (dk (jJ os.length ab.length zs) (zs.drop 0) 0=(R1,R2)):=hf;clear hf
 repeat' first|(with_reducible first|apply ai|apply au|apply af|apply al|intro _)|(simp[*,a4])
 refine df 1 (λ(k:Nat)=>k<=zs.length/\dk (jJ os.length ab.length zs) (zs.drop k) k=(R1,R2)) [1] (λ(k:Nat)=>[(10,.w false false (.int .i64 k))]) [0] (λ(k:Nat)=>[]) (λ(k:Nat)=>zs.length-k) (λ(_u:Unit)=>R1=0/\R2=0) [] (λ(_u:Unit)=>[]) [0] (λ(_u:Unit)=>[]) (0) ⟨aK _,kS⟩ (aO [] (by simp) (by simp)) (λk hk=>?_) (λ_u hf=>?_)
 .obtain⟨hk,hj⟩:=hk;clear kS;by_cases h3:k<zs.length
  .have c1:=eQ (zs.take k) (by rw[ia];omega) (nth zs k);rw[uS hk] at c1;have w1:=kO ab os wt zs (by omega) (nth zs k).1;have w2:=eW ab os wt zs (by omega) (nth zs k).2;rw[dg zs k h3,dk] at hj;have hE:jJ os.length ab.length zs k (nth zs k)=cX [ba (aU (nth zs k).1 0 ((os.length:Int)-1)&&aU (nth zs k).2 0 ((ab.length:Int)-1)) 6,ba (!(hasB (zs.take k) (nth zs k))) 26]:=rfl;rw[hE] at hj;clear hE;unfold Tw.cu at c1;generalize aU (nth zs k).1 0 ((os.length:Int)-1)=g1 at *;generalize aU (nth zs k).2 0 ((ab.length:Int)-1)=g2 at *;generalize hasB (zs.take k) (nth zs k)=g3 at *
   have fin:∀e:Int,e≠0->((if e=0 then dk (jJ os.length ab.length zs) (zs.drop (k+1)) (k+1) else ((k:Int),e))=(R1,R2))->(k:Int)=R1/\e=R2:=λe he h=>by rw[ar he] at h;exact br h
   cases g1 with
   |false=>
    obtain⟨q1,q2⟩:=fin 6 (by decide) hj;subst q1 q2;clear hj fin
    repeat' first|(with_reducible first|apply ai|apply aF|apply au|apply az|apply af|apply al|refine And.intro ?_ ?_|refine cw (w1) ?_|intro _)|(simp[*,h3,Tw.cu])|(refine ae (w1) ?_ ?_;(· (simp[*];done)))
    all_goals first|omega|exact aG (by omega) (by omega)
   |true=>
    cases g2 with
    |false=>
     obtain⟨q1,q2⟩:=fin 6 (by decide) hj;subst q1 q2;clear hj fin
     repeat' first|(with_reducible first|apply ai|apply aF|apply au|apply az|apply af|apply al|refine And.intro ?_ ?_|refine cw (w1) ?_|refine cw (w2) ?_|intro _)|(simp[*,h3,Tw.cu])|(refine ae (w1) ?_ ?_;(· (simp[*];done)))|(refine ae (w2) ?_ ?_;(· (simp[*];done)))
     all_goals first|omega|exact aG (by omega) (by omega)
    |true=>
     cases g3 with
     |true=>
      obtain⟨q1,q2⟩:=fin 26 (by decide) hj;subst q1 q2;clear hj fin
      repeat' first|(with_reducible first|apply ai|apply aF|apply au|apply az|apply af|refine aQ (id:=37) 6 mixed (by decide +kernel) ?_|apply al|refine And.intro ?_ ?_|refine cw (w1) ?_|refine cw (w2) ?_|refine cw (c1) ?_|intro _)|(simp[*,h3,Tw.cu])|(refine ae (w1) ?_ ?_;(· (simp[*];done)))|(refine ae (w2) ?_ ?_;(· (simp[*];done)))|(refine ae (c1) ?_ ?_;(· (simp[*];done)))
      all_goals first|omega|exact aG (by omega) (by omega)
     |false=>
      have kj:aN (dk (jJ os.length ab.length zs) (zs.drop (k+1)) (k+1)=(R1,R2)):=hj;clear hj fin
      repeat' first|(with_reducible first|apply ai|apply aF|apply au|apply af|refine aQ (id:=37) 6 mixed (by decide +kernel) ?_|apply al|refine And.intro ?_ ?_|refine cw (w1) ?_|refine cw (w2) ?_|refine cw (c1) ?_|intro _)|(simp[*,h3,Tw.cu])|(refine ae (w1) ?_ ?_;(· (simp[*];done)))|(refine ae (w2) ?_ ?_;(· (simp[*];done)))|(refine ae (c1) ?_ ?_;(· (simp[*];done)))
      all_goals first
       |omega
       |exact aG (by omega) (by omega)
       |(refine nx (k+1) ?_ ?_;(· exact⟨by omega,kj⟩);(refine aO [] ?_ ?_<;>first|trivial|(simp[*];done)))
  .have h5:k=zs.length:=by omega
   subst h5;rw[fg] at hj;have hj:((0:Int),(0:Int))=(R1,R2):=hj;have kj:aN (R1=0/\R2=0):=keep ⟨(br hj).1.symm,(br hj).2.symm⟩;clear hj
   repeat' first|(with_reducible first|apply ai|apply aL|apply af|apply al|intro _)|(simp[*,a4])
   all_goals first
    |omega
    |(refine aZ () ?_ ?_;(· exact kj);(refine aD ?_ ?_<;>first|trivial|(simp[*];done)))
 .obtain⟨rfl,rfl⟩:=hf
  repeat' first|(with_reducible first|apply ai|apply az|apply af|intro _)|(simp[*])
end Go.Proofs.YthpkmilhiganjaaGreat
namespace Go.Proofs.YthpkmilhiganjaaGreat
open Go Go.Fi
noncomputable instance instLD14:av:=LD
theorem eB(r:Tw.RND):(aj r).fit.length=(aj r).os.length:=by simp[aj]
theorem kQ(r:Tw.RND)(i:Nat):(Tw.lE r i).length=r.ab.length:=by
 simp[Tw.lE,Tw.Cv,Tw.jE,Tw.odR]
theorem eE(r:Tw.RND)(i:Nat)(h:i<(aj r).os.length):(nth (aj r).fit i).length=(aj r).ab.length:=by
 have hi:i<r.os.length:=h;simp only[aj,nth,bS,gD,sI hi,du,gk];exact kQ r i
theorem eZ(r:Tw.RND):(aj r).ab.length<100000:=r.dB.2.2.2.1
theorem cH(r:Tw.RND)(plan:List Int)(hp:plan.length<100000)(h:ceR r=0):aC Tz.prog 77 [Tw.aM r,.sl plan.length (ints plan)] (.tup [(aj r).pv,.int .i64 (dh (aj r) plan).2]) false:=by
 have c1:=dI r;rw[gr r h] at c1;have c2:=GN (aj r) plan hp (eZ r) (eB r) (eE r);generalize dh (aj r) plan=R at *;obtain⟨R1,R2⟩:=R;generalize aj r=x at *;unfold Tw.aM Rd.pv at *;simp only[] at *;generalize r.cz=p1 at *;generalize r.osP=p2 at *;generalize r.cT=p3 at *;generalize r.zsP=p4 at *;clear h;refine rcK Tz.func77 ?_;simp only[Tryz.results77,Tryz.ntmps77]
 repeat' first|(with_reducible first|apply ai|apply az|apply af|apply al|refine And.intro ?_ ?_|refine cw (c1) ?_|refine cw (c2) ?_|intro _)|(simp[*])|(refine ae (c1) ?_ ?_;(· (simp[*];done)))|(refine ae (c2) ?_ ?_;(· (simp[*];done)))
theorem fh(r:Tw.RND)(plan:List Int)(h:ceR r≠0):aC Tz.prog 77 [Tw.aM r,.sl plan.length (ints plan)] (.tup [.fQ,.int .i64 (ceR r)]) false:=by
 have c1:=dI r;rw[k8 r h] at c1;generalize ceR r=e at *;unfold Tw.aM at *;generalize r.cz=p1 at *;generalize r.osP=p2 at *;generalize r.cT=p3 at *;generalize r.zsP=p4 at *;refine rcK Tz.func77 ?_;simp only[Tryz.results77,Tryz.ntmps77]
 repeat' first|(with_reducible first|apply ai|apply au|apply az|apply af|apply al|refine And.intro ?_ ?_|refine cw (c1) ?_|intro _)|(simp[*])|(refine ae (c1) ?_ ?_;(· (simp[*];done)))
theorem cL{α:Type}[Inhabited α]{E:Nat->α->Int}:∀{l:List α}{k:Nat},(dk E l k).2=0->∀j,j<l.length->E (k+j) (nth l j)=0
 |[],k,_,j,hj=>absurd hj (by simp)
 |x::r,k,h,j,hj=>by
  unfold dk at h;by_cases he:E k x=0
  .rw[aB he] at h
   cases j with
   |zero=>exact he
   |succ j=>
    have:=cL h j (by simpa using hj);rw[show k+(j+1)=k+1+j by omega];exact this
  .rw[ar he] at h;exact absurd h he
theorem eF{α:Type}[Inhabited α]{nm:α->ByteArray}{mr:α->Int}{l:List α}:∀{r:List α}{k:Nat},(fq nm mr l r k).2=0->∀j,j<r.length->g7 nm mr l (k+j) (nth r j)=0
 |[],k,_,j,hj=>absurd hj (by simp)
 |x::r,k,h,j,hj=>by
  unfold fq at h;by_cases he:g7 nm mr l k x=0
  .rw[aB he] at h
   cases j with
   |zero=>exact he
   |succ j=>
    have:=eF h j (by simpa using hj);rw[show k+(j+1)=k+1+j by omega];exact this
  .rw[ar he] at h;exact absurd h he
theorem bC{e:Int}{r:List Int}(h:cX (e::r)=0):e=0/\cX r=0:=by
 unfold cX at h;split at h
 .rename_i he;exact⟨he,h⟩
 .rename_i he;exact absurd h he
theorem bK{b:Bool}{e:Int}(he:e≠0)(h:ba b e=0):b=true:=by
 unfold ba at h
 cases b with
 |true=>rfl
 |false=>exact absurd h he
theorem bM{n lo hi:Int}:aU n lo hi=true↔lo<=n/\n<=hi:=by simp[aU]
theorem not_true{b:Bool}(h:(!b)=true):b=false:=by cases b<;>simp_all
structure bR(x:Rd):Prop where
 lc:x.ab.length<=8
 lo:x.os.length<=8
 lw:x.wt.length=x.os.length
 lz:x.zs.length<=64
 lf:x.fit.length=x.os.length
 fr:∀i,i<x.os.length->(nth x.fit i).length=x.ab.length
 wr:∀i,i<x.os.length->(nth x.wt i).length=x.ab.length
 wn:∀i,i<x.os.length->∀k,k<x.ab.length->0<=nth (nth x.wt i) k/\nth (nth x.wt i) k<=100000
 sc:∀k,k<x.ab.length->1<=(nth x.ab k).2.1/\(nth x.ab k).2.1<=8
 so:∀i,i<x.os.length->1<=(nth x.os i).2.1/\(nth x.os i).2.1<=8
 pr:∀i,i<x.os.length->0<=(nth x.os i).2.2.2/\(nth x.os i).2.2.2<=6
 nc:∀k,k<x.ab.length->fF (nth x.ab k).1=true/\((x.ab.take k).any λy=>decide (y.1=(nth x.ab k).1))=false
 no:∀k,k<x.os.length->fF (nth x.os k).1=true/\((x.os.take k).any λy=>decide (y.1=(nth x.os k).1))=false
 zr:∀j,j<x.zs.length->(0<=(nth x.zs j).1/\(nth x.zs j).1<=(x.os.length:Int)-1)/\(0<=(nth x.zs j).2/\(nth x.zs j).2<=(x.ab.length:Int)-1)
theorem dS(r:Tw.RND)(h:ceR r=0):bR (aj r):=by
 unfold ceR g9 at h;split at h
 .simp at h
 rename_i g1;split at h
 .rename_i h2;exact absurd h h2
 rename_i g2;split at h
 .simp at h
 rename_i g3;split at h
 .rename_i h2;exact absurd h h2
 rename_i g4;split at h
 .simp at h
 rename_i g5;have h':=Br h
 have hw:(dk (λ_=>gj r.ab.length) r.wt 0).2=0:=by
  unfold fU at h;split at h
  .rename_i h1;exact absurd h h1
  .rename_i h1;simpa using h1
 rw[h'] at h;unfold g8 at h;split at h
 .simp at h
 rename_i g6;have hx:(fq Prod.fst fG r.ab r.ab 0).2=0:=oz.1 g2;have hy:(fq Prod.fst eH r.os r.os 0).2=0:=oz.1 g4
 have C:=λj hj=>eF hx j hj
 have O:=λj hj=>eF hy j hj
 have W:=λj hj=>cL hw j hj
 have Z:=λj hj=>cL h j hj
 simp only[cY] at C O W Z
 have a6:r.wt.length=r.os.length:=by omega
 have wait:∀i,i<r.os.length->(nth r.wt i).length=r.ab.length/\((nth r.wt i).any λx=>!aU x 0 100000)=false:=λi hi=>by
  have:=W i (by omega);unfold gj at this;obtain⟨w1,w2⟩:=bC this;obtain⟨w2,_⟩:=bC w2;refine⟨?_,?_⟩
  .have:=bK (by decide) w1;have:=of_decide_eq_true this;omega
  .simpa using bK (by decide) w2
 refine⟨by show r.ab.length<=8;omega,by show r.os.length<=8;omega,a6,by show r.zs.length<=64;omega,eB r,eE r,λi hi=>(wait i hi).1,λi hi k hk=>?_,λk hk=>?_,λi hi=>?_,λi hi=>?_,λk hk=>?_,λk hk=>?_,λj hj=>?_⟩
 .obtain⟨w1,w2⟩:=wait i hi
  have a5:k<(nth r.wt i).length:=by rw[w1];exact hk
  have hm:=eJ a5;have:=mY.1 w2 _ hm;have:=bM.1 (by simpa using this);exact this
 .have:=C k hk;obtain⟨_,n2⟩:=bC this;obtain⟨_,n3⟩:=bC n2;obtain⟨n4,_⟩:=bC n3;exact bM.1 (bK (by decide) n4)
 .have:=O i hi;obtain⟨_,n2⟩:=bC this;obtain⟨_,n3⟩:=bC n2;obtain⟨n4,_⟩:=bC n3;have:=bK (by decide) n4;rw[bU] at this;exact bM.1 this.1
 .have:=O i hi;obtain⟨_,n2⟩:=bC this;obtain⟨_,n3⟩:=bC n2;obtain⟨n4,_⟩:=bC n3;have:=bK (by decide) n4;rw[bU] at this;exact bM.1 this.2
 .have:=C k hk;obtain⟨n1,n2⟩:=bC this;obtain⟨n2,_⟩:=bC n2;exact⟨bK (by decide) n1,not_true (bK (by decide) n2)⟩
 .have:=O k hk;obtain⟨n1,n2⟩:=bC this;obtain⟨n2,_⟩:=bC n2;exact⟨bK (by decide) n1,not_true (bK (by decide) n2)⟩
 .have:=Z j hj;unfold jJ at this;obtain⟨n1,_⟩:=bC this;have:=bK (by decide) n1;rw[bU] at this;exact⟨bM.1 this.1,bM.1 this.2⟩
end Go.Proofs.YthpkmilhiganjaaGreat
namespace Go.Proofs.YthpkmilhiganjaaGreat
open Go Go.Fi
variable[av]
def mK(row:List Bool)(w p:List Int)(m0:Int):Nat->Int
 |0=>m0
 |k+1=>if nth row k then (if nth w k+nth p k<mK row w p m0 k then nth w k+nth p k else mK row w p m0 k) else mK row w p m0 k
@[simp]theorem tz(row:List Bool)(w p:List Int)(m0:Int):mK row w p m0 0=m0:=rfl
end Go.Proofs.YthpkmilhiganjaaGreat
namespace Go.Proofs.YthpkmilhiganjaaGreat
open Go Go.Fi
noncomputable instance instLD19:av:=LD
def kB(l:List Int):Nat->Int
 |0=>0
 |k+1=>kB l k+nth l k
@[simp]theorem sR(l:List Int):kB l 0=0:=rfl
end Go.Proofs.YthpkmilhiganjaaGreat
