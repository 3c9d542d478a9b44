/- Lemmas. -/
import Derived.Test.YthpkmilhiganjaaGreatPEd
import Derived.Test.YthpkmilhiganjaaGreatPDa
import Derived.Test.YthpkmilhiganjaaGreatPEa
import Derived.Test.YthpkmilhiganjaaGreatPDb
import Derived.Test.YthpkmilhiganjaaGreatPLe
import Derived.Test.YthpkmilhiganjaaGreatPLg
import Derived.Test.YthpkmilhiganjaaGreatPEb
set_option linter.all false
set_option maxHeartbeats 32000000
set_option maxRecDepth 100000
namespace Go.Proofs.YthpkmilhiganjaaGreat
open Go Go.Fi
variable[ak]
def hasB(l:List Par)(v:Par):Bool:=l.any λy=>decide (v.1=y.1)&&decide (v.2=y.2)
theorem zbg(l:List Par)(hl:l.length<100000)(v:Par):aB Tz.prog 110 [.sl l.length (aZ l),.agg (Tw.cg v)] (.bool (hasB l v)) true:=by
 unfold hasB;generalize hR:(l.any λy=>decide (v.1=y.1)&&decide (v.2=y.2))=R;have kR:br ((l.drop 0).any (λy=>decide (v.1=y.1)&&decide (v.2=y.2))=R):=keep hR;clear hR;obtain⟨v1,v2⟩:=v;simp only[Tw.cg];refine rcK Tz.func110 ?_;simp only[Tryz.results110,Tryz.ntmps110]
 repeat' first|(with_reducible first|apply aj|apply af|intro _)|(simp[*])
 refine eD (λ(k:Nat)=>k<=l.length/\(l.drop k).any (λy=>decide (v1=y.1)&&decide (v2=y.2))=R) [0,3] (λ(k:Nat)=>[(5,.w false false (.int .i64 k))]) [0] (λ(k:Nat)=>[]) (λ(k:Nat)=>l.length-k) (λ(_u:Unit)=>R=false) [] (λ(_u:Unit)=>[]) [0] (λ(_u:Unit)=>[]) (0) ⟨aR _,kR⟩ (by simp) (by simp) (λk hk=>?_) (λ_u hf=>?_)
 .obtain⟨hk,hj⟩:=hk;by_cases h3:k<l.length
  .rw[fC l k h3,Cv] at hj;by_cases h1:(nth l k).1=v1
   .by_cases h2:(nth l k).2=v2
    .have hR:R=true:=by rw[<-hj];simp[h1,h2]
     subst hR;clear hj kR
     repeat' first|(with_reducible first|apply aj|apply aI|apply aE|apply av|apply af|refine bm (id:=4) 6 mixed (by decide +kernel) ?_|apply au|refine And.intro ?_ ?_|intro _)|(simp[*,h3,h1,h2,Tw.cg])
     all_goals first|omega|exact aN (by omega) (by omega)
    .have hy:¬v2=(nth l k).2:=λe=>h2 e.symm
     have kj:br ((l.drop (k+1)).any (λy=>decide (v1=y.1)&&decide (v2=y.2))=R):=keep (by rw[<-hj];simp[hy]);clear hj kR hy
     repeat' first|(with_reducible first|apply aj|apply aI|apply aE|apply af|refine bm (id:=4) 6 mixed (by decide +kernel) ?_|apply au|refine And.intro ?_ ?_|intro _)|(simp[*,h3,h1,h2,Tw.cg])
     all_goals first
      |omega
      |exact aN (by omega) (by omega)
      |(refine nx (k+1) ?_ ?_;(· exact⟨by omega,kj⟩);(refine aM ?_ ?_<;>first|trivial|(simp[*];done)))
   .have hg:¬v1=(nth l k).1:=λe=>h1 e.symm
    have kj:br ((l.drop (k+1)).any (λy=>decide (v1=y.1)&&decide (v2=y.2))=R):=keep (by rw[<-hj];simp[hg]);clear hj kR hg
    repeat' first|(with_reducible first|apply aj|apply aI|apply aE|apply af|refine bm (id:=4) 6 mixed (by decide +kernel) ?_|apply au|refine And.intro ?_ ?_|intro _)|(simp[*,h3,h1,Tw.cg])
    all_goals first
     |omega
     |exact aN (by omega) (by omega)
     |(refine nx (k+1) ?_ ?_;(· exact⟨by omega,kj⟩);(refine aM ?_ ?_<;>first|trivial|(simp[*];done)))
  .have h5:k=l.length:=by omega
   subst h5;have kj:br (R=false):=keep (by rw[<-hj];simp);clear hj kR
   repeat' first|(with_reducible first|apply aj|apply aK|apply af|apply au|intro _)|(simp[*])
   all_goals first
    |(refine bN () ?_ ?_;(· exact kj);(refine aM ?_ ?_<;>first|trivial|(simp[*];done)))
 .subst hf
  repeat' first|(with_reducible first|apply aj|apply av|apply af|intro _)|(simp[*])
theorem zbh(ab:List Car)(os:List Ord)(wt:List (List Int))(zs:List Par)(ho:os.length<100000)(n:Int):aB Tz.prog 43 [.agg [.sl ab.length (bf ab),.sl os.length (ba os),.sl wt.length (bP wt),.sl zs.length (aZ zs)],.int .i64 n] (.bool (aL n 0 ((os.length:Int)-1))) true:=by
 refine rcK Tz.func43 ?_;simp only[Tryz.results43,Tryz.ntmps43]
 repeat' first|(with_reducible first|apply aj|apply av|apply af|refine And.intro ?_ ?_|refine cw (om _ _ _) ?_|intro _)|(simp[*])|(refine ar (om _ _ _) ?_ ?_;(· (simp[*];done)))
 all_goals first|omega|exact aN (by omega) (by omega)
theorem zbi(ab:List Car)(os:List Ord)(wt:List (List Int))(zs:List Par)(ho:ab.length<100000)(n:Int):aB Tz.prog 45 [.agg [.sl ab.length (bf ab),.sl os.length (ba os),.sl wt.length (bP wt),.sl zs.length (aZ zs)],.int .i64 n] (.bool (aL n 0 ((ab.length:Int)-1))) true:=by
 refine rcK Tz.func45 ?_;simp only[Tryz.results45,Tryz.ntmps45]
 repeat' first|(with_reducible first|apply aj|apply av|apply af|refine And.intro ?_ ?_|refine cw (om _ _ _) ?_|intro _)|(simp[*])|(refine ar (om _ _ _) ?_ ?_;(· (simp[*];done)))
 all_goals first|omega|exact aN (by omega) (by omega)
theorem zea(ab:List Car)(os:List Ord)(wt:List (List Int))(zs:List Par)(a5:ab.length<=1000)(ag:os.length<=1000)(aq:wt.length<100000)(aw:zs.length<100000)(hc:∀x∈ab,x.1.size<1000000)(ho:∀x∈os,x.1.size<1000000)(hw:∀x∈wt,x.length<100000):aB Tz.prog 58 [.agg [.sl ab.length (bf ab),.sl os.length (ba os),.sl wt.length (bP wt),.sl zs.length (aZ zs)]] (.tup [.int .i64 (g8 ab os wt zs).1,.int .i64 (g8 ab os wt zs).2]) true:=by
 generalize hR:g8 ab os wt zs=R;obtain⟨R1,R2⟩:=R;unfold g8 at hR;have kc:=keep hc;have ko:=keep ho;have kw:=keep hw;clear hc ho hw;by_cases a1:(8:Int)<ab.length
 .rw[az a1] at hR;obtain⟨q1,q2⟩:=b8 hR;subst q1 q2;clear hR;refine rcK Tz.func58 ?_;simp only[Tryz.results58,Tryz.ntmps58]
  repeat' first|(with_reducible first|apply aj|apply av|apply af|apply au|intro _)|(simp[*,a1])
  all_goals first|omega|exact aN (by omega) (by omega)|assumption
 rw[ai a1] at hR;generalize hN:gG Prod.fst fK ab=N at hR;obtain⟨N1,N2⟩:=N;have kN:br (fu Prod.fst fK ab (ab.drop 0) 0=(N1,N2)):=hN;have kR:=keep hR;clear hR hN;refine rcK Tz.func58 ?_;simp only[Tryz.results58,Tryz.ntmps58]
 repeat' first|(with_reducible first|apply aj|apply aE|apply af|apply au|intro _)|(simp[*,a1])
 refine eD (λ(k:Nat)=>k<=ab.length/\fu Prod.fst fK ab (ab.drop k) k=(N1,N2)) [1] (λ(k:Nat)=>[(4,.w false false (.int .i64 k))]) [0] (λ(k:Nat)=>[]) (λ(k:Nat)=>ab.length-k) (λ(_u:Unit)=>N1=0/\N2=0) [1] (λ(_u:Unit)=>[]) [0] (λ(_u:Unit)=>[]) (0) ⟨aR _,kN⟩ (by simp) (by simp) (λk hk=>?_) (λ_u hf=>?_)
 .obtain⟨hk,hj⟩:=hk;by_cases h3:k<ab.length
  .have c1:=zd8 ab os wt zs k h3 (by omega) kc;rw[fC ab k h3,fu] at hj;generalize gZ Prod.fst fK ab k (nth ab k)=e at hj c1;by_cases he:e=0
   .rw[az he] at hj;subst he;have kj:=keep hj;clear hj
    repeat' first|(with_reducible first|apply aj|apply aI|apply aE|apply af|apply au|refine And.intro ?_ ?_|refine cw (c1) ?_|intro _)|(simp[*,h3])|(refine ar (c1) ?_ ?_;(· (simp[*];done)))
    all_goals first
     |omega
     |exact aN (by omega) (by omega)
     |(refine nx (k+1) ?_ ?_;(· exact⟨by omega,kj⟩);(refine aM ?_ ?_<;>first|trivial|(simp[*];done)))
   .rw[ai he] at hj;obtain⟨g1,g2⟩:=b8 hj;have h1:=(b8 (show (N1,N2)=(R1,R2) by have h:=kR;unfold br at h;rw[az (show (N1,N2).2≠0 fromλh0=>he (g2.trans h0))] at h;exact h));have q1:(k:Int)=R1:=g1.trans h1.1;have q2:e=R2:=g2.trans h1.2;subst q1 q2;clear hj kR g1 g2 h1 kN
    repeat' first|(with_reducible first|apply aj|apply aI|apply aE|apply av|apply af|apply au|refine And.intro ?_ ?_|refine cw (c1) ?_|intro _)|(simp[*,h3,he])|(refine ar (c1) ?_ ?_;(· (simp[*];done)))
    all_goals first|omega|exact aN (by omega) (by omega)|assumption
  .have h5:k=ab.length:=by omega
   subst h5;rw[jK] at hj;have hj:((0:Int),(0:Int))=(N1,N2):=hj;have kj:br (N1=0/\N2=0):=keep ⟨(b8 hj).1.symm,(b8 hj).2.symm⟩;clear hj
   repeat' first|(with_reducible first|apply aj|apply aK|apply af|apply au|intro _)|(simp[*])
   all_goals first
    |omega
    |(refine bN () ?_ ?_;(· exact kj);(refine aM ?_ ?_<;>first|trivial|(simp[*];done)))
 obtain⟨rfl,rfl⟩:=hf;have hR:(if (8:Int)<os.length then ((0:Int),(8:Int)) else if (gG Prod.fst eY os).2≠0 then gG Prod.fst eY os else if (wt.length:Int)≠os.length then (0,10) else fY (λ_=>gr ab.length) wt 0 (g7 os.length ab.length zs))=(R1,R2):=kR;clear kR kN;by_cases a2:(8:Int)<os.length
 .rw[az a2] at hR;obtain⟨q1,q2⟩:=b8 hR;subst q1 q2;clear hR
  repeat' first|(with_reducible first|apply aj|apply av|apply af|apply au|intro _)|(simp[*,a2])
  all_goals first|omega|exact aN (by omega) (by omega)|assumption
 rw[ai a2] at hR;generalize hN:gG Prod.fst eY os=M at hR;obtain⟨M1,M2⟩:=M;have kM:br (fu Prod.fst eY os (os.drop 0) 0=(M1,M2)):=hN;have kR:=keep hR;clear hR hN
 repeat' first|(with_reducible first|apply aj|apply aE|apply af|apply au|intro _)|(simp[*,a2])
 refine eD (λ(k:Nat)=>k<=os.length/\fu Prod.fst eY os (os.drop k) k=(M1,M2)) [1] (λ(k:Nat)=>[(6,.w false false (.int .i64 k))]) [0] (λ(k:Nat)=>[]) (λ(k:Nat)=>os.length-k) (λ(_u:Unit)=>M1=0/\M2=0) [1] (λ(_u:Unit)=>[]) [0] (λ(_u:Unit)=>[]) (0) ⟨aR _,kM⟩ (by simp) (by simp) (λk hk=>?_) (λ_u hf=>?_)
 .obtain⟨hk,hj⟩:=hk;by_cases h3:k<os.length
  .have c1:=zd9 ab os wt zs k h3 (by omega) ko;rw[fC os k h3,fu] at hj;generalize gZ Prod.fst eY os k (nth os k)=e at hj c1;by_cases he:e=0
   .rw[az he] at hj;subst he;have kj:=keep hj;clear hj
    repeat' first|(with_reducible first|apply aj|apply aI|apply aE|apply af|apply au|refine And.intro ?_ ?_|refine cw (c1) ?_|intro _)|(simp[*,h3])|(refine ar (c1) ?_ ?_;(· (simp[*];done)))
    all_goals first
     |omega
     |exact aN (by omega) (by omega)
     |(refine nx (k+1) ?_ ?_;(· exact⟨by omega,kj⟩);(refine aM ?_ ?_<;>first|trivial|(simp[*];done)))
   .rw[ai he] at hj;obtain⟨g1,g2⟩:=b8 hj;have h1:=(b8 (show (M1,M2)=(R1,R2) by have h:=kR;unfold br at h;rw[az (show (M1,M2).2≠0 fromλh0=>he (g2.trans h0))] at h;exact h));have q1:(k:Int)=R1:=g1.trans h1.1;have q2:e=R2:=g2.trans h1.2;subst q1 q2;clear hj kR g1 g2 h1 kM
    repeat' first|(with_reducible first|apply aj|apply aI|apply aE|apply av|apply af|apply au|refine And.intro ?_ ?_|refine cw (c1) ?_|intro _)|(simp[*,h3,he])|(refine ar (c1) ?_ ?_;(· (simp[*];done)))
    all_goals first|omega|exact aN (by omega) (by omega)|assumption
  .have h5:k=os.length:=by omega
   subst h5;rw[jK] at hj;have hj:((0:Int),(0:Int))=(M1,M2):=hj;have kj:br (M1=0/\M2=0):=keep ⟨(b8 hj).1.symm,(b8 hj).2.symm⟩;clear hj
   repeat' first|(with_reducible first|apply aj|apply aK|apply af|apply au|intro _)|(simp[*])
   all_goals first
    |omega
    |(refine bN () ?_ ?_;(· exact kj);(refine aM ?_ ?_<;>first|trivial|(simp[*];done)))
 obtain⟨rfl,rfl⟩:=hf;have hR:(if (wt.length:Int)≠os.length then ((0:Int),(10:Int)) else fY (λ_=>gr ab.length) wt 0 (g7 os.length ab.length zs))=(R1,R2):=kR;clear kR kM;by_cases a3:(wt.length:Int)=os.length
 rotate_left
 .rw[az a3] at hR;obtain⟨q1,q2⟩:=b8 hR;subst q1 q2;clear hR
  repeat' first|(with_reducible first|apply aj|apply av|apply af|apply au|intro _)|(simp[*,a3])
  all_goals first|omega|exact aN (by omega) (by omega)|assumption
 rw[ai (λh=>h a3)] at hR;have kT:br (fY (λ_=>gr ab.length) (wt.drop 0) 0 (g7 os.length ab.length zs)=(R1,R2)):=hR;clear hR
 repeat' first|(with_reducible first|apply aj|apply aE|apply af|apply au|intro _)|(simp[*,a3])
 refine eD (λ(k:Nat)=>k<=wt.length/\fY (λ_=>gr ab.length) (wt.drop k) k (g7 os.length ab.length zs)=(R1,R2)) [1] (λ(k:Nat)=>[(8,.w false false (.int .i64 k))]) [0] (λ(k:Nat)=>[]) (λ(k:Nat)=>wt.length-k) (λ(_u:Unit)=>g7 os.length ab.length zs=(R1,R2)) [1] (λ(_u:Unit)=>[]) [0] (λ(_u:Unit)=>[]) (0) ⟨aR _,kT⟩ (by simp) (by simp) (λk hk=>?_) (λ_u hf=>?_)
 .obtain⟨hk,hj⟩:=hk;clear kT;by_cases h3:k<wt.length
  .have b':=kw _ (kI h3);rw[fC wt k h3,Gc] at hj;unfold gr at hj;by_cases hl:((nth wt k).length:Int)=ab.length
   .rw[decide_eq_true hl] at hj
    have hj:(if aP (!((nth wt k).any λx=>!aL x 0 100000)) 2=0 then fY (λ_=>gr ab.length) (wt.drop (k+1)) (k+1) (g7 os.length ab.length zs) else ((k:Int),aP (!((nth wt k).any λx=>!aL x 0 100000)) 2))=(R1,R2):=by
     rw[<-hj];simp only[dc,aP]
     cases ((nth wt k).any λx=>!aL x 0 100000)<;>rfl
    generalize hA:((nth wt k).any λx=>!aL x 0 100000)=A at hj;have kA:br (((nth wt k).drop 0).any (λx=>!aL x 0 100000)=A):=hA;have kj:=keep hj;clear hj hA
    repeat' first|(with_reducible first|apply aj|apply aI|apply aE|apply aK|apply af|refine bm (id:=22) 10 mixed (by decide +kernel) ?_|apply au|refine bY ?_ ?_|intro _)|(simp[*,h3,hl])
    all_goals try first|omega|assumption
    refine eD (λ(j:Nat)=>j<=(nth wt k).length/\((nth wt k).drop j).any (λx=>!aL x 0 100000)=A) [1,8] (λ(j:Nat)=>[(9,.w false false (.int .i64 j))]) [0] (λ(j:Nat)=>[]) (λ(j:Nat)=>(nth wt k).length-j) (λ(_u:Unit)=>A=false) [1,8] (λ(_u:Unit)=>[]) [0] (λ(_u:Unit)=>[]) (0) ⟨aR _,kA⟩ (by simp) (by simp) (λj hk=>?_) (λ_u hf=>?_)
    .obtain⟨bb,h8⟩:=hk;clear kA;by_cases ha:j<(nth wt k).length
     .rw[fC _ j ha,Cv] at h8;have c1:=om (nth (nth wt k) j) 0 100000
      cases hb:aL (nth (nth wt k) j) 0 100000 with
      |true=>
       rw[hb] at h8 c1;have kj2:br (((nth wt k).drop (j+1)).any (λx=>!aL x 0 100000)=A):=keep h8;clear h8 kj hb
       repeat' first|(with_reducible first|apply aj|apply aI|apply aE|apply aK|apply af|apply au|refine And.intro ?_ ?_|refine bY ?_ ?_|refine cw (c1) ?_|intro _)|(simp[*,h3,ha])|(refine ar (c1) ?_ ?_;(· (simp[*];done)))
       all_goals first
        |omega
        |exact aN (by omega) (by omega)
        |(refine nx (j+1) ?_ ?_;(· exact⟨by omega,kj2⟩);(refine aM ?_ ?_<;>first|trivial|(simp[*];done)))
      |false=>
       rw[hb] at h8 c1
       have hA:A=true:=by rw[<-h8];rfl
       subst hA;have h1:((k:Int),(2:Int))=(R1,R2):=kj;obtain⟨q1,q2⟩:=b8 h1;subst q1 q2;clear h8 kj hb h1
       repeat' first|(with_reducible first|apply aj|apply aI|apply aE|apply av|apply aK|apply af|apply au|refine And.intro ?_ ?_|refine bY ?_ ?_|refine cw (c1) ?_|intro _)|(simp[*,h3,ha])|(refine ar (c1) ?_ ?_;(· (simp[*];done)))
       all_goals first|omega|exact aN (by omega) (by omega)
     .have h5:j=(nth wt k).length:=by omega
      subst h5;have kj2:br (A=false):=keep (by rw[<-h8];simp);clear h8 kj
      repeat' first|(with_reducible first|apply aj|apply aK|apply af|apply au|intro _)|(simp[*,h3])
      all_goals first
       |omega
       |(refine bN () ?_ ?_;(· exact kj2);(refine aM ?_ ?_<;>first|trivial|(simp[*];done)))
    .subst hf;have kj2:br (fY (λ_=>gr ab.length) (wt.drop (k+1)) (k+1) (g7 os.length ab.length zs)=(R1,R2)):=kj;clear kj kA
     repeat' first|(with_reducible first|apply af|refine And.intro ?_ ?_|intro _)|(simp[*,h3])
     all_goals first
      |omega
      |exact aN (by omega) (by omega)
      |(refine nx (k+1) ?_ ?_;(· exact⟨by omega,kj2⟩);(refine aM ?_ ?_<;>first|trivial|(simp[*];done)))
   .rw[decide_eq_false hl] at hj;have h1:((k:Int),(10:Int))=(R1,R2):=hj;obtain⟨q1,q2⟩:=b8 h1;subst q1 q2;clear hj h1
    repeat' first|(with_reducible first|apply aj|apply aI|apply aE|apply av|apply aK|apply af|refine bm (id:=22) 10 mixed (by decide +kernel) ?_|apply au|refine bY ?_ ?_|intro _)|(simp[*,h3,hl])
    all_goals first|omega|exact aN (by omega) (by omega)
  .have h5:k=wt.length:=by omega
   subst h5;rw[jK,Ge] at hj;have kj:=keep hj;clear hj
   repeat' first|(with_reducible first|apply aj|apply aK|apply af|apply au|intro _)|(simp[*,a3])
   all_goals first
    |omega
    |(refine bN () ?_ ?_;(· exact kj);(refine aM ?_ ?_<;>first|trivial|(simp[*];done)))
 clear kT;unfold g7 at hf;by_cases a4:(64:Int)<zs.length
 .rw[az a4] at hf;obtain⟨q1,q2⟩:=b8 hf;subst q1 q2;clear hf
  repeat' first|(with_reducible first|apply aj|apply av|apply af|apply au|intro _)|(simp[*,a4])
  all_goals first|omega|exact aN (by omega) (by omega)|assumption
 rw[ai a4] at hf;have kS:br (fQ (jG os.length ab.length zs) (zs.drop 0) 0=(R1,R2)):=hf;clear hf
 repeat' first|(with_reducible first|apply aj|apply aE|apply af|apply au|intro _)|(simp[*,a4])
 refine gj 1 (λ(k:Nat)=>k<=zs.length/\fQ (jG os.length ab.length zs) (zs.drop k) k=(R1,R2)) [1] (λ(k:Nat)=>[(10,.w false false (.int .i64 k))]) [0] (λ(k:Nat)=>[]) (λ(k:Nat)=>zs.length-k) (λ(_u:Unit)=>R1=0/\R2=0) [] (λ(_u:Unit)=>[]) [0] (λ(_u:Unit)=>[]) (0) ⟨aR _,kS⟩ (bU [] (by simp) (by simp)) (λk hk=>?_) (λ_u hf=>?_)
 .obtain⟨hk,hj⟩:=hk;clear kS;by_cases h3:k<zs.length
  .have c1:=zbg (zs.take k) (by rw[nM];omega) (nth zs k);rw[Cr hk] at c1;have w1:=zbh ab os wt zs (by omega) (nth zs k).1;have w2:=zbi ab os wt zs (by omega) (nth zs k).2;rw[fC zs k h3,fQ] at hj;have hE:jG os.length ab.length zs k (nth zs k)=dc [aP (aL (nth zs k).1 0 ((os.length:Int)-1)&&aL (nth zs k).2 0 ((ab.length:Int)-1)) 6,aP (!(hasB (zs.take k) (nth zs k))) 26]:=rfl;rw[hE] at hj;clear hE;unfold Tw.cg at c1;generalize aL (nth zs k).1 0 ((os.length:Int)-1)=g1 at *;generalize aL (nth zs k).2 0 ((ab.length:Int)-1)=g2 at *;generalize hasB (zs.take k) (nth zs k)=g3 at *
   have fin:∀e:Int,e≠0->((if e=0 then fQ (jG os.length ab.length zs) (zs.drop (k+1)) (k+1) else ((k:Int),e))=(R1,R2))->(k:Int)=R1/\e=R2:=λe he h=>by rw[ai he] at h;exact b8 h
   cases g1 with
   |false=>
    obtain⟨q1,q2⟩:=fin 6 (by decide) hj;subst q1 q2;clear hj fin
    repeat' first|(with_reducible first|apply aj|apply aI|apply aE|apply av|apply af|apply au|refine And.intro ?_ ?_|refine cw (w1) ?_|intro _)|(simp[*,h3,Tw.cg])|(refine ar (w1) ?_ ?_;(· (simp[*];done)))
    all_goals first|omega|exact aN (by omega) (by omega)
   |true=>
    cases g2 with
    |false=>
     obtain⟨q1,q2⟩:=fin 6 (by decide) hj;subst q1 q2;clear hj fin
     repeat' first|(with_reducible first|apply aj|apply aI|apply aE|apply av|apply af|apply au|refine And.intro ?_ ?_|refine cw (w1) ?_|refine cw (w2) ?_|intro _)|(simp[*,h3,Tw.cg])|(refine ar (w1) ?_ ?_;(· (simp[*];done)))|(refine ar (w2) ?_ ?_;(· (simp[*];done)))
     all_goals first|omega|exact aN (by omega) (by omega)
    |true=>
     cases g3 with
     |true=>
      obtain⟨q1,q2⟩:=fin 26 (by decide) hj;subst q1 q2;clear hj fin
      repeat' first|(with_reducible first|apply aj|apply aI|apply aE|apply av|apply af|refine bm (id:=37) 6 mixed (by decide +kernel) ?_|apply au|refine And.intro ?_ ?_|refine cw (w1) ?_|refine cw (w2) ?_|refine cw (c1) ?_|intro _)|(simp[*,h3,Tw.cg])|(refine ar (w1) ?_ ?_;(· (simp[*];done)))|(refine ar (w2) ?_ ?_;(· (simp[*];done)))|(refine ar (c1) ?_ ?_;(· (simp[*];done)))
      all_goals first|omega|exact aN (by omega) (by omega)
     |false=>
      have kj:br (fQ (jG os.length ab.length zs) (zs.drop (k+1)) (k+1)=(R1,R2)):=hj;clear hj fin
      repeat' first|(with_reducible first|apply aj|apply aI|apply aE|apply af|refine bm (id:=37) 6 mixed (by decide +kernel) ?_|apply au|refine And.intro ?_ ?_|refine cw (w1) ?_|refine cw (w2) ?_|refine cw (c1) ?_|intro _)|(simp[*,h3,Tw.cg])|(refine ar (w1) ?_ ?_;(· (simp[*];done)))|(refine ar (w2) ?_ ?_;(· (simp[*];done)))|(refine ar (c1) ?_ ?_;(· (simp[*];done)))
      all_goals first
       |omega
       |exact aN (by omega) (by omega)
       |(refine nx (k+1) ?_ ?_;(· exact⟨by omega,kj⟩);(refine bU [] ?_ ?_<;>first|trivial|(simp[*];done)))
  .have h5:k=zs.length:=by omega
   subst h5;rw[jK] at hj;have hj:((0:Int),(0:Int))=(R1,R2):=hj;have kj:br (R1=0/\R2=0):=keep ⟨(b8 hj).1.symm,(b8 hj).2.symm⟩;clear hj
   repeat' first|(with_reducible first|apply aj|apply aK|apply af|apply au|intro _)|(simp[*,a4])
   all_goals first
    |omega
    |(refine bN () ?_ ?_;(· exact kj);(refine aM ?_ ?_<;>first|trivial|(simp[*];done)))
 .obtain⟨rfl,rfl⟩:=hf
  repeat' first|(with_reducible first|apply aj|apply av|apply af|intro _)|(simp[*])
def C8(ab:List Car)(os:List Ord)(zs:List Par)(i k:Nat):Bool:=
 (decide ((nth os i).2.1<=(nth ab k).2.1)&&((nth ab k).2.2 || !(nth os i).2.2.1)) && !hasB zs ((i:Int),(k:Int))
theorem zbu(r:Tw.RND)(i k:Nat)(hi:i<r.os.length)(hk:k<r.ab.length):nth (nth (bz r).fit i) k=C8 r.ab r.os r.zs i k:=by
 have e1:nth (bz r).fit i=Tw.lA r i:=by
  unfold bz;simp[nth,da,hi]
 have e2:nth (Tw.lA r i) k=Tw.Bn (Tw.odW (Tw.odR r) i 0 0 0) k:=by
  show nth ((List.range r.ab.length).map _) k=_;simp[nth,da,hk]
 rw[e1,e2]
 have e3:Tw.pL r.zs (i:Int) (k:Int)=hasB r.zs ((i:Int),(k:Int)):=by
  unfold Tw.pL hasB;congr 1
  funext z
  obtain⟨a,b⟩:=z;rw[Bool.eq_iff_iff];simp only[beq_iff_eq,bE,di,decide_eq_true_eq];exact⟨λh=>⟨h.1.symm,h.2.symm⟩,λh=>⟨h.1.symm,h.2.symm⟩⟩
 show ((decide (((r.ab.getD k (default,0,false)).2.1)>=(r.os.getD i (default,0,false,0)).2.1)&&((r.ab.getD k (default,0,false)).2.2 || !(r.os.getD i (default,0,false,0)).2.2.1))&&(!Tw.pL r.zs i k))=_;rw[e3]
 have h1:r.ab.getD k (default,0,false)=nth r.ab k:=by simp[nth,da,hk]
 have h2:r.os.getD i (default,0,false,0)=nth r.os i:=by simp[nth,da,hi]
 rw[h1,h2];rfl
theorem zeb(ab:List Car)(os:List Ord)(wt:List (List Int))(zs:List Par)(a5:ab.length<=1000)(ag:os.length<=1000)(aq:wt.length<100000)(aw:zs.length<100000)(hc:∀x∈ab,x.1.size<1000000)(ho:∀x∈os,x.1.size<1000000)(hw:∀x∈wt,x.length<100000):aB Tz.prog 20 [.agg [.sl ab.length (bf ab),.sl os.length (ba os),.sl wt.length (bP wt),.sl zs.length (aZ zs)]] (.int .i64 (g8 ab os wt zs).2) true:=by
 have c:=zea ab os wt zs a5 ag aq aw hc ho hw;generalize g8 ab os wt zs=R at *;clear hc ho hw;refine rcK Tz.func20 ?_;simp only[Tryz.results20,Tryz.ntmps20]
 repeat' first|(with_reducible first|apply aj|apply av|apply af|refine And.intro ?_ ?_|refine cw (c) ?_|intro _)|(simp[*])|(refine ar (c) ?_ ?_;(· (simp[*];done)))
end Go.Proofs.YthpkmilhiganjaaGreat
namespace Go.Proofs.YthpkmilhiganjaaGreat
open Go Go.Fi
noncomputable instance zgq:ak:=LD
theorem zec(ex:List Int)(n:Nat):cH ex (n+1)=if cX ex n then cH ex n+1 else cH ex n:=by
 unfold cH;rw[Ak];split<;>simp
section
variable(x:Rd)(os cs:List Int)
end
theorem zed(x:Rd)(ok:cE x)(U V:Nat->Int)(b9:∀i,i<x.os.length->U i<=de (prio x i))(bh:∀i k,i<x.os.length->k<x.ab.length->nth (nth x.fit i) k=true->U i<=nth (nth x.wt i) k+V k)(hv:∀k,k<x.ab.length->0<=V k)(plan:List Int)(hp:C7 x plan):cN U x.os.length-cN V x.ab.length<=eF x plan:=by
 have lU:((List.range x.os.length).map U).length=x.os.length:=by simp
 have lV:((List.range x.ab.length).map V).length=x.ab.length:=by simp
 have nU:∀i,i<x.os.length->nth ((List.range x.os.length).map U) i=U i:=λi hi=>ql _ _ _ hi
 have nV:∀k,k<x.ab.length->nth ((List.range x.ab.length).map V) k=V k:=λk hk=>ql _ _ _ hk
 have h1:=zcq x ok ((List.range x.os.length).map U) ((List.range x.ab.length).map V) plan hp lU (λi hi=>by
  rw[lU] at hi;rw[nU i hi]
  refine zbt _ _ _ _ _ (b9 i hi) _ λk hk hr=>?_
  rw[ok.fr i hi] at hk;rw[nV k hk]
  exact bh i k hi hk hr) plan.length (aD _)
 have h2:=zd5 x ((List.range x.ab.length).map V) plan hp (λc hc=>by rw[nV c hc];exact hv c hc);have e1:plan.length=x.os.length:=hp.len;unfold eF;rw[e1] at h1 h2 ⊢;rw[zbb _ U _ nU] at h1;rw[zbb _ V _ nV] at h2;omega
theorem zee(x:Rd)(ok:cE x):eF x (bB x)=cN (nth (cp x).u) x.os.length-cN (nth (bK x)) x.ab.length:=by
 rw[zd6 x ok,zbb (n5 x) (nth (cp x).u) _ (λk hk=>zcs x ok k hk),C5]
theorem zef(x y:Rd)(okx:cE x)(oky:cE y)(hc:y.ab.length=x.ab.length)(ho:y.os.length=x.os.length)(hp:∀i,i<x.os.length->prio y i=prio x i)(hf:∀i k,i<x.os.length->k<x.ab.length->nth (nth y.fit i) k=true->nth (nth x.fit i) k=true/\nth (nth x.wt i) k<=nth (nth y.wt i) k):eF x (bB x)<=eF y (bB y):=by
 have b:=D9 x okx
 have:=zed y oky (nth (cp x).u) (nth (bK x)) (λi hi=>by rw[ho] at hi;rw[hp i hi];exact b.pe i hi) (λi k hi hk ax=>by
  rw[ho] at hi;rw[hc] at hk;obtain⟨h1,h2⟩:=hf i k hi hk ax;have:=b.wt i k hi hk h1
  omega) (λk hk=>by rw[hc] at hk;exact (b.v0 k hk).1) (bB y) (zcu y oky)
 rw[ho,hc] at this;rw[zee x okx];exact this
section
variable(r:Tw.RND)(h:ceR r=0)(os cs:List Int)
end
theorem zeg(k:Nat):cX [] k=true:=rfl
theorem zc2(n:Nat):cH [] n=n:=by
 induction n with
 |zero=>rfl
 |succ n ih=>rw[zec,zeg,ih];rfl
def cn(f:Nat->Bool):Nat->Nat
 |0=>0
 |n+1=>cn f n+if f n then 1 else 0
noncomputable instance zgs:ak:=LD
noncomputable instance zgu:ak:=LD
section
variable[ak]
theorem EX(n:Nat):eM [] n=List.range n:=by
 unfold eM
 exact List.filter_eq_self.2 λk _=>rfl
theorem E1{α:Type}[Inhabited α](l:List α):(List.range l.length).map (nth l)=l:=by
 refine List.ext_getElem (by simp) λi h1 h2=>?_
 simp[EO l i h2]
theorem zeh(x:Rd)(i:Nat)(h:(nth x.wt i).length=x.ab.length):kz x [] i x.ab.length=nth x.wt i:=by unfold kz;rw[EX,<-h];exact E1 _
end
noncomputable instance zgw:ak:=LD
theorem zei(os cs:List Int)(n c:Nat)(p:Par):mH os cs n c p=if (0<=p.1/\p.1<(n:Int)/\cX os p.1.toNat=true)/\(0<=p.2/\p.2<(c:Int)/\cX cs p.2.toNat=true) then [((cH os p.1.toNat:Int),(cH cs p.2.toNat:Int))] else []:=by
 unfold mH;rw[D4,D4];by_cases h1:0<=p.1/\p.1<(n:Int)/\cX os p.1.toNat=true
 .by_cases h2:0<=p.2/\p.2<(c:Int)/\cX cs p.2.toNat=true
  .rw[az h1,az h2,az ⟨h1,h2⟩]
  .rw[az h1,ai h2,ai (λh=>h2 h.2)]
 .rw[ai h1];refine Eq.trans ?_ (ai (λh=>h1 h.1)).symm;generalize (if 0<=p.2/\p.2<(c:Int)/\cX cs p.2.toNat=true then some ((cH cs p.2.toNat:Nat):Int) else none)=z
  cases z<;>rfl
section
variable(x:Rd)(os cs:List Int)
theorem zej{α β:Type}{f g:α->β}{l:List α}(h:∀y∈l,f y=g y):l.map f=l.map g:=Ij h
theorem zek(y:Rd)(a b:List Int):ku y a b y.zs.length=y.zs.flatMap (mH a b y.os.length y.ab.length):=by unfold ku;rw[List.take_length]
end
noncomputable instance instLD38:ak:=LD
theorem zc3(f:Nat->Int)(k:Nat):(List.range (k+1)).map f=(List.range k).map f++[f k]:=by simp[xx]
theorem zc4(r:Tw.RND)(h:ceR r=0):aB Tz.prog 25 [Tw.cu r] (.tup [zbr (bz r),.int .i64 0]) false:=by
 have ok:=Bd r h;have c1:=nG r;rw[qJ r h] at c1;generalize hx:bz r=x at *;clear hx h;have mi:=D6 x ok;have c2:=zd4 x ok
 have c3:=zd3 (dS x x.os.length) x.os.length x.ab.length (x.ab.length+x.os.length) rfl (zb1 x _) (λi hi=>by
  have:nth (dS x x.os.length) i=mF x i:=ql _ _ _ hi
  rw[this,zdk]) (C4 x ok)
 have eA:l9 (λi j=>nth (nth (dS x x.os.length) i) j) x.os.length (x.ab.length+x.os.length) x.os.length=cp x:=rfl;rw[eA] at c3;clear eA;have c4:=zdf x ok (bB x) (zco x ok)
 have c5:=λi hi=>zde x i (bK x) hi (by have:=ok.lc;omega) (by have:=ok.lf;omega) (by have:=ok.lw;omega) (ok.fr i hi) (ok.wr i hi) (by simp[bK]) (ok.pr i hi) (ok.wn i hi) (λk hk=>by have:=zcm x ok k hk;omega)
 have lcar:(bK x).length=x.ab.length:=by simp[bK]
 have lpl:(bB x).length=x.os.length:=qk _ _ _;rw[lcar] at c5;rw[lpl] at c4;have r1:=D5 (-1) x.os.length (by have:=ok.lo;omega);have lo:=ok.lo;have lc:=ok.lc
 have mv:∀k,k<x.ab.length->inI .i64 (-(nth (cp x).v k)):=λk hk=>by
  have h1:=mi.hv k (by omega);have h2:=mi.vb (C4 x ok) (aD _) (j:=k) (by omega);exact aN (by omega) (by omega)
 have mo:∀k,k<x.ab.length->nth (cp x).ow k=-1\/(0<=nth (cp x).ow k/\nth (cp x).ow k<(x.os.length:Int)):=λk hk=>mi.how k (by omega)
 have ml:=mi.lo;have mlv:=mi.lv
 have eC:bK x=(List.range x.ab.length).map λk=>-(nth (cp x).v k):=rfl
 have eO:n5 x=(List.range x.os.length).map λi=>eB x i (bK x):=rfl
 have eP:bB x=cM (cp x).ow x.os.length x.ab.length:=rfl;unfold zbr;unfold zbq at c3;generalize eF x (bB x)=CO at *;generalize bK x=BC at *;generalize n5 x=BO at *;generalize bB x=BP at *;generalize cp x=A at *;obtain⟨Au,Av,Ao⟩:=A;dsimp only at c3 mv mo ml mlv eC eO eP;generalize dS x x.os.length=TS at *;obtain⟨m,hm⟩:∃m,x.ab.length+x.os.length=m:=⟨_,rfl⟩;rw[hm] at c3 ml mlv
 have hmI:(x.ab.length:Int)+(x.os.length:Int)=(m:Int):=by omega
 have b6:inI .i64 (m:Int):=aN (by omega) (by omega);have kk:=keep (And.intro mv (And.intro mo (And.intro c5 (And.intro hm (And.intro lo lc)))));have kC:=keep eC;have kO:=keep eO;have kP:=keep eP;clear mi ok mv mo c5 hm lo lc eC eO eP;unfold Rd.pv at c1 c2 c4;unfold Tw.cu at *;generalize r.j6=p1 at *;generalize r.osP=p2 at *;generalize r.mn=p3 at *;generalize r.zsP=p4 at *;refine rcK Tz.func25 ?_;simp only[Tryz.results25,Tryz.ntmps25]
 repeat' first|(with_reducible first|apply aj|apply aE|apply af|refine bm (id:=5) 12 mixed (by decide +kernel) ?_|apply au|refine And.intro ?_ ?_|refine cw (c1) ?_|refine cw (c2) ?_|refine cw (c3) ?_|refine cwM (r1) ?_|intro _)|(simp[*,hmI,b6])|(refine ar (c1) ?_ ?_;(· (simp[*];done)))|(refine ar (c2) ?_ ?_;(· (simp[*];done)))|(refine ar (c3) ?_ ?_;(· (simp[*];done)))
 all_goals try first|omega|assumption
 clear c1 c2 c3 r1;have e1:iA (cM Ao x.os.length 0)=iA (List.replicate x.os.length (-1)):=rfl;have e0:iA []=[]:=rfl;have e2:iA ((List.range 0).map λk=>-(nth Av k))=[]:=rfl;refine gj 6 (λ(k:Nat)=>k<=x.ab.length) [2,4,7,8,47] (λ(k:Nat)=>[(48,.w false false (.int .i64 k))]) [1] (λ(k:Nat)=>[(4,iA (cM Ao x.os.length k)),(5,iA ((List.range k).map λk=>-(nth Av k))),(2,[.msl 4 x.os.length 1 0 x.os.length,.w false false (.int .i64 0),.w true true (.sl 0 []),.msl 5 k 1 0 k])]) (λ(k:Nat)=>x.ab.length-k) (λ(_u:Unit)=>True) [2,4,8] (λ(_u:Unit)=>[]) [1] (λ(_u:Unit)=>[(4,iA BP),(5,iA BC),(2,[.msl 4 x.os.length 1 0 x.os.length,.w false false (.int .i64 0),.w true true (.sl 0 []),.msl 5 x.ab.length 1 0 x.ab.length])]) (0) (aR _) (bU [] (by simp[e1,e2,e0]) (by simp[e1,e2,e0])) (λk hk=>?_) (λ_u hf=>?_)
 .clear e1 e2 e0;by_cases h3:k<x.ab.length
  .obtain⟨mv,mo,c5,hm,lo,lc⟩:=kk;have h':inI .i64 ((k:Int)+1):=aN (by omega) (by omega)
   have hz:k+1<=x.ab.length:=by omega
   have hiv:=mv k h3;have hh:=mo k h3
   have aa:k<Av.length:=by omega
   have a':k<Ao.length:=by omega
   have a6:k<m:=by omega
   have ao:=qk Ao x.os.length k
   have h9:((List.range k).map λk=>-(nth Av k)).length=k:=by simp
   have eS:iA ((List.range (k+1)).map λk=>-(nth Av k))=iA ((List.range k).map λk=>-(nth Av k))++[.w false false (.int .i64 (-(nth Av k)))]:=by rw[zc3,<-LS];rfl
   have eP:cM Ao x.os.length (k+1)=if 0<=nth Ao k then (cM Ao x.os.length k).set (nth Ao k).toNat k else cM Ao x.os.length k:=rfl
   have b5:k+1<=1000000000:=by omega
   generalize ((List.range k).map λk=>-(nth Av k))=CK at h9 eS ⊢;clear mv mo c5 hm lo lc kC kO kP
   rcases hh with hh|⟨h1,h2⟩
   .rw[ai (by omega)] at eP
    repeat' first|(with_reducible first|apply aj|apply aI|apply aE|apply af|refine bm (id:=14) 12 mixed (by decide +kernel) ?_|apply au|intro _)|(simp[*,h3,h',hiv,hh,aa,a',a6,ml,mlv,ao,h9])
    all_goals first
     |omega
     |assumption
     |(refine nx (k+1) ?_ ?_;(· exact hz);(refine bU [] ?_ ?_<;>first|trivial|(simp[*,eS,eP];done)))
   .obtain⟨j,hj⟩:∃j:Nat,nth Ao k=j:=⟨(nth Ao k).toNat,by omega⟩;rw[hj,az (by omega),fM] at eP
    have b4:j<x.os.length:=by omega
    have ay:(0:Int)<=(j:Int):=by omega
    clear h1 h2
    repeat' first|(with_reducible first|apply aj|apply aI|apply aE|apply af|refine bm (id:=14) 12 mixed (by decide +kernel) ?_|apply au|refine And.intro ?_ ?_|intro _)|(simp[*,h3,h',hiv,hj,aa,a',a6,ml,mlv,ao,h9,b4,ay])
    all_goals first
     |omega
     |assumption
     |(refine nx (k+1) ?_ ?_;(· exact hz);(refine bU [] ?_ ?_<;>first|trivial|(simp[*,eS,eP];done)))
  .have h5:k=x.ab.length:=by omega
   subst h5
   have kC2:BC=(List.range x.ab.length).map λk=>-(nth Av k):=kC
   have kP2:BP=cM Ao x.os.length x.ab.length:=kP;clear kk kC kO kP
   repeat' first|(with_reducible first|apply aj|apply aK|apply af|apply au|intro _)|(simp[*,h3])
   all_goals first
    |omega
    |(refine bN () ?_ ?_;(· trivial);(refine aM ?_ ?_<;>first|trivial|(simp[*,kC2,kP2];done)))
 .clear e1 e2 e0 kC kP
  repeat' first|(with_reducible first|apply aj|apply af|intro _)|(simp[*])
  have e0:iA []=[]:=rfl;have e3:iA ((List.range 0).map λi=>eB x i BC)=[]:=rfl;refine gj 7 (λ(i:Nat)=>i<=x.os.length) [2,4,8,86] (λ(i:Nat)=>[(87,.w false false (.int .i64 i))]) [1,4,5] (λ(i:Nat)=>[(6,iA ((List.range i).map λi=>eB x i BC)),(2,[.msl 4 x.os.length 1 0 x.os.length,.w false false (.int .i64 0),.msl 6 i 1 0 i,.msl 5 x.ab.length 1 0 x.ab.length])]) (λ(i:Nat)=>x.os.length-i) (λ(_u:Unit)=>True) [2,4,8] (λ(_u:Unit)=>[]) [1,4,5] (λ(_u:Unit)=>[(6,iA BO),(2,[.msl 4 x.os.length 1 0 x.os.length,.w false false (.int .i64 0),.msl 6 x.os.length 1 0 x.os.length,.msl 5 x.ab.length 1 0 x.ab.length])]) (0) (aR _) (bU [] (by simp[e3,e0]) (by simp[e3,e0])) (λi hk=>?_) (λ_u hf=>?_)
  .clear e3 e0;by_cases h3:i<x.os.length
   .obtain⟨mv,mo,c5,hm,lo,lc⟩:=kk;have h':inI .i64 ((i:Int)+1):=aN (by omega) (by omega)
    have hz:i+1<=x.os.length:=by omega
    have c:=c5 i h3;unfold Rd.pv at c
    have h9:((List.range i).map λi=>eB x i BC).length=i:=by simp
    have eS:iA ((List.range (i+1)).map λi=>eB x i BC)=iA ((List.range i).map λi=>eB x i BC)++[.w false false (.int .i64 (eB x i BC))]:=by rw[zc3,<-LS];rfl
    have b5:i+1<=1000000000:=by omega
    generalize ((List.range i).map λi=>eB x i BC)=OK at h9 eS ⊢;generalize eB x i BC=pr at c eS;clear mv mo c5 hm lo lc kO
    repeat' first|(with_reducible first|apply aj|apply aI|apply aE|apply af|refine bm (id:=19) 10 mixed (by decide +kernel) ?_|apply au|refine And.intro ?_ ?_|refine cw (c) ?_|intro _)|(simp[*,h3,h',h9,lcar])|(refine ar (c) ?_ ?_;(· (simp[*];done)))
    all_goals first
     |omega
     |assumption
     |(refine nx (i+1) ?_ ?_;(· exact hz);(refine bU [] ?_ ?_<;>first|trivial|(simp[*,eS];done)))
   .have h5:i=x.os.length:=by omega
    subst h5
    have kO2:BO=(List.range x.os.length).map λi=>eB x i BC:=kO
    clear kk kO
    repeat' first|(with_reducible first|apply aj|apply aK|apply af|apply au|intro _)|(simp[*,h3])
    all_goals first
     |omega
     |(refine bN () ?_ ?_;(· trivial);(refine aM ?_ ?_<;>first|trivial|(simp[*,kO2];done)))
  .clear e3 e0 kk
   have lbo:BO.length=x.os.length:=by rw[show BO=_ from kO];simp
   clear kO
   repeat' first|(with_reducible first|apply aj|apply av|apply af|refine And.intro ?_ ?_|refine cw (c4) ?_|intro _)|(simp[*,lpl,lcar,lbo])|(refine ar (c4) ?_ ?_;(· (simp[*];done)))
theorem zbj[ak](x:Rd)(h:x.os.length<100000)(n:Int):aB Tz.prog 90 [x.pv,.int .i64 n] (.int .i64 (aP (aL n 0 ((x.os.length:Int)-1)) 6)) true:=by
 obtain⟨ab,os,wt,zs,fit⟩:=x;unfold Rd.pv;simp only[] at h ⊢;refine rcK Tz.func90 ?_;simp only[Tryz.results90,Tryz.ntmps90]
 repeat' first|(with_reducible first|apply aj|apply av|apply af|refine And.intro ?_ ?_|refine cw (gk _ _ _) ?_|refine cw (eh _ _) ?_|intro _)|(simp[*])|(refine ar (gk _ _ _) ?_ ?_;(· (simp[*];done)))|(refine ar (eh _ _) ?_ ?_;(· (simp[*];done)))
 all_goals first
  |exact aN (by omega) (by omega)
  |omega
noncomputable instance zgx:ak:=LD
theorem zel(r:Tw.RND)(h:ceR r=0)(i k:Nat)(hi:i<r.os.length)(hk:k<r.ab.length):aB Tz.prog 56 [Tw.cu r,.int .i64 i,.int .i64 k] (.tup [.bool (C8 r.ab r.os r.zs i k),.int .i64 0]) true:=by
 have ok:=Bd r h;have c1:=nG r;rw[qJ r h] at c1;have c2:=zbj (bz r) (by have:=ok.lo;omega) i;have c3:=AM (bz r) (by have:=ok.lc;omega) k
 have e1:aL (i:Int) 0 (((bz r).os.length:Int)-1)=true:=by
  have:(bz r).os.length=r.os.length:=rfl;simp[aL];omega
 have e2:aL (k:Int) 0 (((bz r).ab.length:Int)-1)=true:=by
  have:(bz r).ab.length=r.ab.length:=rfl;simp[aL];omega
 rw[e1] at c2;rw[e2] at c3;have c4:=AE 0 0;rw[show dc [0,0]=0 from rfl] at c4;have c2:aB Tz.prog 90 [(bz r).pv,.int .i64 i] (.int .i64 0) true:=c2;have c3:aB Tz.prog 91 [(bz r).pv,.int .i64 k] (.int .i64 0) true:=c3
 have hf:i<(bz r).fit.length:=by rw[ok.lf];exact hi
 have hr:k<(nth (bz r).fit i).length:=by rw[ok.fr i hi];exact hk
 rw[<-zbu r i k hi hk];clear e1 e2 ok h hi hk;unfold Rd.pv at *;generalize bz r=x at *;unfold Tw.cu at *;generalize r.j6=p1 at *;generalize r.osP=p2 at *;generalize r.mn=p3 at *;generalize r.zsP=p4 at *;refine rcK Tz.func56 ?_;simp only[Tryz.results56,Tryz.ntmps56]
 repeat' first|(with_reducible first|apply aj|apply aE|apply av|apply af|apply au|refine And.intro ?_ ?_|refine cw (c1) ?_|refine cw (c2) ?_|refine cw (c3) ?_|refine cw (c4) ?_|intro _)|(simp[*,hf,hr])|(refine ar (c1) ?_ ?_;(· (simp[*];done)))|(refine ar (c2) ?_ ?_;(· (simp[*];done)))|(refine ar (c3) ?_ ?_;(· (simp[*];done)))|(refine ar (c4) ?_ ?_;(· (simp[*];done)))
 all_goals first|omega
noncomputable instance instLDE82:ak:=LD
theorem zem(x:Rd)(h:Rt x.ab x.os x.wt x.zs):hH x [] x.ab.length=x.ab/\fb x [] x.os.length=x.os/\kB x [] [] x.os.length=x.wt/\ku x [] [] x.zs.length=x.zs:=by
 have eC:hH x [] x.ab.length=x.ab:=by unfold hH;rw[EX,E1]
 have eO:fb x [] x.os.length=x.os:=by unfold fb;rw[EX,E1]
 have eW:kB x [] [] x.os.length=x.wt:=by
  unfold kB;rw[EX,<-h.lw]
  have:∀i∈List.range x.wt.length,kz x [] i x.ab.length=nth x.wt i:=λi hi=>zeh x i (h.wr _ (zbc (qn.1 hi))).1
  rw[zej this,E1]
 have eZ:ku x [] [] x.zs.length=x.zs:=by
  rw[zek]
  have key:∀l:List Par,(∀p∈l,aL p.1 0 ((x.os.length:Int)-1)=true/\aL p.2 0 ((x.ab.length:Int)-1)=true)->l.flatMap (mH [] [] x.os.length x.ab.length)=l:=λl hl=>by
   induction l with
   |nil=>rfl
   |cons p l ih=>
    rw[mG,ih λq hq=>hl q (dQ _ hq),zei];obtain⟨h1,h2⟩:=hl p iR;have h1:=kQ.1 h1;have h2:=kQ.1 h2;rw[az ⟨⟨h1.1,by omega,rfl⟩,h2.1,by omega,rfl⟩,zc2,zc2]
    have e1:((p.1.toNat:Nat):Int)=p.1:=by omega
    have e2:((p.2.toNat:Nat):Int)=p.2:=by omega
    rw[e1,e2];rfl
  exact key _ h.zr
 exact⟨eC,eO,eW,eZ⟩
def pairIn(zs:List Par)(o c:Int):Bool:=zs.any λy=>decide (o=y.1)&&decide (c=y.2)
def decE(r:Tw.RND)(o c:Int):Int:=
 dc [aP (aL o 0 ((r.os.length:Int)-1)) 6,aP (aL c 0 ((r.ab.length:Int)-1)) 6,aP (!pairIn r.zs o c) 26,aP (decide ((r.zs.length:Int)<64)) 16]
theorem zen(x:Rd)(ok:cE x)(h:Rt x.ab x.os x.wt x.zs):jz Tz.prog 87 [x.pv,.sl 0 [],.sl 0 []] [cA (aZ x.zs)] (.agg [.w true false (.sl x.ab.length (bf x.ab)),.w true false (.sl x.os.length (ba x.os)),.w true false (.sl x.wt.length (bP x.wt)),.msl 0 (x.zs.length*2) 2 0 x.zs.length]):=by
 have m:=zdx x ok [] [] (by simp) (by simp);obtain⟨e1,e2,e3,e4⟩:=zem x h;rw[e1,e2,e3,e4] at m;exact m
theorem zeo(r:Tw.RND)(h:ceR r=0)(o c:Int)(he:decE r o c=0):aB Tz.prog 62 [Tw.cu r,.int .i64 o,.int .i64 c] (.tup [.agg [.sl r.ab.length (bf r.ab),.sl r.os.length (ba r.os),.sl r.wt.length (bP r.wt),.sl (r.zs.length+1) (aZ (r.zs++[(o,c)]))],.int .i64 0]) false:=by
 have c1:=nG r;rw[qJ r h] at c1;have ok:=Bd r h;have c2:=zbj (bz r) (by have:=ok.lo;omega) o;have c3:=AM (bz r) (by have:=ok.lc;omega) c;have c4:=AK r.zs (by have:=ok.lz;have e:(bz r).zs=r.zs:=rfl;rw[e] at this;omega) (o,c);have c5:=zen (bz r) ok ((zbf r).1 h)
 have c6:=λ(b:Bool)(e:Int)=>eh b e
 have c7:=sV [aP (aL o 0 ((r.os.length:Int)-1)) 6,aP (aL c 0 ((r.ab.length:Int)-1)) 6,aP (!pairIn r.zs o c) 26,aP (decide ((r.zs.length:Int)<64)) 16] (by simp);have c7:aB Tz.prog 70 [.sl 4 [.int .i64 (aP (aL o 0 ((r.os.length:Int)-1)) 6),.int .i64 (aP (aL c 0 ((r.ab.length:Int)-1)) 6),.int .i64 (aP (!pairIn r.zs o c) 26),.int .i64 (aP (decide ((r.zs.length:Int)<64)) 16)]] (.int .i64 (decE r o c)) true:=c7;rw[he] at c7
 change aB Tz.prog _ _ (.int .i64 (aP (aL o 0 ((r.os.length:Int)-1)) 6)) _ at c2
 change aB Tz.prog _ _ (.int .i64 (aP (aL c 0 ((r.ab.length:Int)-1)) 6)) _ at c3
 change aB Tz.prog _ _ (.bool (pairIn r.zs o c)) _ at c4
 have c8:=c6 (!pairIn r.zs o c) 26;have c9:=c6 (decide ((r.zs.length:Int)<64)) 16
 have hz:r.zs.length<1000:=by have:=ok.lz;have e:(bz r).zs=r.zs:=rfl;rw[e] at this;omega
 generalize aP (aL o 0 ((r.os.length:Int)-1)) 6=e1 at *;generalize aP (aL c 0 ((r.ab.length:Int)-1)) 6=e2 at *;generalize aP (!pairIn r.zs o c) 26=e3 at *;generalize aP (decide ((r.zs.length:Int)<64)) 16=e4 at *;generalize pairIn r.zs o c=b1 at *
 have ec:cA (aZ r.zs)++[.w false false (.int .i64 o),.w false false (.int .i64 c)]=cA (aZ (r.zs++[(o,c)])):=by
  rw[P3]
 have c5:jz Tz.prog 87 [(bz r).pv,.sl 0 [],.sl 0 []] [cA (aZ r.zs)] (.agg [.w true false (.sl r.ab.length (bf r.ab)),.w true false (.sl r.os.length (ba r.os)),.w true false (.sl r.wt.length (bP r.wt)),.msl 0 (r.zs.length*2) 2 0 r.zs.length]):=c5;have er:Tw.cu r=.agg [.sl r.ab.length (bf r.ab),.sl r.os.length (ba r.os),.sl r.wt.length (bP r.wt),.sl r.zs.length (aZ r.zs)]:=rfl;rw[er] at c1 ⊢;have h9:=CN r.zs
 change aB Tz.prog _ [.sl r.zs.length (aZ r.zs),.agg [.int .i64 o,.int .i64 c]] _ _ at c4
 clear c6 he h ok er;generalize bz r=x at *;unfold Rd.pv at *;generalize r.ab.length=n1 at *;generalize bf r.ab=p1 at *;generalize r.os.length=n2 at *;generalize ba r.os=p2 at *;generalize r.wt.length=n3 at *;generalize bP r.wt=p3 at *;refine rcK Tz.func62 ?_;simp only[Tryz.results62,Tryz.ntmps62]
 repeat' first|(with_reducible first|apply aj|apply aI|apply dq|apply cT|apply aE|apply av|apply aK|apply af|refine bm (id:=5) 20 mixed (by decide +kernel) ?_|apply au|refine And.intro ?_ ?_|apply dG|apply dH|exact dI|exact dJ|exact dt|exact dB|exact du|exact dC|exact dw|exact dD|exact dz|exact dE|exact dA|exact dF|refine dk ?_ ?_|refine dj ?_ ?_ |  refine cD ?_ ?_|refine bY ?_ ?_|refine dm ?_ ?_|refine cK ?_ ?_|refine dp ?_ ?_|refine cw (c1) ?_|refine cw (c2) ?_|refine cw (c3) ?_|refine cw (c4) ?_|refine cw (c8) ?_|refine cw (c9) ?_|refine cw (c7) ?_|refine cwM (c5) ?_|intro _)|(simp[*,ec,h9,cA_sh,Tw.cg,fL])|(refine ar (c1) ?_ ?_;(· (simp[*];done)))|(refine ar (c2) ?_ ?_;(· (simp[*];done)))|(refine ar (c3) ?_ ?_;(· (simp[*];done)))|(refine ar (c4) ?_ ?_;(· (simp[*];done)))|(refine ar (c8) ?_ ?_;(· (simp[*];done)))|(refine ar (c9) ?_ ?_;(· (simp[*];done)))|(refine ar (c7) ?_ ?_;(· (simp[*];done)))
 all_goals first|omega|assumption
end Go.Proofs.YthpkmilhiganjaaGreat
