/- Lemmas. -/
import Derived.Test.YthpkmilhiganjaaGreatPEa
import Derived.Test.YthpkmilhiganjaaGreatPDa
import Derived.Test.YthpkmilhiganjaaGreatPDb
import Derived.Test.YthpkmilhiganjaaGreatPLe
import Derived.Test.YthpkmilhiganjaaGreatPLg
set_option linter.all false
set_option maxHeartbeats 32000000
set_option maxRecDepth 100000
namespace Go.Proofs.YthpkmilhiganjaaGreat
open Go Go.Fi
variable[bE]
def hasB(l:List Par)(v:Par):Bool:=l.any λy=>decide (v.1=y.1)&&decide (v.2=y.2)
theorem tC(l:List Par)(hl:l.length<100000)(v:Par):bX Tz.prog 110 [.sl l.length (dc l),.agg (Tw.eI v)] (.bool (hasB l v)) true:=by
 unfold hasB;generalize hR:(l.any λy=>decide (v.1=y.1)&&decide (v.2=y.2))=R;have kR:dp ((l.drop 0).any (λy=>decide (v.1=y.1)&&decide (v.2=y.2))=R):=keep hR;clear hR;obtain⟨v1,v2⟩:=v;simp only[Tw.eI];refine rcK Tz.func110 ?_;simp only[Tryz.results110,Tryz.ntmps110]
 repeat' first|(with_reducible first|apply bI|apply bH|intro _)|simp[*]
 refine fH (λ(k:Nat)=>k<=l.length/\(l.drop k).any (λy=>decide (v1=y.1)&&decide (v2=y.2))=R) [0,3] (λ(k:Nat)=>[(5,.w false false (.int .i64 k))]) [0] (λ(k:Nat)=>[]) (λ(k:Nat)=>l.length-k) (λ(_u:Unit)=>R=false) [] (λ(_u:Unit)=>[]) [0] (λ(_u:Unit)=>[]) (0) ⟨cG _,kR⟩ ae ae (λk hk=>?_) (λ_u hf=>?_)
 .obtain⟨hk,hj⟩:=hk;by_cases h5:k<l.length
  .rw[gb l k h5,Di] at hj;by_cases h1:(nth l k).1=v1
   .by_cases h2:(nth l k).2=v2
    .have hR:R=true:=by rw[<-hj];simp[h1,h2]
     subst hR;clear hj kR
     repeat' first|(with_reducible first|apply bI|apply dk|apply cg|apply bV|apply bH|refine dD (id:=4) 6 mixed ai ?_|apply bP|refine And.intro ?_ ?_|intro _)|simp[*,h5,h1,h2,Tw.eI]
     omega
    .have a':¬v2=(nth l k).2:=λe=>h2 e.symm
     have kj:dp ((l.drop (k+1)).any (λy=>decide (v1=y.1)&&decide (v2=y.2))=R):=keep (by rw[<-hj];simp[a']);clear hj kR a'
     repeat' first|(with_reducible first|apply bI|apply dk|apply cg|apply bH|refine dD (id:=4) 6 mixed ai ?_|apply bP|refine And.intro ?_ ?_|intro _)|simp[*,h5,h1,h2,Tw.eI]
     all_goals first
      |omega
      |exact db ab ab
      |(refine nR _ _ _ _ _ (k+1) _ ?_ ab ?_;(· trivial);(refine cY ?_ ?_<;>first|trivial|simp))
   .have a6:¬v1=(nth l k).1:=λe=>h1 e.symm
    have kj:dp ((l.drop (k+1)).any (λy=>decide (v1=y.1)&&decide (v2=y.2))=R):=keep (by rw[<-hj];simp[a6]);clear hj kR a6
    repeat' first|(with_reducible first|apply bI|apply dk|apply cg|apply bH|refine dD (id:=4) 6 mixed ai ?_|apply bP|refine And.intro ?_ ?_|intro _)|simp[*,h5,h1,Tw.eI]
    all_goals first
     |omega
     |exact db ab ab
     |(refine nR _ _ _ _ _ (k+1) _ ?_ ab ?_;(· trivial);(refine cY ?_ ?_<;>first|trivial|simp))
  .have h8:k=l.length:=ab
   subst h8;have kj:dp (R=false):=keep (by rw[<-hj];simp);clear hj kR
   repeat' first|(with_reducible first|apply bI|apply dg|apply bH|apply bP|intro _)|simp[*]
   all_goals first
    |(refine dQ () ?_ ?_;(· exact kj);(refine cY ?_ ?_<;>first|trivial|(simp[*];done)))
 .subst hf
  repeat' first|(with_reducible first|apply bI|apply bV|apply bH|intro _)|simp[*]
theorem tE(bD:List Car)(os:List Ord)(wt:List (List Int))(zs:List Par)(ho:os.length<100000)(n:Int):bX Tz.prog 43 [.agg [.sl bD.length (di bD),.sl os.length (dh os),.sl wt.length (dH wt),.sl zs.length (dc zs)],.int .i64 n] (.bool (cj n 0 ((os.length:Int)-1))) true:=by
 refine rcK Tz.func43 ?_;simp only[Tryz.results43,Tryz.ntmps43]
 repeat' first|(with_reducible first|apply bI|apply bV|apply bH|refine And.intro ?_ ?_|refine cw (m7 _ _ _) ?_|intro _)|simp[*]|(refine bJ (m7 _ _ _) ?_ ?_;· simp[*];done)
 all_goals first|omega|exact db ab ab
theorem tP(bD:List Car)(os:List Ord)(wt:List (List Int))(zs:List Par)(ho:bD.length<100000)(n:Int):bX Tz.prog 45 [.agg [.sl bD.length (di bD),.sl os.length (dh os),.sl wt.length (dH wt),.sl zs.length (dc zs)],.int .i64 n] (.bool (cj n 0 ((bD.length:Int)-1))) true:=by
 refine rcK Tz.func45 ?_;simp only[Tryz.results45,Tryz.ntmps45]
 repeat' first|(with_reducible first|apply bI|apply bV|apply bH|refine And.intro ?_ ?_|refine cw (m7 _ _ _) ?_|intro _)|simp[*]|(refine bJ (m7 _ _ _) ?_ ?_;· simp[*];done)
 all_goals first|omega|exact db ab ab
theorem tS(bD:List Car)(os:List Ord)(wt:List (List Int))(zs:List Par)(ag:bD.length<=1000)(aw:os.length<=1000)(ax:wt.length<100000)(ay:zs.length<100000)(hc:∀x∈bD,x.1.size<1000000)(ho:∀x∈os,x.1.size<1000000)(hw:∀x∈wt,x.length<100000):bX Tz.prog 58 [.agg [.sl bD.length (di bD),.sl os.length (dh os),.sl wt.length (dH wt),.sl zs.length (dc zs)]] (.tup [.int .i64 (iV bD os wt zs).1,.int .i64 (iV bD os wt zs).2]) true:=by
 generalize hR:iV bD os wt zs=R;obtain⟨R1,R2⟩:=R;unfold iV at hR;have kc:=keep hc;have ko:=keep ho;have kw:=keep hw;clear hc ho hw;by_cases a1:(8:Int)<bD.length
 .rw[cu a1] at hR;obtain⟨q1,q2⟩:=dK hR;subst q1 q2;clear hR;refine rcK Tz.func58 ?_;simp only[Tryz.results58,Tryz.ntmps58]
  repeat' first|(with_reducible first|apply bI|apply bV|apply bH|apply bP|intro _)|simp[*,a1]
  all_goals first|omega|exact db ab ab|assumption
 rw[bN a1] at hR;generalize hN:hZ Prod.fst gr bD=N at hR;obtain⟨N1,N2⟩:=N;have kN:dp (gu Prod.fst gr bD (bD.drop 0) 0=(N1,N2)):=hN;have kR:=keep hR;clear hR hN;refine rcK Tz.func58 ?_;simp only[Tryz.results58,Tryz.ntmps58]
 repeat' first|(with_reducible first|apply bI|apply cg|apply bH|apply bP|intro _)|simp[*,a1]
 refine fH (λ(k:Nat)=>k<=bD.length/\gu Prod.fst gr bD (bD.drop k) k=(N1,N2)) [1] (λ(k:Nat)=>[(4,.w false false (.int .i64 k))]) [0] (λ(k:Nat)=>[]) (λ(k:Nat)=>bD.length-k) (λ(_u:Unit)=>N1=0/\N2=0) [1] (λ(_u:Unit)=>[]) [0] (λ(_u:Unit)=>[]) (0) ⟨cG _,kN⟩ ae ae (λk hk=>?_) (λ_u hf=>?_)
 .obtain⟨hk,hj⟩:=hk;by_cases h5:k<bD.length
  .have c1:=tu bD os wt zs k h5 ab kc;rw[gb bD k h5,gu] at hj;generalize iF Prod.fst gr bD k (nth bD k)=e at hj c1;by_cases he:e=0
   .rw[cu he] at hj;subst he;have kj:=keep hj;clear hj
    repeat' first|(with_reducible first|apply bI|apply dk|apply cg|apply bH|apply bP|refine And.intro ?_ ?_|intro _)|simp[*,h5]|(refine bJ (c1) ?_ ?_;· simp[*];done)
    all_goals first
     |omega
     |exact db ab ab
     |(refine nR _ _ _ _ _ (k+1) _ ?_ ab ?_;(· trivial);(refine cY ?_ ?_<;>first|trivial|simp))
   .rw[bN he] at hj;obtain⟨g1,g2⟩:=dK hj;have h1:=(dK (show (N1,N2)=(R1,R2) by have h:=kR;unfold dp at h;rw[cu (show (N1,N2).2≠0 fromλh0=>he (g2.trans h0))] at h;exact h));have q1:(k:Int)=R1:=g1.trans h1.1;have q2:e=R2:=g2.trans h1.2;subst q1 q2;clear hj kR g1 g2 h1 kN
    repeat' first|(with_reducible first|apply bI|apply dk|apply cg|apply bV|apply bH|apply bP|refine And.intro ?_ ?_|intro _)|simp[*,h5,he]|(refine bJ (c1) ?_ ?_;· simp[*];done)
    all_goals first|omega|exact db ab ab|assumption
  .have h8:k=bD.length:=ab
   subst h8;rw[kI] at hj;have hj:((0:Int),(0:Int))=(N1,N2):=hj;have kj:dp (N1=0/\N2=0):=keep ⟨(dK hj).1.symm,(dK hj).2.symm⟩;clear hj
   repeat' first|(with_reducible first|apply bI|apply dg|apply bH|apply bP|intro _)|simp[*]
   all_goals first
    |omega
    |(refine dQ () ?_ ?_;(· exact kj);(refine cY ?_ ?_<;>first|trivial|(simp[*];done)))
 obtain⟨rfl,rfl⟩:=hf;have hR:(if (8:Int)<os.length then ((0:Int),(8:Int)) else if (hZ Prod.fst fQ os).2≠0 then hZ Prod.fst fQ os else if (wt.length:Int)≠os.length then (0,10) else gU (λ_=>iG bD.length) wt 0 (iU os.length bD.length zs))=(R1,R2):=kR;clear kR kN;by_cases a2:(8:Int)<os.length
 .rw[cu a2] at hR;obtain⟨q1,q2⟩:=dK hR;subst q1 q2;clear hR
  repeat' first|(with_reducible first|apply bI|apply bV|apply bH|apply bP|intro _)|simp[*,a2]
  all_goals first|omega|exact db ab ab|assumption
 rw[bN a2] at hR;generalize hN:hZ Prod.fst fQ os=M at hR;obtain⟨M1,M2⟩:=M;have kM:dp (gu Prod.fst fQ os (os.drop 0) 0=(M1,M2)):=hN;have kR:=keep hR;clear hR hN
 repeat' first|(with_reducible first|apply bI|apply cg|apply bH|apply bP|intro _)|simp[*,a2]
 refine fH (λ(k:Nat)=>k<=os.length/\gu Prod.fst fQ os (os.drop k) k=(M1,M2)) [1] (λ(k:Nat)=>[(6,.w false false (.int .i64 k))]) [0] (λ(k:Nat)=>[]) (λ(k:Nat)=>os.length-k) (λ(_u:Unit)=>M1=0/\M2=0) [1] (λ(_u:Unit)=>[]) [0] (λ(_u:Unit)=>[]) (0) ⟨cG _,kM⟩ ae ae (λk hk=>?_) (λ_u hf=>?_)
 .obtain⟨hk,hj⟩:=hk;by_cases h5:k<os.length
  .have c1:=tv bD os wt zs k h5 ab ko;rw[gb os k h5,gu] at hj;generalize iF Prod.fst fQ os k (nth os k)=e at hj c1;by_cases he:e=0
   .rw[cu he] at hj;subst he;have kj:=keep hj;clear hj
    repeat' first|(with_reducible first|apply bI|apply dk|apply cg|apply bH|apply bP|refine And.intro ?_ ?_|intro _)|simp[*,h5]|(refine bJ (c1) ?_ ?_;· simp[*];done)
    all_goals first
     |omega
     |exact db ab ab
     |(refine nR _ _ _ _ _ (k+1) _ ?_ ab ?_;(· trivial);(refine cY ?_ ?_<;>first|trivial|simp))
   .rw[bN he] at hj;obtain⟨g1,g2⟩:=dK hj;have h1:=(dK (show (M1,M2)=(R1,R2) by have h:=kR;unfold dp at h;rw[cu (show (M1,M2).2≠0 fromλh0=>he (g2.trans h0))] at h;exact h));have q1:(k:Int)=R1:=g1.trans h1.1;have q2:e=R2:=g2.trans h1.2;subst q1 q2;clear hj kR g1 g2 h1 kM
    repeat' first|(with_reducible first|apply bI|apply dk|apply cg|apply bV|apply bH|apply bP|refine And.intro ?_ ?_|intro _)|simp[*,h5,he]|(refine bJ (c1) ?_ ?_;· simp[*];done)
    all_goals first|omega|exact db ab ab|assumption
  .have h8:k=os.length:=ab
   subst h8;rw[kI] at hj;have hj:((0:Int),(0:Int))=(M1,M2):=hj;have kj:dp (M1=0/\M2=0):=keep ⟨(dK hj).1.symm,(dK hj).2.symm⟩;clear hj
   repeat' first|(with_reducible first|apply bI|apply dg|apply bH|apply bP|intro _)|simp[*]
   all_goals first
    |omega
    |(refine dQ () ?_ ?_;(· exact kj);(refine cY ?_ ?_<;>first|trivial|(simp[*];done)))
 obtain⟨rfl,rfl⟩:=hf;have hR:(if (wt.length:Int)≠os.length then ((0:Int),(10:Int)) else gU (λ_=>iG bD.length) wt 0 (iU os.length bD.length zs))=(R1,R2):=kR;clear kR kM;by_cases a3:(wt.length:Int)=os.length
 rotate_left
 .rw[cu a3] at hR;obtain⟨q1,q2⟩:=dK hR;subst q1 q2;clear hR
  repeat' first|(with_reducible first|apply bI|apply bV|apply bH|apply bP|intro _)|simp[*,a3]
  all_goals first|omega|exact db ab ab|assumption
 rw[bN (λh=>h a3)] at hR;have kT:dp (gU (λ_=>iG bD.length) (wt.drop 0) 0 (iU os.length bD.length zs)=(R1,R2)):=hR;clear hR
 repeat' first|(with_reducible first|apply bI|apply cg|apply bH|apply bP|intro _)|simp[*,a3]
 refine fH (λ(k:Nat)=>k<=wt.length/\gU (λ_=>iG bD.length) (wt.drop k) k (iU os.length bD.length zs)=(R1,R2)) [1] (λ(k:Nat)=>[(8,.w false false (.int .i64 k))]) [0] (λ(k:Nat)=>[]) (λ(k:Nat)=>wt.length-k) (λ(_u:Unit)=>iU os.length bD.length zs=(R1,R2)) [1] (λ(_u:Unit)=>[]) [0] (λ(_u:Unit)=>[]) (0) ⟨cG _,kT⟩ ae ae (λk hk=>?_) (λ_u hf=>?_)
 .obtain⟨hk,hj⟩:=hk;clear kT;by_cases h5:k<wt.length
  .have h9:=kw _ (mZ h5);rw[gb wt k h5,GX] at hj;unfold iG at hj;by_cases hl:((nth wt k).length:Int)=bD.length
   .rw[decide_eq_true hl] at hj
    have hj:(if da (!((nth wt k).any λx=>!cj x 0 100000)) 2=0 then gU (λ_=>iG bD.length) (wt.drop (k+1)) (k+1) (iU os.length bD.length zs) else ((k:Int),da (!((nth wt k).any λx=>!cj x 0 100000)) 2))=(R1,R2):=by
     rw[<-hj];simp only[eo,da]
     cases ((nth wt k).any λx=>!cj x 0 100000)<;>rfl
    generalize hA:((nth wt k).any λx=>!cj x 0 100000)=A at hj;have kA:dp (((nth wt k).drop 0).any (λx=>!cj x 0 100000)=A):=hA;have kj:=keep hj;clear hj hA
    repeat' first|(with_reducible first|apply bI|apply dk|apply cg|apply dg|apply bH|refine dD (id:=22) 10 mixed ai ?_|apply bP|refine j0 ?_ ?_|intro _)|simp[*,h5,hl]
    all_goals try first|omega|assumption
    refine fH (λ(j:Nat)=>j<=(nth wt k).length/\((nth wt k).drop j).any (λx=>!cj x 0 100000)=A) [1,8] (λ(j:Nat)=>[(9,.w false false (.int .i64 j))]) [0] (λ(j:Nat)=>[]) (λ(j:Nat)=>(nth wt k).length-j) (λ(_u:Unit)=>A=false) [1,8] (λ(_u:Unit)=>[]) [0] (λ(_u:Unit)=>[]) (0) ⟨cG _,kA⟩ ae ae (λj hk=>?_) (λ_u hf=>?_)
    .obtain⟨b9,hh⟩:=hk;clear kA;by_cases hg:j<(nth wt k).length
     .rw[gb _ j hg,Di] at hh;have c1:=m7 (nth (nth wt k) j) 0 100000
      cases hb:cj (nth (nth wt k) j) 0 100000 with
      |true=>
       rw[hb] at hh c1;have kj2:dp (((nth wt k).drop (j+1)).any (λx=>!cj x 0 100000)=A):=keep hh;clear hh kj hb
       repeat' first|(with_reducible first|apply bI|apply dk|apply cg|apply dg|apply bH|apply bP|refine And.intro ?_ ?_|refine j0 ?_ ?_|intro _)|simp[*,h5,hg]|(refine bJ (c1) ?_ ?_;· simp[*];done)
       all_goals first
        |omega
        |exact db ab ab
        |(refine nR _ _ _ _ _ (j+1) _ ?_ ab ?_;(· trivial);(refine cY ?_ ?_<;>first|trivial|simp))
      |false=>
       rw[hb] at hh c1
       have hA:A=true:=by rw[<-hh];rfl
       subst hA;have h1:((k:Int),(2:Int))=(R1,R2):=kj;obtain⟨q1,q2⟩:=dK h1;subst q1 q2;clear hh kj hb h1
       repeat' first|(with_reducible first|apply bI|apply dk|apply cg|apply bV|apply dg|apply bH|apply bP|refine And.intro ?_ ?_|refine j0 ?_ ?_|intro _)|simp[*,h5,hg]|(refine bJ (c1) ?_ ?_;· simp[*];done)
       omega
     .have h8:j=(nth wt k).length:=ab
      subst h8;have kj2:dp (A=false):=keep (by rw[<-hh];simp);clear hh kj
      repeat' first|(with_reducible first|apply bI|apply dg|apply bH|apply bP|intro _)|simp[*,h5]
      all_goals first
       |omega
       |(refine dQ () ?_ ?_;(· exact kj2);(refine cY ?_ ?_<;>first|trivial|simp))
    .subst hf;have kj2:dp (gU (λ_=>iG bD.length) (wt.drop (k+1)) (k+1) (iU os.length bD.length zs)=(R1,R2)):=kj;clear kj kA
     repeat' first|(with_reducible first|apply bH|refine And.intro ?_ ?_|intro _)|simp[*,h5]
     all_goals first
      |omega
      |exact db ab ab
      |(refine nR _ _ _ _ _ (k+1) _ ?_ ab ?_;(· trivial);(refine cY ?_ ?_<;>first|trivial|simp))
   .rw[decide_eq_false hl] at hj;have h1:((k:Int),(10:Int))=(R1,R2):=hj;obtain⟨q1,q2⟩:=dK h1;subst q1 q2;clear hj h1
    repeat' first|(with_reducible first|apply bI|apply dk|apply cg|apply bV|apply dg|apply bH|refine dD (id:=22) 10 mixed ai ?_|apply bP|refine j0 ?_ ?_|intro _)|simp[*,h5,hl]
    omega
  .have h8:k=wt.length:=ab
   subst h8;rw[kI,GY] at hj;have kj:=keep hj;clear hj
   repeat' first|(with_reducible first|apply bI|apply dg|apply bH|apply bP|intro _)|simp[*,a3]
   all_goals first
    |omega
    |(refine dQ () ?_ ?_;(· exact kj);(refine cY ?_ ?_<;>first|trivial|(simp[*];done)))
 clear kT;unfold iU at hf;by_cases a4:(64:Int)<zs.length
 .rw[cu a4] at hf;obtain⟨q1,q2⟩:=dK hf;subst q1 q2;clear hf
  repeat' first|(with_reducible first|apply bI|apply bV|apply bH|apply bP|intro _)|simp[*,a4]
  all_goals first|omega|exact db ab ab|assumption
 rw[bN a4] at hf;have kS:dp (gG (lN os.length bD.length zs) (zs.drop 0) 0=(R1,R2)):=hf;clear hf
 repeat' first|(with_reducible first|apply bI|apply cg|apply bH|apply bP|intro _)|simp[*,a4]
 refine Bf 1 (λ(k:Nat)=>k<=zs.length/\gG (lN os.length bD.length zs) (zs.drop k) k=(R1,R2)) [1] (λ(k:Nat)=>[(10,.w false false (.int .i64 k))]) [0] (λ(k:Nat)=>[]) (λ(k:Nat)=>zs.length-k) (λ(_u:Unit)=>R1=0/\R2=0) [] (λ(_u:Unit)=>[]) [0] (λ(_u:Unit)=>[]) (0) ⟨cG _,kS⟩ (eJ [] ae ae) (λk hk=>?_) (λ_u hf=>?_)
 .obtain⟨hk,hj⟩:=hk;clear kS;by_cases h5:k<zs.length
  .have c1:=tC (zs.take k) (by rw[jP];omega) (nth zs k);rw[Df hk] at c1;have w1:=tE bD os wt zs ab (nth zs k).1;have w2:=tP bD os wt zs ab (nth zs k).2;rw[gb zs k h5,gG] at hj;have hE:lN os.length bD.length zs k (nth zs k)=eo [da (cj (nth zs k).1 0 ((os.length:Int)-1)&&cj (nth zs k).2 0 ((bD.length:Int)-1)) 6,da (!(hasB (zs.take k) (nth zs k))) 26]:=rfl;rw[hE] at hj;clear hE;unfold Tw.eI at c1;generalize cj (nth zs k).1 0 ((os.length:Int)-1)=g1 at *;generalize cj (nth zs k).2 0 ((bD.length:Int)-1)=g2 at *;generalize hasB (zs.take k) (nth zs k)=g3 at *
   have fin:∀e:Int,e≠0->((if e=0 then gG (lN os.length bD.length zs) (zs.drop (k+1)) (k+1) else ((k:Int),e))=(R1,R2))->(k:Int)=R1/\e=R2:=λe he h=>by rw[bN he] at h;simp_all
   cases g1 with
   |false=>
    obtain⟨q1,q2⟩:=fin 6 af hj;subst q1 q2;clear hj fin
    repeat' first|(with_reducible first|apply bI|apply dk|apply cg|apply bV|apply bH|apply bP|refine And.intro ?_ ?_|intro _)|simp[*,h5,Tw.eI]|(refine bJ (w1) ?_ ?_;· simp[*];done)
    omega
   |true=>
    cases g2 with
    |false=>
     obtain⟨q1,q2⟩:=fin 6 af hj;subst q1 q2;clear hj fin
     repeat' first|(with_reducible first|apply bI|apply dk|apply cg|apply bV|apply bH|apply bP|refine And.intro ?_ ?_|intro _)|simp[*,h5,Tw.eI]|(refine bJ (w1) ?_ ?_;· simp[*];done)|(refine bJ (w2) ?_ ?_;· simp[*];done)
     omega
    |true=>
     cases g3 with
     |true=>
      obtain⟨q1,q2⟩:=fin 26 af hj;subst q1 q2;clear hj fin
      repeat' first|(with_reducible first|apply bI|apply dk|apply cg|apply bV|apply bH|refine dD (id:=37) 6 mixed ai ?_|apply bP|refine And.intro ?_ ?_|intro _)|simp[*,h5,Tw.eI]|(refine bJ (w1) ?_ ?_;· simp[*];done)|(refine bJ (w2) ?_ ?_;· simp[*];done)|(refine bJ (c1) ?_ ?_;· simp[*];done)
      omega
     |false=>
      have kj:dp (gG (lN os.length bD.length zs) (zs.drop (k+1)) (k+1)=(R1,R2)):=hj;clear hj fin
      repeat' first|(with_reducible first|apply bI|apply dk|apply cg|apply bH|refine dD (id:=37) 6 mixed ai ?_|apply bP|refine And.intro ?_ ?_|intro _)|simp[*,h5,Tw.eI]|(refine bJ (w1) ?_ ?_;· simp[*];done)|(refine bJ (w2) ?_ ?_;· simp[*];done)|(refine bJ (c1) ?_ ?_;· simp[*];done)
      all_goals first
       |omega
       |exact db ab ab
       |(refine nR _ _ _ _ _ (k+1) _ ?_ ab ?_;(· trivial);(refine eJ [] ?_ ?_<;>first|trivial|(simp[*];done)))
  .have h8:k=zs.length:=ab
   subst h8;rw[kI] at hj;have hj:((0:Int),(0:Int))=(R1,R2):=hj;have kj:dp (R1=0/\R2=0):=keep ⟨(dK hj).1.symm,(dK hj).2.symm⟩;clear hj
   repeat' first|(with_reducible first|apply bI|apply dg|apply bH|apply bP|intro _)|simp[*,a4]
   all_goals first
    |omega
    |(refine dQ () ?_ ?_;(· exact kj);(refine cY ?_ ?_<;>first|trivial|(simp[*];done)))
 .obtain⟨rfl,rfl⟩:=hf
  repeat' first|(with_reducible first|apply bI|apply bV|apply bH|intro _)|simp[*]
theorem ub(bD:List Car)(os:List Ord)(wt:List (List Int))(zs:List Par)(ag:bD.length<=1000)(aw:os.length<=1000)(ax:wt.length<100000)(ay:zs.length<100000)(hc:∀x∈bD,x.1.size<1000000)(ho:∀x∈os,x.1.size<1000000)(hw:∀x∈wt,x.length<100000):bX Tz.prog 20 [.agg [.sl bD.length (di bD),.sl os.length (dh os),.sl wt.length (dH wt),.sl zs.length (dc zs)]] (.int .i64 (iV bD os wt zs).2) true:=by
 have c:=tS bD os wt zs ag aw ax ay hc ho hw;generalize iV bD os wt zs=R at *;clear hc ho hw;refine rcK Tz.func20 ?_;simp only[Tryz.results20,Tryz.ntmps20]
 repeat' first|(with_reducible first|apply bI|apply bV|apply bH|refine And.intro ?_ ?_|intro _)|simp[*]|(refine bJ (c) ?_ ?_;· simp[*];done)
end Go.Proofs.YthpkmilhiganjaaGreat
namespace Go.Proofs.YthpkmilhiganjaaGreat
open Go Go.Fi
noncomputable instance zd3:bE:=LD
theorem vb(ex:List Int)(n:Nat):bw ex (n+1)=if lK ex n then bw ex n+1 else bw ex n:=by
 unfold bw;rw[ic];split<;>simp
section
variable(x:Rd)(os cs:List Int)
end
section
variable(r:Tw.RND)(h:ceR r=0)(os cs:List Int)
end
theorem k7(k:Nat):lK [] k=true:=rfl
theorem cq(n:Nat):bw [] n=n:=by
 induction n with
 |zero=>rfl
 |succ n ih=>rw[vb,k7,ih];rfl
def cn(f:Nat->Bool):Nat->Nat
 |0=>0
 |n+1=>cn f n+if f n then 1 else 0
noncomputable instance zd5:bE:=LD
noncomputable instance zd7:bE:=LD
section
variable[bE]
theorem wu(l:List Int):eD (iA l)=true:=wX false false _ (gm.2 λy hy=>by obtain⟨v,_,rfl⟩:=ja.1 hy;rfl)
theorem wv(l:List Int)(h:l.length<100000):mf Tz.prog 24 [.sl l.length (ints l)] [iA l] (.msl 0 l.length 1 0 l.length):=by
 have e:(ints l).map (AV.w false false)=iA l:=rfl;have g:=wu l;refine uh 0 [] Tz.func24 aj rfl (ij aj) ae (by intro c hc;simp only[sV] at hc;subst hc;exact eB l) ?_;simp only[Tryz.results24,Tryz.ntmps24]
 repeat' first|(with_reducible first|apply bI|apply bV|apply bH|refine And.intro ?_ ?_|intro _)|simp[*,e,g]
 omega
end
end Go.Proofs.YthpkmilhiganjaaGreat
namespace Go.Proofs.YthpkmilhiganjaaGreat
open Go Go.Fi
variable[bE]
@[simp]theorem LP(M:List (List Int)):qP (M.map iA)=True:=eq_true λc hc D h n n'=>by
 obtain⟨r,_,rfl⟩:=ja.1 hc;exact tZ false false _
theorem ej(M:List (List Int)):(M.map iA)=(M.map ints).map λc=>c.map (AV.w false false):=by
 rw[qW];rfl
theorem z7{h:bz}{d b:Nat}{ls:List Nat}(M:List (List Int))(hl:M.map List.length=ls)(hd:0<d)(hf:iW h b (M.map iA)):(ms1 b ls).mapM (frz h d)=some (dH M):=by
 have:=He (d:=d) hd (M.map ints) b (by rw[<-ej];exact hf);rw[qW] at this
 have e1:M.map (List.length ∘ ints)=ls:=by rw[<-hl];exact qV (λr _=>ae)
 rw[e1] at this;rw[this,qW];congr 1;exact qV (λr _=>by simp[Tw.uG];rfl)
theorem Ak{h:bz}{d b:Nat}{ls:List Nat}(M:List (List Int))(hl:M.map List.length=ls)(hf:iW h b (M.map iA)):(ms1 b ls).all (eh h (d+1))=true:=by
 have:=Hf (d:=d) (M.map ints) b (λc hc=>by obtain⟨r,_,rfl⟩:=ja.1 hc;exact eA r) (by rw[<-ej];exact hf);rw[qW] at this
 have e1:M.map (List.length ∘ ints)=ls:=by rw[<-hl];exact qV (λr _=>ae)
 rw[e1] at this;exact this
@[simp]theorem LR(n:Nat):(AV.sh.shL n ∘ iA)=iA:=funext λl=>C6 n l
theorem eM{α β:Type}[Inhabited α](f:α->β)(m:List α)(k:Nat)(h:k<m.length):List.take (k+1) (List.map f m)=List.take k (List.map f m)++[f (nth m k)]:=by
 rw[<-List.map_take,rF m k h,JF,List.map_take];rfl
theorem Ao(m:List (List Int))(hl:m.length<100000)(h9:∀w∈m,w.length<100000):mf Tz.prog 74 [.sl m.length (dH m)] (ms1 1 (m.map List.length)::m.map iA) (.msl 0 m.length 1 0 m.length):=by
 refine uh 0 [] Tz.func74 aj rfl (ij aj) ae ?_ ?_
 .intro c hc
  rcases dU.1 hc with h|h
  .subst h;simp
  .obtain⟨r,_,rfl⟩:=ja.1 h;exact eB r
 simp only[Tryz.results74,Tryz.ntmps74]
 repeat' first|(with_reducible first|apply bI|apply bH|intro _)|simp[*]
 refine oW (λ(k:Nat)=>k+1) (λ(_u:Unit)=>m.length+1) (λ(k:Nat)=>k<=m.length) [0] (λ(k:Nat)=>[(3,.msl 0 k 1 0 k),(4,.w false false (.int .i64 k))]) [] (λ(k:Nat)=>(0,ms1 1 ((m.take k).map List.length))::ck [] 1 ((m.take k).map iA)) (λ(k:Nat)=>m.length-k) (λ(_u:Unit)=>True) [] (λ(_u:Unit)=>[(3,.msl 0 m.length 1 0 m.length)]) [] (λ(_u:Unit)=>(0,ms1 1 (m.map List.length))::ck [] 1 (m.map iA)) (0) (cG _) (eJ [] ae ae) (λk hk=>?_) (λ_u hf=>?_)
 .by_cases h5:k<m.length
  .have bh:=h9 _ (bt h5)
   have hlI:(k:Int)<(m.length:Int):=ab
   clear h9;have cc:=wv (nth m k) ab
   have hlen:(m.take k).length=k:=by rw[jP];omega
   have k1:=keep (eM iA m k h5);have k2:=keep (eM List.length m k h5);have b6:min k m.length=k:=JE hk;have hi:inI .i64 ((k:Int)+1):=db ab ab
   repeat' first|(with_reducible first|apply bI|apply A9|apply cg|apply bH|apply bP|refine And.intro ?_ ?_|refine cwM (cc) ?_|intro _)|simp[*,h5,hlI,hlen,hi]
   all_goals try first|omega|assumption
   all_goals (refine nx (k+1) ?_ ?_;(· omega);(refine eJ [] ?_ ?_<;>first|trivial|(simp[*,show List.take (k+1) (List.map iA m)=_ from k1,show List.take (k+1) (List.map List.length m)=_ from k2,G9,Hb,hlen];done)))
  .have h8:k=m.length:=ab
   subst h8
   repeat' first|(with_reducible first|apply bI|apply dg|apply bH|apply bP|intro _)|simp[*]
   all_goals first
    |(refine dQ () ?_ ?_;(· trivial);(refine eJ [] ?_ ?_<;>first|trivial|(simp[*,List.take_length];done)))
 .repeat' first|(with_reducible first|apply bI|apply bV|apply bH|intro _)|simp[*]
  all_goals first|omega
omit [bE] in
theorem eN{D:List Nat}{k:Nat}(hk:k∈D):∀h:bz,bY (oE D h) k=bY h k
 |[]=>rfl
 |(a,v)::r=>by
  unfold oE;by_cases ha:a∈D
  .rw[cu ha];simp only[bY];rw[eN hk r]
  .rw[bN ha,eN hk r]
   have:a≠k:=λe=>ha (e▸hk)
   simp only[bY];rw[bN this]
theorem Au(r:Tw.RND):mf Tz.prog 18 [Tw.dR r] (ms1 1 (r.wt.map List.length)::r.wt.map iA) (.agg [.w true false (.sl r.bD.length (di r.bD)),.w true false (.sl r.os.length (dh r.os)),.msl 0 r.wt.length 1 0 r.wt.length,.w true false (.sl r.zs.length (dc r.zs))]):=by
 obtain⟨bD,os,wt,zs,fj⟩:=r;obtain⟨f1,f2,f3,f4,f5,f6,f7⟩:=fj;have c1:=Ao wt f6 f3;unfold Tw.dR Tw.RND.oB Tw.RND.osP Tw.RND.qF Tw.RND.zsP Tw.RND.nw Tw.RND.wait;simp only[]
 change mf Tz.prog 18 [.agg [.sl bD.length (di bD),.sl os.length (dh os),.sl wt.length (dH wt),.sl zs.length (dc zs)]] (ms1 1 (wt.map List.length)::wt.map iA) (.agg [.w true false (.sl bD.length (di bD)),.w true false (.sl os.length (dh os)),.msl 0 wt.length 1 0 wt.length,.w true false (.sl zs.length (dc zs))])
 clear f1 f2 f3 f6;refine uh 5 [2,3,4] Tz.func18 aj rfl (ij aj) ae ?_ ?_
 .intro c hc
  rcases dU.1 hc with h|h
  .subst h;simp
  .obtain⟨r,_,rfl⟩:=ja.1 h;exact eB r
 simp only[Tryz.results18,Tryz.ntmps18]
 repeat' first|(with_reducible first|apply bI|apply bV|apply bH|refine tX (id:=1) [0,1,2,4,5,6,8,9,11,12,13] [3,7,10,14,15,16] [[],[],[],[.new 0],[.new 0],[.new 0],[.new 0,.new 1],[.new 0,.new 1],[.new 0,.new 1],[.new 0,.new 1],[.new 0,.new 1]] [[.new 0],[.new 1],[],[.new 2],[],[.slot 2]] mixed ai ?_|refine And.intro ?_ ?_|refine cwM (c1) ?_|intro _)|(simp[*,eN,show 5+(wt.length+1)=wt.length+6 from ab])
 all_goals first
  |omega
  |(rename_i hx;first|exact (xd _ _ hx).1|exact (xe _ _ hx).1|exact (xg _ _ hx).1)
  |(refine wX false false _ (gm.2 λy hy=>?_);first|exact (xd _ _ hy).2|exact (xe _ _ hy).2|exact (xg _ _ hy).2)
end Go.Proofs.YthpkmilhiganjaaGreat
namespace Go.Proofs.YthpkmilhiganjaaGreat
open Go Go.Fi
noncomputable instance zea:bE:=LD
section
variable(x:Rd)(os cs:List Int)
end
noncomputable instance instLD38:bE:=LD
noncomputable instance zeb:bE:=LD
noncomputable instance zef:bE:=LD
noncomputable instance zeg:bE:=LD
noncomputable instance zei:bE:=LD
def bu(row tr:List Int)(b:Int):Nat->List Int
 |0=>row
 |k+1=>(bu row tr b k).set k (nth row k+b*nth tr k)
def a9(wt:List (List Int))(tr:List Int)(b:Int):Nat->List (List Int)
 |0=>wt
 |i+1=>(a9 wt tr b i).set i (bu (nth wt i) tr b tr.length)
@[simp]theorem bZ(row tr:List Int)(b:Int):∀k,(bu row tr b k).length=row.length
 |0=>rfl
 |k+1=>by simp[bu,bZ row tr b k]
@[simp]theorem bA(wt:List (List Int))(tr:List Int)(b:Int):∀k,(a9 wt tr b k).length=wt.length
 |0=>rfl
 |k+1=>by simp[a9,bA wt tr b k]
theorem bW{α:Type}[Inhabited α](l:List α)(i j:Nat)(x:α)(h:i<l.length):nth (l.set i x) j=if i=j then x else nth l j:=by
 by_cases e:i=j
 .subst e;simp[nth,dT,h]
 .simp[nth,dT,e]
theorem lp(row tr:List Int)(b:Int):∀k,k<=row.length->∀j,nth (bu row tr b k) j=if j<k then nth row j+b*nth tr j else nth row j
 |0,_,j=>by rw[bN (oJ _)];rfl
 |k+1,h,j=>by
  unfold bu;rw[bW _ _ _ _ ar,lp row tr b k ab j];by_cases e:k=j
  .subst e;simp
  .rw[bN e];by_cases h2:j<k
   .rw[cu h2,cu ab]
   .rw[bN h2,bN ab]
theorem cC(wt:List (List Int))(tr:List Int)(b:Int):∀k,k<=wt.length->∀j,nth (a9 wt tr b k) j=if j<k then bu (nth wt j) tr b tr.length else nth wt j
 |0,_,j=>by rw[bN (oJ _)];rfl
 |k+1,h,j=>by
  unfold a9;rw[bW _ _ _ _ ar,cC wt tr b k ab j];by_cases e:k=j
  .subst e;simp
  .rw[bN e];by_cases h2:j<k
   .rw[cu h2,cu ab]
   .rw[bN h2,bN ab]
theorem cE(wt:List (List Int))(tr:List Int)(b:Int)(m:Nat)(h:∀i,i<wt.length->(nth wt i).length=m):∀k,k<=wt.length->(a9 wt tr b k).map List.length=List.replicate wt.length m:=λk hk=>by
 refine List.ext_getElem ae (λi h1 h2=>?_)
 have hi:i<wt.length:=by simpa using h1
 have e:=cC wt tr b k hk i
 have e2:nth (a9 wt tr b k) i=(a9 wt tr b k)[i]'aM:=by simp[nth,dT,hi]
 simp only[List.getElem_map,List.getElem_replicate];rw[<-e2,e];split
 .rw[bZ];exact h i hi
 .exact h i hi
def bj(wt:List (List Int))(tr:List Int)(b:Int)(k j:Nat):List (List Int):=(a9 wt tr b k).set k (bu (nth wt k) tr b j)
theorem lU(wt:List (List Int))(tr:List Int)(b:Int)(k:Nat)(h:k<wt.length):bj wt tr b k 0=a9 wt tr b k:=by
 have e:=cC wt tr b k ab k;rw[bN (Dj _)] at e
 have e2:(a9 wt tr b k)[k]'av=nth wt k:=by rw[<-e];simp[nth,dT,h]
 unfold bj bu;rw[<-e2];simp
theorem cH(wt:List (List Int))(tr:List Int)(b:Int)(k j:Nat)(h:k<wt.length):nth (bj wt tr b k j) k=bu (nth wt k) tr b j:=by
 unfold bj;rw[bW _ _ _ _ av,cu rfl]
theorem lV(wt:List (List Int))(tr:List Int)(b:Int)(k j:Nat)(h:k<wt.length):bj wt tr b k (j+1)=(bj wt tr b k j).set k ((nth (bj wt tr b k j) k).set j (nth (nth wt k) j+b*nth tr j)):=by
 rw[cH _ _ _ _ _ h];unfold bj;rw[List.set_set];rfl
theorem bB(wt:List (List Int))(tr:List Int)(b:Int)(k j:Nat):(bj wt tr b k j).length=wt.length:=by simp[bj]
def bl(wt:List (List Int))(tr:List Int)(b:Int)(i k:Nat):Prop:=100000<nth (nth wt i) k+b*nth tr k
structure ql(wt:List (List Int))(m:Nat):Prop where
 hn:wt.length<1000
 hm:m<1000
 row:∀i,i<wt.length->(nth wt i).length=m
 bd:∀i k,i<wt.length->k<m->0<=nth (nth wt i) k/\nth (nth wt i) k<=100000
structure cm(bD:List Car)(os:List Ord)(wt:List (List Int))(zs:List Par)(tr:List Int)(b:Int)(z:PV)(e:Int):Prop where
 shape:tr.length≠bD.length->z=bm/\e=10
 E2:tr.length=bD.length->∀k,k<tr.length->cj (nth tr k) 0 1000=false->z=bm/\e=2
 by_:tr.length=bD.length->(∀k,k<tr.length->cj (nth tr k) 0 1000=true)->cj b 0 100000=false->z=bm/\e=2
 big:tr.length=bD.length->(∀k,k<tr.length->cj (nth tr k) 0 1000=true)->cj b 0 100000=true->∀i k,i<wt.length->k<tr.length->bl wt tr b i k->z=bm/\e=8
 ok:tr.length=bD.length->(∀k,k<tr.length->cj (nth tr k) 0 1000=true)->cj b 0 100000=true->(∀i k,i<wt.length->k<tr.length->¬bl wt tr b i k) ->
  z=.agg [.sl bD.length (di bD),.sl os.length (dh os),.sl wt.length (dH (a9 wt tr b wt.length)),.sl zs.length (dc zs)]/\e=0
variable[bE]
theorem eO(r:Tw.RND)(hin:ql r.wt r.bD.length)(tr:List Int)(ht:tr.length<1000)(b:Int)(z:PV)(e:Int)(hR:cm r.bD r.os r.wt r.zs tr b z e):bX Tz.prog 48 [Tw.dR r,.sl tr.length (ints tr),.int .i64 b] (.tup [z,.int .i64 e]) true:=by
 have c5:=Au r;obtain⟨h1,h2,h3,h4⟩:=hin;have hl:=cE r.wt [] 0 r.bD.length h3 0 (cG _);have hl:r.wt.map List.length=List.replicate r.wt.length r.bD.length:=hl;rw[hl] at c5;have kfz:=keep (λ(H:bz)(d b':Nat)(hd:0<d)(hf:iW H b' ((a9 r.wt tr b r.wt.length).map iA))=>z7 (h:=H) (d:=d) (b:=b') _ (cE r.wt tr b _ h3 _ (bU _)) hd hf);have kfr:=keep (λ(H:bz)(d b':Nat)(hf:iW H b' ((a9 r.wt tr b r.wt.length).map iA))=>Ak (h:=H) (d:=d) (b:=b') _ (cE r.wt tr b _ h3 _ (bU _)) hf);have er:Tw.dR r=.agg [.sl r.bD.length (di r.bD),.sl r.os.length (dh r.os),.sl r.wt.length (dH r.wt),.sl r.zs.length (dc r.zs)]:=rfl;rw[er] at c5 ⊢;clear er hl;have kR:=keep hR;have k3:=keep h3;have k4:=keep h4;clear hR h3 h4;generalize r.wt=wt at *;generalize r.bD=bD at *;generalize r.os=os at *;generalize r.zs=zs at *;by_cases g1:tr.length=bD.length
 .have g1i:(tr.length:Int)=(bD.length:Int):=ab
  have kR2:=keep (kR.E2 g1);have kR3:=keep (kR.by_ g1);have kR4:=keep (kR.big g1);have kR5:=keep (kR.ok g1);clear kR;generalize bD.length=m at *;have kc:=keep (λn:Int=>m7 n 0 1000);have cb:=m7 b 0 100000;subst g1;refine rcK Tz.func48 ?_;simp only[Tryz.results48,Tryz.ntmps48]
  repeat' first|(with_reducible first|apply bI|apply cg|apply bH|apply bP|intro _)|simp[*]
  refine fH (λ(k:Nat)=>k<=tr.length/\∀j,j<k->cj (nth tr j) 0 1000=true) [1,2,3,6] (λ(k:Nat)=>[(8,.w false false (.int .i64 k))]) [0,1] (λ(k:Nat)=>[]) (λ(k:Nat)=>tr.length-k) (λ(_u:Unit)=>∀j,j<tr.length->cj (nth tr j) 0 1000=true) [1,2,3,6] (λ(_u:Unit)=>[]) [0,1] (λ(_u:Unit)=>[]) (0) ⟨cG _,λj hj=>absurd hj (oJ _)⟩ ae ae (λk hk=>?_) (λ_u hf=>?_)
  .obtain⟨hk,hj⟩:=hk;have kj:=keep hj;clear hj;by_cases h5:k<tr.length
   .have c1:=kc (nth tr k);have hi:inI .i64 ((k:Int)+1):=db ab ab
    cases hw:cj (nth tr k) 0 1000 with
    |true=>
     rw[hw] at c1
     repeat' first|(with_reducible first|apply bI|apply dk|apply cg|apply bH|apply bP|refine And.intro ?_ ?_|intro _)|simp[*,h5,hi]|(refine bJ (c1) ?_ ?_;· simp[*];done)
     all_goals first
      |omega
      |(refine nx (k+1) ?_ ?_;(· exact⟨ab,λj hj=>(yg.1 hj).elim (kj j) (λe=>e▸hw)⟩);(refine cY ?_ ?_<;>first|trivial|(simp[*];done)))
    |false=>
     rw[hw] at c1;obtain⟨rfl,rfl⟩:=kR2 k h5 hw;clear kR2 kR3 kR4 kR5 kfz kfr c5 kj;unfold bm
     repeat' first|(with_reducible first|apply bI|apply dk|apply cg|apply bV|apply bH|apply bP|refine And.intro ?_ ?_|intro _)|simp[*,h5,hi]|(refine bJ (c1) ?_ ?_;· simp[*];done)
     all_goals first|omega
   .have h8:k=tr.length:=ab
    subst h8
    repeat' first|(with_reducible first|apply bI|apply dg|apply bH|apply bP|intro _)|simp[*]
    all_goals first
     |(refine dQ () ?_ ?_;(· exact kj);(refine cY ?_ ?_<;>first|trivial|(simp[*];done)))
  .have kf:=keep hf;clear hf kR2 kc
   cases hq:cj b 0 100000 with
   |false=>
    rw[hq] at cb;obtain⟨rfl,rfl⟩:=kR3 kf hq;clear kR3 kR4 kR5 kfz kfr c5;unfold bm
    repeat' first|(with_reducible first|apply bI|apply bV|apply bH|apply bP|refine And.intro ?_ ?_|intro _)|simp[*]|(refine bJ (cb) ?_ ?_;· simp[*];done)
    all_goals first|omega
   |true=>
    rw[hq] at cb;have kR6:=keep (kR4 kf hq);have kR7:=keep (kR5 kf hq);have hb:=bK.1 hq;have kt:=keep (λk hk=>bK.1 (kf k hk));clear kR3 kR4 kR5 kf hq
    repeat' first|(with_reducible first|apply bI|apply cg|apply bH|apply bP|refine And.intro ?_ ?_|refine cwM (c5) ?_|intro _)|(simp[*,show 2+(wt.length+1)=wt.length+3 from ab])|(refine bJ (cb) ?_ ?_;· simp[*];done)
    all_goals try omega
    refine oW (λ(k:Nat)=>wt.length+4) (λ(_u:Unit)=>wt.length+4) (λ(k:Nat)=>k<=wt.length/\(∀i,i<k->∀j,j<tr.length->¬bl wt tr b i j)) [1,2,3,6,9] (λ(k:Nat)=>[(10,.w false false (.int .i64 k))]) [0,1] (λ(k:Nat)=>(wt.length+3,[.w true false (.sl tr.length (di bD)),.w true false (.sl os.length (dh os)),.msl 2 wt.length 1 0 wt.length,.w true false (.sl zs.length (dc zs))])::(2,ms1 3 (List.replicate wt.length tr.length))::ck [] 3 ((a9 wt tr b k).map iA)) (λ(k:Nat)=>wt.length-k) (λ(_u:Unit)=>∀i,i<wt.length->∀j,j<tr.length->¬bl wt tr b i j) [6,9] (λ(_u:Unit)=>[]) [0,1] (λ(_u:Unit)=>(wt.length+3,[.w true false (.sl tr.length (di bD)),.w true false (.sl os.length (dh os)),.msl 2 wt.length 1 0 wt.length,.w true false (.sl zs.length (dc zs))])::(2,ms1 3 (List.replicate wt.length tr.length))::ck [] 3 ((a9 wt tr b wt.length).map iA)) (0) ⟨cG _,λi hi=>absurd hi (oJ _)⟩ (eJ [] (by simp[show a9 wt tr b 0=wt from rfl]) (by simp[show a9 wt tr b 0=wt from rfl])) (λk hk=>?_) (λ_u hf=>?_)
    .obtain⟨hk,hj⟩:=hk;have kj:=keep hj;clear hj kfz kfr kR7 cb c5;by_cases h5:k<wt.length
     .have hlI:(k:Int)<(wt.length:Int):=ab
      have hi:inI .i64 ((k:Int)+1):=db ab ab;have z0:=lU wt tr b k h5;have lA:=bA wt tr b k
      repeat' first|(with_reducible first|apply bI|apply dk|apply cg|apply bH|apply bP|intro _)|simp[*,h5,hlI]
      refine oW (λ(j:Nat)=>wt.length+4) (λ(_u:Unit)=>wt.length+4) (λ(j:Nat)=>j<=tr.length/\(∀i,i<j->¬bl wt tr b k i)) [1,2,3,6,9,10] (λ(j:Nat)=>[(11,.w false false (.int .i64 j))]) [0,1] (λ(j:Nat)=>(wt.length+3,[.w true false (.sl tr.length (di bD)),.w true false (.sl os.length (dh os)),.msl 2 wt.length 1 0 wt.length,.w true false (.sl zs.length (dc zs))])::(2,ms1 3 (List.replicate wt.length tr.length))::ck [] 3 ((bj wt tr b k j).map iA)) (λ(j:Nat)=>tr.length-j) (λ(_u:Unit)=>∀i,i<tr.length->¬bl wt tr b k i) [1,2,3,6,9,10] (λ(_u:Unit)=>[]) [0,1] (λ(_u:Unit)=>(wt.length+3,[.w true false (.sl tr.length (di bD)),.w true false (.sl os.length (dh os)),.msl 2 wt.length 1 0 wt.length,.w true false (.sl zs.length (dc zs))])::(2,ms1 3 (List.replicate wt.length tr.length))::ck [] 3 ((bj wt tr b k tr.length).map iA)) (0) ⟨cG _,λi hi=>absurd hi (oJ _)⟩ (eJ [] (by simp[lA,z0,bB]) (by simp[lA,z0,bB])) (λj hk=>?_) (λ_u hf=>?_)
      .obtain⟨hj,aa⟩:=hk;have kb2:=keep aa;clear aa z0 lA hi;by_cases hg:j<tr.length
       .have hjI:(j:Int)<(tr.length:Int):=ab
        have b5:inI .i64 ((j:Int)+1):=db ab ab;have h9:=k3 k h5;have b4:=k4 k j h5 hg;have a5:=kt j hg;have b7:0<=b*nth tr j:=Int.mul_nonneg hb.1 a5.1;have b8:b*nth tr j<=100000*1000:=Jr hb.2 a5.2 a5.1 ab;have m1:inI .i64 (b*nth tr j):=db ab ab;have m2:inI .i64 (nth (nth wt k) j+b*nth tr j):=db ab ab;have hB:=bB wt tr b k j
        have hBk:(nth (bj wt tr b k j) k).length=tr.length:=by rw[cH _ _ _ _ _ h5,bZ];exact h9
        have kn:=keep (lV wt tr b k j h5);have kc1:=keep (kR6 k j h5 hg)
        have ao:j<(nth wt k).length:=ab
        clear k3 k4 kt b4 a5 hb kR6 b7 b8;generalize bj wt tr b k j=B at *
        have n1:¬wt.length=k:=ab
        have hS:∀x,nth ((List.map iA B).set k x) k=x:=λx=>by rw[bW _ _ _ _ ar,cu rfl]
        have hV:∀v,nth ((nth B k).set j v) j=v:=λv=>by rw[bW _ _ _ _ ab,cu rfl]
        have hr:dp (bl wt tr b k j=(100000<nth (nth wt k) j+b*nth tr j)):=rfl;by_cases h':100000<nth (nth wt k) j+b*nth tr j
        .obtain⟨rfl,rfl⟩:=kc1 (by rw[show bl wt tr b k j=_ from hr];exact h');clear kn kb2 kj kc1 hr;unfold bm
         repeat' first|(with_reducible first|apply bI|apply dk|apply cg|apply bV|apply bH|refine dD (id:=17) 22 mixed ai ?_|apply bP|refine And.intro ?_ ?_|intro _)|simp[*,h5,hlI,hg,hjI,hB,hBk,h9,ao,n1,m1,m2,h',hS,hV]
         all_goals first|omega|assumption
        .have aq:¬bl wt tr b k j:=by rw[show bl wt tr b k j=_ from hr];exact h'
         have knb:=keep aq;clear kc1 hr aq kj
         repeat' first|(with_reducible first|apply bI|apply dk|apply cg|apply bH|refine dD (id:=17) 22 mixed ai ?_|apply bP|refine And.intro ?_ ?_|intro _)|simp[*,h5,hlI,hg,hjI,b5,hB,hBk,h9,ao,n1,m1,m2,h',hS,hV]
         all_goals first
          |omega
          |assumption
          |(refine nx (j+1) ?_ ?_;(· exact⟨ab,λi hi=>(yg.1 hi).elim (kb2 i) (λe=>e▸knb)⟩);(refine eJ [] ?_ ?_<;>first|trivial|(simp[*,show bj wt tr b k (j+1)=_ from kn,hB,hBk];done)))
       .have h8:j=tr.length:=ab
        subst h8;have hB:=bB wt tr b k tr.length;clear k3 k4 kt hb kR6 kj
        repeat' first|(with_reducible first|apply bI|apply dg|apply bH|apply bP|intro _)|simp[*,h5,hlI]
        all_goals first
         |(refine dQ () ?_ ?_;(· exact kb2);(refine eJ [] ?_ ?_<;>first|trivial|(simp[*,hB];done)))
      .have kf:=keep hf;have kn:dp (a9 wt tr b (k+1)=bj wt tr b k tr.length):=rfl;have hB:=bB wt tr b k tr.length;clear hf z0 k3 k4 kt hb kR6
       repeat' first|(with_reducible first|apply bH|intro _)|simp[*,h5,hlI,hi]
       all_goals first
        |omega
        |(refine nx (k+1) ?_ ?_;(· exact⟨ab,λi hi=>(yg.1 hi).elim (kj i) (λe=>e▸kf)⟩);(refine eJ [] ?_ ?_<;>first|trivial|(simp[*,show a9 wt tr b (k+1)=_ from kn,hB];done)))
     .have h8:k=wt.length:=ab
      subst h8
      repeat' first|(with_reducible first|apply bI|apply dg|apply bH|apply bP|intro _)|simp[*]
      all_goals first
       |(refine dQ () ?_ ?_;(· exact kj);(refine eJ [] ?_ ?_<;>first|trivial|(simp[*,bA];done)))
    .have kf:=keep (kR7 λi k h1 h2=>hf i h1 k h2);clear hf kR7 kR6;obtain⟨rfl,rfl⟩:=kf;have fz:∀(H:bz)(d b':Nat),0<d->iW H b' ((a9 wt tr b wt.length).map iA)->(ms1 b' (List.replicate wt.length tr.length)).mapM (frz H d)=some (dH (a9 wt tr b wt.length)):=kfz;have fr:∀(H:bz)(d b':Nat),iW H b' ((a9 wt tr b wt.length).map iA)->(ms1 b' (List.replicate wt.length tr.length)).all (eh H (d+1))=true:=kfr;clear kfz kfr
     repeat' first|(with_reducible first|apply bI|apply bV|apply bH|intro _)|simp[*,bA]
     all_goals first
      |omega
      |(rename_i x hx;exact gm.1 (fr _ _ _ (by simp[bA])) x hx)
 .obtain⟨rfl,rfl⟩:=kR.shape g1
  have g1i:¬(tr.length:Int)=(bD.length:Int):=ab
  clear kR kfz kfr k3 k4 c5;unfold bm;refine rcK Tz.func48 ?_;simp only[Tryz.results48,Tryz.ntmps48]
  repeat' first|(with_reducible first|apply bI|apply bV|apply bH|apply bP|intro _)|simp[*,g1i,g1,show ¬bD.length=tr.length fromλh=>g1 h.symm]
  all_goals first|omega
end Go.Proofs.YthpkmilhiganjaaGreat
