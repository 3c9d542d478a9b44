/- Lemmas. -/
import Derived.Test.YthpkmilhiganjaaGreatPEb
import Derived.Test.YthpkmilhiganjaaGreatPDa
import Derived.Test.YthpkmilhiganjaaGreatPEa
import Derived.Test.YthpkmilhiganjaaGreatPDb
import Derived.Test.YthpkmilhiganjaaGreatPLg
import Derived.Test.YthpkmilhiganjaaGreatPLf
set_option linter.all false
set_option maxHeartbeats 32000000
set_option maxRecDepth 100000
namespace Go.Proofs.YthpkmilhiganjaaGreat
open Go Go.Fi
variable[av]
theorem PE(ab:List Car)(os:List Ord)(wt:List (List Int))(zs:List Par)(a9:ab.length<=1000)(ag:os.length<=1000)(ao:wt.length<100000)(aq:zs.length<100000)(hc:∀x∈ab,x.1.size<1000000)(ho:∀x∈os,x.1.size<1000000)(hw:∀x∈wt,x.length<100000):aC Tz.prog 58 [.agg [.sl ab.length (aS ab),.sl os.length (aR os),.sl wt.length (a8 wt),.sl zs.length (aT zs)]] (.tup [.int .i64 (g9 ab os wt zs).1,.int .i64 (g9 ab os wt zs).2]) true:=by
 generalize hR:g9 ab os wt zs=R;obtain⟨R1,R2⟩:=R;unfold g9 at hR;have kc:=keep hc;have ko:=keep ho;have kw:=keep hw;clear hc ho hw;by_cases a1:(8:Int)<ab.length
 .rw[aB a1] at hR;obtain⟨q1,q2⟩:=br hR;subst q1 q2;clear hR;refine rcK Tz.func58 ?_;simp only[Tryz.results58,Tryz.ntmps58]
  repeat' first|(with_reducible first|apply ai|apply az|apply af|apply al|intro _)|(simp[*,a1])
  all_goals first|omega|exact aG (by omega) (by omega)|assumption
 rw[ar a1] at hR;generalize hN:gC Prod.fst fG ab=N at hR;obtain⟨N1,N2⟩:=N;have kN:aN (fq Prod.fst fG ab (ab.drop 0) 0=(N1,N2)):=hN;have kR:=keep hR;clear hR hN;refine rcK Tz.func58 ?_;simp only[Tryz.results58,Tryz.ntmps58]
 repeat' first|(with_reducible first|apply ai|apply au|apply af|apply al|intro _)|(simp[*,a1])
 refine bQ (λ(k:Nat)=>k<=ab.length/\fq Prod.fst fG ab (ab.drop k) k=(N1,N2)) [1] (λ(k:Nat)=>[(4,.w false false (.int .i64 k))]) [0] (λ(k:Nat)=>[]) (λ(k:Nat)=>ab.length-k) (λ(_u:Unit)=>N1=0/\N2=0) [1] (λ(_u:Unit)=>[]) [0] (λ(_u:Unit)=>[]) (0) ⟨aK _,kN⟩ (by simp) (by simp) (λk hk=>?_) (λ_u hf=>?_)
 .obtain⟨hk,hj⟩:=hk;by_cases h5:k<ab.length
  .have c1:=OK ab os wt zs k h5 (by omega) kc;rw[dg ab k h5,fq] at hj;generalize g7 Prod.fst fG ab k (nth ab k)=e at hj c1;by_cases he:e=0
   .rw[aB he] at hj;subst he;have kj:=keep hj;clear hj
    repeat' first|(with_reducible first|apply ai|apply aF|apply au|apply af|apply al|refine And.intro ?_ ?_|refine cw (c1) ?_|intro _)|(simp[*,h5])|(refine ae (c1) ?_ ?_;(· (simp[*];done)))
    all_goals first
     |omega
     |exact aG (by omega) (by omega)
     |(refine nx (k+1) ?_ ?_;(· exact⟨by omega,kj⟩);(refine aD ?_ ?_<;>first|trivial|(simp[*];done)))
   .rw[ar he] at hj;obtain⟨g1,g2⟩:=br hj;have h1:=(br (show (N1,N2)=(R1,R2) by have h:=kR;unfold aN at h;rw[aB (show (N1,N2).2≠0 fromλh0=>he (g2.trans h0))] at h;exact h));have q1:(k:Int)=R1:=g1.trans h1.1;have q2:e=R2:=g2.trans h1.2;subst q1 q2;clear hj kR g1 g2 h1 kN
    repeat' first|(with_reducible first|apply ai|apply aF|apply au|apply az|apply af|apply al|refine And.intro ?_ ?_|refine cw (c1) ?_|intro _)|(simp[*,h5,he])|(refine ae (c1) ?_ ?_;(· (simp[*];done)))
    all_goals first|omega|exact aG (by omega) (by omega)|assumption
  .have h8:k=ab.length:=by omega
   subst h8;rw[fg] at hj;have hj:((0:Int),(0:Int))=(N1,N2):=hj;have kj:aN (N1=0/\N2=0):=keep ⟨(br hj).1.symm,(br hj).2.symm⟩;clear hj
   repeat' first|(with_reducible first|apply ai|apply aL|apply af|apply al|intro _)|(simp[*])
   all_goals first
    |omega
    |(refine aZ () ?_ ?_;(· exact kj);(refine aD ?_ ?_<;>first|trivial|(simp[*];done)))
 obtain⟨rfl,rfl⟩:=hf;have hR:(if (8:Int)<os.length then ((0:Int),(8:Int)) else if (gC Prod.fst eH os).2≠0 then gC Prod.fst eH os else if (wt.length:Int)≠os.length then (0,10) else fU (λ_=>gj ab.length) wt 0 (g8 os.length ab.length zs))=(R1,R2):=kR;clear kR kN;by_cases a2:(8:Int)<os.length
 .rw[aB a2] at hR;obtain⟨q1,q2⟩:=br hR;subst q1 q2;clear hR
  repeat' first|(with_reducible first|apply ai|apply az|apply af|apply al|intro _)|(simp[*,a2])
  all_goals first|omega|exact aG (by omega) (by omega)|assumption
 rw[ar a2] at hR;generalize hN:gC Prod.fst eH os=M at hR;obtain⟨M1,M2⟩:=M;have kM:aN (fq Prod.fst eH os (os.drop 0) 0=(M1,M2)):=hN;have kR:=keep hR;clear hR hN
 repeat' first|(with_reducible first|apply ai|apply au|apply af|apply al|intro _)|(simp[*,a2])
 refine bQ (λ(k:Nat)=>k<=os.length/\fq Prod.fst eH os (os.drop k) k=(M1,M2)) [1] (λ(k:Nat)=>[(6,.w false false (.int .i64 k))]) [0] (λ(k:Nat)=>[]) (λ(k:Nat)=>os.length-k) (λ(_u:Unit)=>M1=0/\M2=0) [1] (λ(_u:Unit)=>[]) [0] (λ(_u:Unit)=>[]) (0) ⟨aK _,kM⟩ (by simp) (by simp) (λk hk=>?_) (λ_u hf=>?_)
 .obtain⟨hk,hj⟩:=hk;by_cases h5:k<os.length
  .have c1:=OW ab os wt zs k h5 (by omega) ko;rw[dg os k h5,fq] at hj;generalize g7 Prod.fst eH os k (nth os k)=e at hj c1;by_cases he:e=0
   .rw[aB he] at hj;subst he;have kj:=keep hj;clear hj
    repeat' first|(with_reducible first|apply ai|apply aF|apply au|apply af|apply al|refine And.intro ?_ ?_|refine cw (c1) ?_|intro _)|(simp[*,h5])|(refine ae (c1) ?_ ?_;(· (simp[*];done)))
    all_goals first
     |omega
     |exact aG (by omega) (by omega)
     |(refine nx (k+1) ?_ ?_;(· exact⟨by omega,kj⟩);(refine aD ?_ ?_<;>first|trivial|(simp[*];done)))
   .rw[ar he] at hj;obtain⟨g1,g2⟩:=br hj;have h1:=(br (show (M1,M2)=(R1,R2) by have h:=kR;unfold aN at h;rw[aB (show (M1,M2).2≠0 fromλh0=>he (g2.trans h0))] at h;exact h));have q1:(k:Int)=R1:=g1.trans h1.1;have q2:e=R2:=g2.trans h1.2;subst q1 q2;clear hj kR g1 g2 h1 kM
    repeat' first|(with_reducible first|apply ai|apply aF|apply au|apply az|apply af|apply al|refine And.intro ?_ ?_|refine cw (c1) ?_|intro _)|(simp[*,h5,he])|(refine ae (c1) ?_ ?_;(· (simp[*];done)))
    all_goals first|omega|exact aG (by omega) (by omega)|assumption
  .have h8:k=os.length:=by omega
   subst h8;rw[fg] at hj;have hj:((0:Int),(0:Int))=(M1,M2):=hj;have kj:aN (M1=0/\M2=0):=keep ⟨(br hj).1.symm,(br hj).2.symm⟩;clear hj
   repeat' first|(with_reducible first|apply ai|apply aL|apply af|apply al|intro _)|(simp[*])
   all_goals first
    |omega
    |(refine aZ () ?_ ?_;(· exact kj);(refine aD ?_ ?_<;>first|trivial|(simp[*];done)))
 obtain⟨rfl,rfl⟩:=hf;have hR:(if (wt.length:Int)≠os.length then ((0:Int),(10:Int)) else fU (λ_=>gj ab.length) wt 0 (g8 os.length ab.length zs))=(R1,R2):=kR;clear kR kM;by_cases a3:(wt.length:Int)=os.length
 rotate_left
 .rw[aB a3] at hR;obtain⟨q1,q2⟩:=br hR;subst q1 q2;clear hR
  repeat' first|(with_reducible first|apply ai|apply az|apply af|apply al|intro _)|(simp[*,a3])
  all_goals first|omega|exact aG (by omega) (by omega)|assumption
 rw[ar (λh=>h a3)] at hR;have kT:aN (fU (λ_=>gj ab.length) (wt.drop 0) 0 (g8 os.length ab.length zs)=(R1,R2)):=hR;clear hR
 repeat' first|(with_reducible first|apply ai|apply au|apply af|apply al|intro _)|(simp[*,a3])
 refine bQ (λ(k:Nat)=>k<=wt.length/\fU (λ_=>gj ab.length) (wt.drop k) k (g8 os.length ab.length zs)=(R1,R2)) [1] (λ(k:Nat)=>[(8,.w false false (.int .i64 k))]) [0] (λ(k:Nat)=>[]) (λ(k:Nat)=>wt.length-k) (λ(_u:Unit)=>g8 os.length ab.length zs=(R1,R2)) [1] (λ(_u:Unit)=>[]) [0] (λ(_u:Unit)=>[]) (0) ⟨aK _,kT⟩ (by simp) (by simp) (λk hk=>?_) (λ_u hf=>?_)
 .obtain⟨hk,hj⟩:=hk;clear kT;by_cases h5:k<wt.length
  .have b5:=kw _ (eJ h5);rw[dg wt k h5,GJ] at hj;unfold gj at hj;by_cases hl:((nth wt k).length:Int)=ab.length
   .rw[decide_eq_true hl] at hj
    have hj:(if ba (!((nth wt k).any λx=>!aU x 0 100000)) 2=0 then fU (λ_=>gj ab.length) (wt.drop (k+1)) (k+1) (g8 os.length ab.length zs) else ((k:Int),ba (!((nth wt k).any λx=>!aU x 0 100000)) 2))=(R1,R2):=by
     rw[<-hj];simp only[cX,ba]
     cases ((nth wt k).any λx=>!aU x 0 100000)<;>rfl
    generalize hA:((nth wt k).any λx=>!aU x 0 100000)=A at hj;have kA:aN (((nth wt k).drop 0).any (λx=>!aU x 0 100000)=A):=hA;have kj:=keep hj;clear hj hA
    repeat' first|(with_reducible first|apply ai|apply aF|apply au|apply aL|apply af|refine aQ (id:=22) 10 mixed (by decide +kernel) ?_|apply al|refine fz ?_ ?_|intro _)|(simp[*,h5,hl])
    all_goals try first|omega|assumption
    refine bQ (λ(j:Nat)=>j<=(nth wt k).length/\((nth wt k).drop j).any (λx=>!aU x 0 100000)=A) [1,8] (λ(j:Nat)=>[(9,.w false false (.int .i64 j))]) [0] (λ(j:Nat)=>[]) (λ(j:Nat)=>(nth wt k).length-j) (λ(_u:Unit)=>A=false) [1,8] (λ(_u:Unit)=>[]) [0] (λ(_u:Unit)=>[]) (0) ⟨aK _,kA⟩ (by simp) (by simp) (λj hk=>?_) (λ_u hf=>?_)
    .obtain⟨b7,h9⟩:=hk;clear kA;by_cases a6:j<(nth wt k).length
     .rw[dg _ j a6,mX] at h9;have c1:=ma (nth (nth wt k) j) 0 100000
      cases hb:aU (nth (nth wt k) j) 0 100000 with
      |true=>
       rw[hb] at h9 c1;have kj2:aN (((nth wt k).drop (j+1)).any (λx=>!aU x 0 100000)=A):=keep h9;clear h9 kj hb
       repeat' first|(with_reducible first|apply ai|apply aF|apply au|apply aL|apply af|apply al|refine And.intro ?_ ?_|refine fz ?_ ?_|refine cw (c1) ?_|intro _)|(simp[*,h5,a6])|(refine ae (c1) ?_ ?_;(· (simp[*];done)))
       all_goals first
        |omega
        |exact aG (by omega) (by omega)
        |(refine nx (j+1) ?_ ?_;(· exact⟨by omega,kj2⟩);(refine aD ?_ ?_<;>first|trivial|(simp[*];done)))
      |false=>
       rw[hb] at h9 c1
       have hA:A=true:=by rw[<-h9];rfl
       subst hA;have h1:((k:Int),(2:Int))=(R1,R2):=kj;obtain⟨q1,q2⟩:=br h1;subst q1 q2;clear h9 kj hb h1
       repeat' first|(with_reducible first|apply ai|apply aF|apply au|apply az|apply aL|apply af|apply al|refine And.intro ?_ ?_|refine fz ?_ ?_|refine cw (c1) ?_|intro _)|(simp[*,h5,a6])|(refine ae (c1) ?_ ?_;(· (simp[*];done)))
       all_goals first|omega|exact aG (by omega) (by omega)
     .have h8:j=(nth wt k).length:=by omega
      subst h8;have kj2:aN (A=false):=keep (by rw[<-h9];simp);clear h9 kj
      repeat' first|(with_reducible first|apply ai|apply aL|apply af|apply al|intro _)|(simp[*,h5])
      all_goals first
       |omega
       |(refine aZ () ?_ ?_;(· exact kj2);(refine aD ?_ ?_<;>first|trivial|(simp[*];done)))
    .subst hf;have kj2:aN (fU (λ_=>gj ab.length) (wt.drop (k+1)) (k+1) (g8 os.length ab.length zs)=(R1,R2)):=kj;clear kj kA
     repeat' first|(with_reducible first|apply af|refine And.intro ?_ ?_|intro _)|(simp[*,h5])
     all_goals first
      |omega
      |exact aG (by omega) (by omega)
      |(refine nx (k+1) ?_ ?_;(· exact⟨by omega,kj2⟩);(refine aD ?_ ?_<;>first|trivial|(simp[*];done)))
   .rw[decide_eq_false hl] at hj;have h1:((k:Int),(10:Int))=(R1,R2):=hj;obtain⟨q1,q2⟩:=br h1;subst q1 q2;clear hj h1
    repeat' first|(with_reducible first|apply ai|apply aF|apply au|apply az|apply aL|apply af|refine aQ (id:=22) 10 mixed (by decide +kernel) ?_|apply al|refine fz ?_ ?_|intro _)|(simp[*,h5,hl])
    all_goals first|omega|exact aG (by omega) (by omega)
  .have h8:k=wt.length:=by omega
   subst h8;rw[fg,GK] at hj;have kj:=keep hj;clear hj
   repeat' first|(with_reducible first|apply ai|apply aL|apply af|apply al|intro _)|(simp[*,a3])
   all_goals first
    |omega
    |(refine aZ () ?_ ?_;(· exact kj);(refine aD ?_ ?_<;>first|trivial|(simp[*];done)))
 clear kT;unfold g8 at hf;by_cases a4:(64:Int)<zs.length
 .rw[aB a4] at hf;obtain⟨q1,q2⟩:=br hf;subst q1 q2;clear hf
  repeat' first|(with_reducible first|apply ai|apply az|apply af|apply al|intro _)|(simp[*,a4])
  all_goals first|omega|exact aG (by omega) (by omega)|assumption
 rw[ar a4] at hf;have kS:aN (dk (jJ os.length ab.length zs) (zs.drop 0) 0=(R1,R2)):=hf;clear hf
 repeat' first|(with_reducible first|apply ai|apply au|apply af|apply al|intro _)|(simp[*,a4])
 refine df 1 (λ(k:Nat)=>k<=zs.length/\dk (jJ os.length ab.length zs) (zs.drop k) k=(R1,R2)) [1] (λ(k:Nat)=>[(10,.w false false (.int .i64 k))]) [0] (λ(k:Nat)=>[]) (λ(k:Nat)=>zs.length-k) (λ(_u:Unit)=>R1=0/\R2=0) [] (λ(_u:Unit)=>[]) [0] (λ(_u:Unit)=>[]) (0) ⟨aK _,kS⟩ (aO [] (by simp) (by simp)) (λk hk=>?_) (λ_u hf=>?_)
 .obtain⟨hk,hj⟩:=hk;clear kS;by_cases h5:k<zs.length
  .have c1:=BC (zs.take k) (by rw[ia];omega) (nth zs k);rw[uS hk] at c1;have w1:=BF ab os wt zs (by omega) (nth zs k).1;have w2:=PC ab os wt zs (by omega) (nth zs k).2;rw[dg zs k h5,dk] at hj;have hE:jJ os.length ab.length zs k (nth zs k)=cX [ba (aU (nth zs k).1 0 ((os.length:Int)-1)&&aU (nth zs k).2 0 ((ab.length:Int)-1)) 6,ba (!(hasB (zs.take k) (nth zs k))) 26]:=rfl;rw[hE] at hj;clear hE;unfold Tw.cu at c1;generalize aU (nth zs k).1 0 ((os.length:Int)-1)=g1 at *;generalize aU (nth zs k).2 0 ((ab.length:Int)-1)=g2 at *;generalize hasB (zs.take k) (nth zs k)=g3 at *
   have fin:∀e:Int,e≠0->((if e=0 then dk (jJ os.length ab.length zs) (zs.drop (k+1)) (k+1) else ((k:Int),e))=(R1,R2))->(k:Int)=R1/\e=R2:=λe he h=>by rw[ar he] at h;exact br h
   cases g1 with
   |false=>
    obtain⟨q1,q2⟩:=fin 6 (by decide) hj;subst q1 q2;clear hj fin
    repeat' first|(with_reducible first|apply ai|apply aF|apply au|apply az|apply af|apply al|refine And.intro ?_ ?_|refine cw (w1) ?_|intro _)|(simp[*,h5,Tw.cu])|(refine ae (w1) ?_ ?_;(· (simp[*];done)))
    all_goals first|omega|exact aG (by omega) (by omega)
   |true=>
    cases g2 with
    |false=>
     obtain⟨q1,q2⟩:=fin 6 (by decide) hj;subst q1 q2;clear hj fin
     repeat' first|(with_reducible first|apply ai|apply aF|apply au|apply az|apply af|apply al|refine And.intro ?_ ?_|refine cw (w1) ?_|refine cw (w2) ?_|intro _)|(simp[*,h5,Tw.cu])|(refine ae (w1) ?_ ?_;(· (simp[*];done)))|(refine ae (w2) ?_ ?_;(· (simp[*];done)))
     all_goals first|omega|exact aG (by omega) (by omega)
    |true=>
     cases g3 with
     |true=>
      obtain⟨q1,q2⟩:=fin 26 (by decide) hj;subst q1 q2;clear hj fin
      repeat' first|(with_reducible first|apply ai|apply aF|apply au|apply az|apply af|refine aQ (id:=37) 6 mixed (by decide +kernel) ?_|apply al|refine And.intro ?_ ?_|refine cw (w1) ?_|refine cw (w2) ?_|refine cw (c1) ?_|intro _)|(simp[*,h5,Tw.cu])|(refine ae (w1) ?_ ?_;(· (simp[*];done)))|(refine ae (w2) ?_ ?_;(· (simp[*];done)))|(refine ae (c1) ?_ ?_;(· (simp[*];done)))
      all_goals first|omega|exact aG (by omega) (by omega)
     |false=>
      have kj:aN (dk (jJ os.length ab.length zs) (zs.drop (k+1)) (k+1)=(R1,R2)):=hj;clear hj fin
      repeat' first|(with_reducible first|apply ai|apply aF|apply au|apply af|refine aQ (id:=37) 6 mixed (by decide +kernel) ?_|apply al|refine And.intro ?_ ?_|refine cw (w1) ?_|refine cw (w2) ?_|refine cw (c1) ?_|intro _)|(simp[*,h5,Tw.cu])|(refine ae (w1) ?_ ?_;(· (simp[*];done)))|(refine ae (w2) ?_ ?_;(· (simp[*];done)))|(refine ae (c1) ?_ ?_;(· (simp[*];done)))
      all_goals first
       |omega
       |exact aG (by omega) (by omega)
       |(refine nx (k+1) ?_ ?_;(· exact⟨by omega,kj⟩);(refine aO [] ?_ ?_<;>first|trivial|(simp[*];done)))
  .have h8:k=zs.length:=by omega
   subst h8;rw[fg] at hj;have hj:((0:Int),(0:Int))=(R1,R2):=hj;have kj:aN (R1=0/\R2=0):=keep ⟨(br hj).1.symm,(br hj).2.symm⟩;clear hj
   repeat' first|(with_reducible first|apply ai|apply aL|apply af|apply al|intro _)|(simp[*,a4])
   all_goals first
    |omega
    |(refine aZ () ?_ ?_;(· exact kj);(refine aD ?_ ?_<;>first|trivial|(simp[*];done)))
 .obtain⟨rfl,rfl⟩:=hf
  repeat' first|(with_reducible first|apply ai|apply az|apply af|intro _)|(simp[*])
def kB(ab:List Car)(os:List Ord)(zs:List Par)(i k:Nat):Bool:=
 (decide ((nth os i).2.1<=(nth ab k).2.1)&&((nth ab k).2.2 || !(nth os i).2.2.1)) && !hasB zs ((i:Int),(k:Int))
theorem qi(r:Tw.RND)(i k:Nat)(hi:i<r.os.length)(hk:k<r.ab.length):nth (nth (aj r).fit i) k=kB r.ab r.os r.zs i k:=by
 have e1:nth (aj r).fit i=Tw.lE r i:=by
  unfold aj;simp[nth,bS,hi]
 have e2:nth (Tw.lE r i) k=Tw.BV (Tw.odW (Tw.odR r) i 0 0 0) k:=by
  show nth ((List.range r.ab.length).map _) k=_;simp[nth,bS,hk]
 rw[e1,e2]
 have e3:Tw.qD r.zs (i:Int) (k:Int)=hasB r.zs ((i:Int),(k:Int)):=by
  unfold Tw.qD hasB;congr 1
  funext z
  obtain⟨a,b⟩:=z;rw[iS];simp only[beq_iff_eq,bX,bU,decide_eq_true_eq];exact⟨λh=>⟨h.1.symm,h.2.symm⟩,λh=>⟨h.1.symm,h.2.symm⟩⟩
 show ((decide (((r.ab.getD k (default,0,false)).2.1)>=(r.os.getD i (default,0,false,0)).2.1)&&((r.ab.getD k (default,0,false)).2.2 || !(r.os.getD i (default,0,false,0)).2.2.1))&&(!Tw.qD r.zs i k))=_;rw[e3]
 have h1:r.ab.getD k (default,0,false)=nth r.ab k:=by simp[nth,bS,hk]
 have h2:r.os.getD i (default,0,false,0)=nth r.os i:=by simp[nth,bS,hi]
 rw[h1,h2];rfl
theorem PK(ab:List Car)(os:List Ord)(wt:List (List Int))(zs:List Par)(i k:Nat)(hi:i<os.length)(hk:k<ab.length)(hz:zs.length<100000):aC Tz.prog 60 [.agg [.sl ab.length (aS ab),.sl os.length (aR os),.sl wt.length (a8 wt),.sl zs.length (aT zs)],.int .i64 i,.int .i64 k] (.bool (kB ab os zs i k)) true:=by
 have c1:=BC zs hz ((i:Int),(k:Int));unfold Tw.cu at c1;unfold kB;generalize hasB zs ((i:Int),(k:Int))=g at *;by_cases h1:(nth os i).2.1<=(nth ab k).2.1
 .rw[decide_eq_true h1]
  cases h2:(nth ab k).2.2 with
  |true=>
   simp only[fV,eo];refine rcK Tz.func60 ?_;simp only[Tryz.results60,Tryz.ntmps60]
   repeat' first|(with_reducible first|apply ai|apply az|apply af|refine iX (id:=1) [0,1,2,3,4,5,6,7,8,9,10,11] [12,13] [[],[],[],[],[],[.new 0],[.new 0],[.new 0],[.new 0],[.new 0],[],[]] [[.new 0],[.new 1]] mixed (by decide +kernel) ?_|refine And.intro ?_ ?_|refine cw (c1) ?_|intro _)|(simp[*,hi,hk,h1,h2,Tw.dt,Tw.cg,Tw.cu])|(refine ae (c1) ?_ ?_;(· (simp[*];done)))
   all_goals first|omega
  |false=>
   cases h3:(nth os i).2.2.1 with
   |true=>
    simp only[fJ,ij,ig,gG];refine rcK Tz.func60 ?_;simp only[Tryz.results60,Tryz.ntmps60]
    repeat' first|(with_reducible first|apply ai|apply az|apply af|refine iX (id:=1) [0,1,2,3,4,5,6,7,8,9,10,11] [12,13] [[],[],[],[],[],[.new 0],[.new 0],[.new 0],[.new 0],[.new 0],[],[]] [[.new 0],[.new 1]] mixed (by decide +kernel) ?_|refine And.intro ?_ ?_|intro _)|(simp[*,hi,hk,h1,h2,h3,Tw.dt,Tw.cg,Tw.cu])|(refine ae (c1) ?_ ?_;(· (simp[*];done)))
    all_goals first|omega
   |false=>
    simp only[gm,iI,eo];refine rcK Tz.func60 ?_;simp only[Tryz.results60,Tryz.ntmps60]
    repeat' first|(with_reducible first|apply ai|apply az|apply af|refine iX (id:=1) [0,1,2,3,4,5,6,7,8,9,10,11] [12,13] [[],[],[],[],[],[.new 0],[.new 0],[.new 0],[.new 0],[.new 0],[],[]] [[.new 0],[.new 1]] mixed (by decide +kernel) ?_|refine And.intro ?_ ?_|refine cw (c1) ?_|intro _)|(simp[*,hi,hk,h1,h2,h3,Tw.dt,Tw.cg,Tw.cu])|(refine ae (c1) ?_ ?_;(· (simp[*];done)))
    all_goals first|omega
 .rw[decide_eq_false h1];simp only[gG];refine rcK Tz.func60 ?_;simp only[Tryz.results60,Tryz.ntmps60]
  repeat' first|(with_reducible first|apply ai|apply az|apply af|refine iX (id:=1) [0,1,2,3,4,5,6,7,8,9,10,11] [12,13] [[],[],[],[],[],[.new 0],[.new 0],[.new 0],[.new 0],[.new 0],[],[]] [[.new 0],[.new 1]] mixed (by decide +kernel) ?_|refine And.intro ?_ ?_|intro _)|(simp[*,hi,hk,h1,Tw.dt,Tw.cg,Tw.cu])|(refine ae (c1) ?_ ?_;(· (simp[*];done)))
  all_goals first|omega
theorem PO(ab:List Car)(os:List Ord)(wt:List (List Int))(zs:List Par)(a9:ab.length<=1000)(ag:os.length<=1000)(ao:wt.length<100000)(aq:zs.length<100000)(hc:∀x∈ab,x.1.size<1000000)(ho:∀x∈os,x.1.size<1000000)(hw:∀x∈wt,x.length<100000):aC Tz.prog 20 [.agg [.sl ab.length (aS ab),.sl os.length (aR os),.sl wt.length (a8 wt),.sl zs.length (aT zs)]] (.int .i64 (g9 ab os wt zs).2) true:=by
 have c:=PE ab os wt zs a9 ag ao aq hc ho hw;generalize g9 ab os wt zs=R at *;clear hc ho hw;refine rcK Tz.func20 ?_;simp only[Tryz.results20,Tryz.ntmps20]
 repeat' first|(with_reducible first|apply ai|apply az|apply af|refine And.intro ?_ ?_|refine cw (c) ?_|intro _)|(simp[*])|(refine ae (c) ?_ ?_;(· (simp[*];done)))
theorem Rt(l:List Int)(hl:l.length<100000)(g:FuncId)(aH:List PV)(p:Int->Bool)(h:∀k,k<l.length->aC Tz.prog g (.int .i64 (nth l k)::aH) (.bool (p (nth l k))) true):aC Tz.prog 124 [.sl l.length (ints l),.fn g aH] (.int .i64 (idxOf p l)) true:=by
 generalize hR:idxOf p l=R;have kR:aN (fH p l 0=R):=keep hR;clear hR;refine rcK Tz.func124 ?_;simp only[Tryz.results124,Tryz.ntmps124]
 repeat' first|(with_reducible first|apply ai|apply af|intro _)|(simp[*])
 refine bQ (λ(k:Nat)=>k<=l.length/\fH p (l.drop k) k=R) [0,1,7] (λ(k:Nat)=>[(8,.w false false (.int .i64 k))]) [] (λ(k:Nat)=>[]) (λ(k:Nat)=>l.length-k) (λ(_u:Unit)=>R=-1) [] (λ(_u:Unit)=>[]) [] (λ(_u:Unit)=>[]) (0) ⟨aK _,kR⟩ (by simp) (by simp) (λk hk=>?_) (λ_u hf=>?_)
 .obtain⟨hk,hj⟩:=hk;by_cases h5:k<l.length
  .have c1:=h k h5;have hq:=hj;rw[dg l k h5] at hq;unfold fH at hq;have kj:=keep hq;clear hj hq h
   repeat' first|(with_reducible first|apply ai|apply aF|apply au|apply az|apply af|apply al|refine And.intro ?_ ?_|refine qu ?_ ?_|refine cw (c1) ?_|intro _)|(simp[*,h5])|(refine ae (c1) ?_ ?_;(· (simp[*];done)))
   all_goals first
    |exact aG (by omega) (by omega)
    |omega
    |(rename_i hp;rw[aB hp] at kj;exact kj)
    |(rename_i hp;rw[ar (by rw[hp];decide)] at kj;(refine nx (k+1) ?_ ?_;(· exact⟨by omega,kj⟩);(refine aD ?_ ?_<;>first|trivial|(simp[*];done))))
    |skip
  .have h8:k=l.length:=by omega
   subst h8
   repeat' first|(with_reducible first|apply ai|apply aL|apply af|apply al|intro _)|(simp[*])
   all_goals (refine aZ () ?_ ?_;(· rw[<-hj,fg];rfl);(refine aD ?_ ?_<;>first|trivial|(simp[*];done)))
 .subst hf
  repeat' first|(with_reducible first|apply ai|apply az|apply af|intro _)|(simp[*])
theorem TS(l:List Int)(hl:l.length<100000)(g:FuncId)(aH:List PV)(p:Int->Bool)(h:∀k,k<l.length->aC Tz.prog g (.int .i64 (nth l k)::aH) (.bool (p (nth l k))) true):aC Tz.prog 93 [.sl l.length (ints l),.fn g aH] (.bool (l.any p)) true:=by
 have c1:=Rt l hl g aH p h;have h:=rA p l;generalize idxOf p l=i at *;rw[<-h];clear h;refine rcK Tz.func93 ?_;simp only[Tryz.results93,Tryz.ntmps93]
 repeat' first|(with_reducible first|apply ai|apply az|apply af|refine And.intro ?_ ?_|refine cw (c1) ?_|intro _)|(simp[*])|(refine ae (c1) ?_ ?_;(· (simp[*];done)))
theorem WK(x:Rd)(ok:kW x)(i k:Nat)(hi:i<x.os.length)(hk:k<x.ab.length):aC Tz.prog 125 [.int .i64 i,.ip [x.pv] 0,.ip [.int .i64 k] 0] (.bool (nth (nth x.fit i) k)) true:=by
 have ax:i<x.fit.length:=by have:=ok.lf;omega
 have ay:k<(nth x.fit i).length:=by have:=ok.fr i hi;omega
 clear ok hk hi;unfold Rd.pv;refine rcK Tz.func125 ?_;simp only[Tryz.results125,Tryz.ntmps125]
 repeat' first|(with_reducible first|apply ai|apply az|apply af|refine aQ (id:=1) 11 mixed (by decide +kernel) ?_|intro _)|(simp[*,ax,ay])
def kJ(x:Rd)(os:List Int)(k:Nat):Bool:=os.any λi=>nth (nth x.fit i.toNat) k
def eC(x:Rd)(os:List Int)(n:Nat):List Int:=((List.range n).filter (kJ x os)).map λk=>((k:Nat):Int)
def eW(x:Rd)(os:List Int):List Int:=eC x os x.ab.length
theorem WS(x:Rd)(os:List Int)(n:Nat):eC x os (n+1)=if kJ x os n then eC x os n++[(n:Int)] else eC x os n:=by
 unfold eC;rw[jN,uV,ou]
 cases h:kJ x os n<;>simp[h]
theorem zb7(x:Rd)(os:List Int)(n:Nat):(eC x os n).length<=n:=by
 unfold eC;rw[fI];exact bN (yi _ _) (by simp)
theorem BO(x:Rd)(ok:kW x)(os:List Int)(hl:os.length<100000)(ho:∀i,i<os.length->0<=nth os i/\nth os i<(x.os.length:Int)):aC Tz.prog 95 [x.pv,.sl os.length (ints os)] (.sl (eW x os).length (ints (eW x os))) true:=by
 have c1:∀k,k<x.ab.length->aC Tz.prog 93 [.sl os.length (ints os),.fn 125 [.ip [x.pv] 0,.ip [.int .i64 k] 0]] (.bool (kJ x os k)) true:=λk hk=>
  TS os hl 125 _ (λi=>nth (nth x.fit i.toNat) k) (λj hj=>by
   have:=ho j hj;have c:=WK x ok (nth os j).toNat k (by omega) hk;rw[show (((nth os j).toNat:Nat):Int)=nth os j by omega] at c
   exact c)
 have hx:=ok.lc;have eS:eW x os=eC x os x.ab.length:=rfl;have e0:eC x os 0=[]:=rfl;have eK:=WS x os;have hK:=zb7 x os;rw[eS];generalize eC x os=K at *;generalize kJ x os=F at *;have kk:=keep (And.intro c1 (And.intro hx (And.intro eK hK)))
 have e1:(K 0).length=0:=by rw[e0];rfl
 have e2:iA (K 0)=[]:=by rw[e0];rfl
 clear c1 hx eK hK eS e0 ok ho;unfold Rd.pv;refine rcK Tz.func95 ?_;simp only[Tryz.results95,Tryz.ntmps95]
 repeat' first|(with_reducible first|apply ai|apply af|intro _)|(simp[*])
 refine df 2 (λ(k:Nat)=>k<=x.ab.length) [1,2,12] (λ(k:Nat)=>[(5,.msl 1 (K k).length 1 0 (K k).length),(13,.w false false (.int .i64 k))]) [0] (λ(k:Nat)=>[(1,iA (K k))]) (λ(k:Nat)=>x.ab.length-k) (λ(_u:Unit)=>True) [] (λ(_u:Unit)=>[(5,.msl 1 (K x.ab.length).length 1 0 (K x.ab.length).length)]) [] (λ(_u:Unit)=>[(1,iA (K x.ab.length))]) (0) (aK _) (aO [] (by simp[e1,e2]) (by simp[e1,e2])) (λk hk=>?_) (λ_u hf=>?_)
 .clear e1 e2;by_cases h5:k<x.ab.length
  .obtain⟨c1,hx,eK,hK⟩:=kk;have c:=c1 k h5;have e:=eK k;have hg:inI .i64 ((k:Int)+1):=aG (by omega) (by omega)
   have hz:k+1<=x.ab.length:=by omega
   have hb:=hK k
   have b6:(K k).length+1<=1000000000:=by omega
   unfold Rd.pv at c;clear c1 hx eK hK
   cases hf:F k with
   |true=>
    rw[hf] at c e;rw[aB rfl] at e
    have e3:iA (K (k+1))=iA (K k)++[.w false false (.int .i64 k)]:=by rw[e,<-rL];rfl
    have e4:(K (k+1)).length=(K k).length+1:=by rw[e];simp
    clear e hf
    repeat' first|(with_reducible first|apply ai|apply aF|apply au|apply af|apply al|refine And.intro ?_ ?_|refine cw (c) ?_|intro _)|(simp[*,h5,hg])|(refine ae (c) ?_ ?_;(· (simp[*];done)))
    all_goals first
     |omega
     |assumption
     |(refine nx (k+1) ?_ ?_;(· exact hz);(refine aO [] ?_ ?_<;>first|trivial|(simp[*,e3,e4];done)))
   |false=>
    rw[hf] at c e;rw[ar (by decide)] at e;clear hf
    repeat' first|(with_reducible first|apply ai|apply aF|apply au|apply af|apply al|refine And.intro ?_ ?_|refine cw (c) ?_|intro _)|(simp[*,h5,hg])|(refine ae (c) ?_ ?_;(· (simp[*];done)))
    all_goals first
     |omega
     |assumption
     |(refine nx (k+1) ?_ ?_;(· exact hz);(refine aO [] ?_ ?_<;>first|trivial|(simp[*,e];done)))
  .have h8:k=x.ab.length:=by omega
   subst h8;clear kk
   repeat' first|(with_reducible first|apply ai|apply aL|apply af|apply al|intro _)|(simp[*,h5])
   all_goals first
    |omega
    |(refine aZ () ?_ ?_;(· trivial);(refine aD ?_ ?_<;>first|trivial|(simp[*];done)))
 .clear kk e1 e2
  repeat' first|(with_reducible first|apply ai|apply az|apply af|intro _)|(simp[*])
end Go.Proofs.YthpkmilhiganjaaGreat
namespace Go.Proofs.YthpkmilhiganjaaGreat
open Go Go.Fi
theorem zb8[av](x:Rd)(h:x.os.length<100000)(n:Int):aC Tz.prog 90 [x.pv,.int .i64 n] (.int .i64 (ba (aU n 0 ((x.os.length:Int)-1)) 6)) true:=by
 obtain⟨ab,os,wt,zs,fit⟩:=x;unfold Rd.pv;simp only[] at h ⊢;refine rcK Tz.func90 ?_;simp only[Tryz.results90,Tryz.ntmps90]
 repeat' first|(with_reducible first|apply ai|apply az|apply af|refine And.intro ?_ ?_|refine cw (fL _ _ _) ?_|refine cw (dG _ _) ?_|intro _)|(simp[*])|(refine ae (fL _ _ _) ?_ ?_;(· (simp[*];done)))|(refine ae (dG _ _) ?_ ?_;(· (simp[*];done)))
 all_goals first
  |exact aG (by omega) (by omega)
  |omega
noncomputable instance zef:av:=LD
end Go.Proofs.YthpkmilhiganjaaGreat
namespace Go.Proofs.YthpkmilhiganjaaGreat
open Go Go.Fi
variable[av]
theorem zb9(n s:Int):aC Tz.prog 96 [.int .i64 n,.int .i64 s] (.fn 126 [.ip [.int .i64 s] 0,.ip [.int .i64 n] 0]) true:=by
 refine rcK Tz.func96 ?_;simp only[Tryz.results96,Tryz.ntmps96]
 repeat' first|(with_reducible first|apply ai|apply az|apply af|intro _)|(simp[*])
def cp(bad:List Int->Bool)(n:Nat):Nat->Nat->List Int->Option (List Int)
 |0,_,l=>if bad l then some l else none
 |r+1,a,l=>(List.range' a (n-a)).findSome? λi=>cp bad n r (i+1) (l++[(i:Int)])
theorem zca(bad:List Int->Bool)(n r:Nat)(l:List Int):((List.range' n (n-n)).findSome? λi=>cp bad n r (i+1) (l++[(i:Int)]))=none:=by simp
theorem mO(f:Nat->Option (List Int))(n a:Nat)(h:a<n):(List.range' a (n-a)).findSome? f=match f a with|some l=>some l|none=>(List.range' (a+1) (n-(a+1))).findSome? f:=by
 rw[show n-a=(n-(a+1))+1 by omega,IM,Je]
 cases f a<;>rfl
@[simp]theorem zeg:dK Tz.prog 160=some [.w false false .undef]:=by kernel_rfl
def bO(s n:Int):List AV:=[.w false false (.ip [.int .i64 s] 0),.ptr 5 1 0,.w false false (.ip [.int .i64 n] 0),.ptr 6 1 0]
def chH(x:Rd)(lp:Nat)(s n:Int)(p1 p2:PV):ak:=
 [(6,[.fn 127 (bO s n)]),(5,[.w false false (.yl lp)]),(4,[.w false false (.int .i64 s)]),(3,[.w false false x.pv]),(2,[.w false false p2]),(1,[.w false false p1])]
section
variable(x:Rd)(lp:Nat)(s n:Int)(p1 p2:PV)
@[simp]theorem zeh:bf (chH x lp s n p1 p2) 6=some [.fn 127 (bO s n)]:=rfl
@[simp]theorem zei:bf (chH x lp s n p1 p2) 5=some [.w false false (.yl lp)]:=rfl
end
theorem zcb(l m:List Int){j:Nat}(h:j<l.length):nth (l++m) j=nth l j:=by
 simp[nth,bS,om h]
theorem zcc(l:List Int)(i:Int):nth (l++[i]) l.length=i:=by
 simp[nth,bS]
theorem BP(x:Rd)(bad:List Int->Bool)(N s:Nat)(hN:N<1000)(hs:s<1000)(p1 p2:PV)(ri:Go.Fi.RI)(hy:∀(l:List Int)(o f:Bool)(m:Nat)(K Kl:ak->Nat->Prop),7<=m->l.length=s->(∀j,j<l.length->0<=nth l j/\nth l j<(N:Int))->(bad l=false->K (chH x ri.l s N p1 p2) m)->(bad l=true->Kl (chH x ri.l s N (.sl l.length (ints l)) (.int .i64 0)) m)->CL Tz.prog ri [.w o f (.sl l.length (ints l))] (chH x ri.l s N p1 p2) m K Kl):∀(r a:Nat)(l:List Int)(o f:Bool)(m:Nat)(K Kd:AV->ak->Nat->Prop),7<=m->l.length+r=s->a<=N->(∀j,j<l.length->0<=nth l j/\nth l j<(N:Int))->(cp bad N r a l=none->K (.w false false (.bool true)) (chH x ri.l s N p1 p2) m)->(∀q,cp bad N r a l=some q->∀m',m<=m'->Kd (.w false false (.bool false)) (chH x ri.l s N (.sl q.length (ints q)) (.int .i64 0)) m')->dJ m ri Tz.prog (Tryz.f127.body.getD .skip) ⟨dR 0 ([.w false false (.int .i64 a),.w o f (.sl l.length (ints l))]++bO s N),chH x ri.l s N p1 p2,m,Tryz.f127.ntmps⟩ (fp Tz.prog Tryz.f127.results.toList K) (fp Tz.prog Tryz.f127.results.toList Kd)
 |0,a,l,o,f,m,K,Kd,hm,hl,ha,hr,hK,hKd=>by
  have h1:=λK Kl=>hy l o f m K Kl hm (by omega) hr
  have hK2:bad l=false->K (.w false false (.bool true)) (chH x ri.l s N p1 p2) m:=λe=>hK (by simp[cp,e])
  have hKd2:bad l=true->Kd (.w false false (.bool false)) (chH x ri.l s N (.sl l.length (ints l)) (.int .i64 0)) m:=λe=>hKd l (by simp[cp,e]) m (aE _)
  have a7:(l.length:Int)=(s:Int):=by omega
  have kk:=keep (And.intro h1 (And.intro hK2 hKd2));clear hK hKd hy h1 hK2 hKd2 hr ha;have hb:Tryz.f127.body=some _:=rfl;rw[hb];clear hb;simp only[gk,Tryz.ntmps127,Tryz.results127];refine gL (gq ?_);unfold bO
  repeat' first|(with_reducible first|apply af|intro _)|(simp[*])
  refine gL (gL (gq ?_))
  repeat' first|(with_reducible first|apply af|intro _)|(simp[*,a7])
  refine qx (o:=false) (f:=false) (b:=true) rfl ?_;simp only[cond_true];refine gL (G9 (id:=2) 2 (by decide) rfl rfl (by simp) ?_);simp;refine⟨⟨_,_,rfl⟩,?_⟩;refine kk.1 _ _ (λe=>?_) (λe=>?_)
  .have h:=keep (kk.2.1 e);clear kk
   repeat' first|(with_reducible first|intro _)|(simp[*])
   refine gq ?_
   repeat' first|(with_reducible first|apply az|intro _)|(simp[*])
   simp[dC,eX,gz,oneOf];exact h
  .have h:=keep (kk.2.2 e);clear kk
   repeat' first|(with_reducible first|apply az|intro _)|(simp[*])
   simp[dC,eX,gz,oneOf];exact h
 |r+1,a,l,o,f,m,K,Kd,hm,hl,ha,hr,hK,hKd=>by
  have ih:=λ(i:Nat)(hi:i<N)(o' f':Bool)(m':Nat)(K' h':AV->ak->Nat->Prop)(a5:7<=m')=>
   BP x bad N s hN hs p1 p2 ri hy r (i+1) (l++[(i:Int)]) o' f' m' K' h' a5 (by simp;omega) (by omega) (λj hj=>by
    rcases dF j l.length with h|h
    .rw[zcb _ _ h];exact hr j h
    .have:j=l.length:=by simp at hj;omega
     subst this
     rw[zcc];omega)
  rw[show cp bad N (r+1) a l=(List.range' a (N-a)).findSome? λi=>cp bad N r (i+1) (l++[(i:Int)]) from rfl] at hK hKd;have hh:=zca bad N r l;generalize hF:(λi=>cp bad N r (i+1) (l++[(i:Int)]))=F at *
  have a':∀(i:Nat)(hi:i<N)(o' f':Bool)(m':Nat)(K' h':AV->ak->Nat->Prop)(a5:7<=m'),(F i=none->K' (.w false false (.bool true)) (chH x ri.l s N p1 p2) m')->(∀q,F i=some q->∀m2,m'<=m2->h' (.w false false (.bool false)) (chH x ri.l s N (.sl q.length (ints q)) (.int .i64 0)) m2) ->
   dJ m' ri Tz.prog (Tryz.f127.body.getD .skip) ⟨dR 0 ([.w false false (.int .i64 ((i:Int)+1)),.w o' f' (.sl (l.length+1) (ints l++[.int .i64 i]))]++bO s N),chH x ri.l s N p1 p2,m',Tryz.f127.ntmps⟩ (fp Tz.prog Tryz.f127.results.toList K') (fp Tz.prog Tryz.f127.results.toList h'):=by
   intro i hi o' f' m' K' h' a5 h1 h2;have h:=ih i hi o' f' m' K' h' a5 (by rw[<-hF] at h1;exact h1) (by rw[<-hF] at h2;exact h2);rw[show ((i+1:Nat):Int)=(i:Int)+1 by omega,show (l++[(i:Int)]).length=l.length+1 by simp,show ints (l++[(i:Int)])=ints l++[.int .i64 i] by simp[ints]] at h;exact h
  clear ih hF
  have aa:=λi=>mO F N i
  generalize hR:(List.range' a (N-a)).findSome? F=R at hK hKd
  have a7:¬(l.length:Int)=(s:Int):=by omega
  have b4:l.length<1000:=by omega
  have m0:0<m:=by omega
  have m1:1<m:=by omega
  have m2:2<m:=by omega
  have m3:3<m:=by omega
  have m4:4<m:=by omega
  have m5:5<m:=by omega
  have m6:6<m:=by omega
  have kk:=keep (And.intro a' (And.intro hh (And.intro aa (And.intro hK (And.intro hKd hR)))));clear a' hh aa hK hKd hR hy hr;have hb:Tryz.f127.body=some _:=rfl;rw[hb];clear hb;simp only[gk,Tryz.ntmps127,Tryz.results127];refine gL (gq ?_);unfold bO
  repeat' first|(with_reducible first|apply af|intro _)|(simp[*])
  refine gL (gL (gq ?_))
  repeat' first|(with_reducible first|apply af|intro _)|(simp[*,a7])
  refine qx (o:=false) (f:=false) (b:=false) rfl ?_;simp only[cond_false];refine gq ?_
  repeat' first|(with_reducible first|apply au|intro _)|(simp[*])
  refine gL (gL (gq ?_))
  repeat' first|(with_reducible first|apply af|intro _)|(simp[*])
  refine Bz (G8 (λi:Nat=>a<=i/\i<=N/\aN ((List.range' i (N-i)).findSome? F=R)) (λi=>⟨[(9,.w false false (.int .i64 i)),(1,.w o f (.sl l.length (ints l))),(2,.w false false (.ip [.int .i64 s] 0)),(3,.ptr 5 1 0),(4,.w false false (.ip [.int .i64 N] 0)),(5,.ptr 6 1 0)],chH x ri.l s N p1 p2,m,37⟩) (λi=>N-i) a ?_ ?_ (λi hi=>?_))
  .exact⟨aE _,ha,kk.2.2.2.2.2⟩
  .clear kk;unfold chH bO Rd.pv
   refine aO [] ?_ ?_<;>first|trivial|(simp[m0,m1,m2,m3,m4,m5,m6];done)
  obtain⟨h1,h2,h3⟩:=hi;refine gL (gL (gq ?_));by_cases h5:i<N
  .have hltI:(i:Int)<(N:Int):=by omega
   have hg:inI .i64 ((i:Int)+1):=aG (by omega) (by omega)
   repeat' first|(with_reducible first|apply af|intro _)|(simp[*,hltI])
   refine qx (o:=false) (f:=false) (b:=true) rfl ?_;simp only[cond_true];refine gq ?_
   repeat' first|(with_reducible first|apply au|intro _)|(simp[*])
   refine gL (Bz (gL (Hc (id:=6) 12 127 mixed (by decide +kernel) (by decide +kernel) Tz.func127 (by kernel_rfl) (show Tryz.f127.body=some (Tryz.f127.body.getD .skip) from rfl) rfl ?_)))
   repeat' first|(with_reducible first|refine And.intro ?_ ?_|intro _)|(simp[*,hg])
   all_goals try first|exact b4|omega
   refine BA (bO s N) rfl (di (by kernel_rfl)) (by simp) rfl ?_;refine G7 (st':=⟨dR 0 ([.w false false (.int .i64 ((i:Int)+1)),.w false false (.sl (l.length+1) (ints l++[.int .i64 i]))]++bO s N),chH x ri.l s N p1 p2,m+1,Tryz.f127.ntmps⟩) ?_ ?_
   .clear kk
    have n0:¬m=0:=by omega
    have q0:0<m+1:=by omega
    have n1:¬m=1:=by omega
    have q1:1<m+1:=by omega
    have n2:¬m=2:=by omega
    have q2:2<m+1:=by omega
    have n3:¬m=3:=by omega
    have q3:3<m+1:=by omega
    have n4:¬m=4:=by omega
    have q4:4<m+1:=by omega
    have n5:¬m=5:=by omega
    have q5:5<m+1:=by omega
    have n6:¬m=6:=by omega
    have q6:6<m+1:=by omega
    unfold chH bO Rd.pv
    refine aO [] ?_ ?_<;>first|trivial|(simp[n0,q0,n1,q1,n2,q2,n3,q3,n4,q4,n5,q5,n6,q6];done)
   refine kk.1 i h5 _ _ (m+1) _ _ (by omega) (λe=>?_) (λq e m2 b9=>?_)
   .have hj:=keep ((kk.2.2.1 i h5).symm.trans h3);rw[e] at hj;have hj:aN (List.findSome? F (List.range' (i+1) (N-(i+1)))=R):=hj;clear kk
    repeat' first|(with_reducible first|intro _)|(simp[*])
    refine qx (o:=false) (f:=false) (b:=false) rfl ?_;simp only[cond_false];refine gq ?_
    repeat' first|(with_reducible first|apply au|intro _)|(simp[*])
    refine gq ?_
    repeat' first|(with_reducible first|apply af|intro _)|(simp[*])
    refine wT _ _ _ _ _ (i+1) _ ⟨by omega,by omega,hj⟩ (by omega) ?_
    have n0:¬m=0:=by omega
    have q0:0<m+1:=by omega
    have n1:¬m=1:=by omega
    have q1:1<m+1:=by omega
    have n2:¬m=2:=by omega
    have q2:2<m+1:=by omega
    have n3:¬m=3:=by omega
    have q3:3<m+1:=by omega
    have n4:¬m=4:=by omega
    have q4:4<m+1:=by omega
    have n5:¬m=5:=by omega
    have q5:5<m+1:=by omega
    have n6:¬m=6:=by omega
    have q6:6<m+1:=by omega
    unfold chH bO Rd.pv
    refine aO [] ?_ ?_<;>first|trivial|(simp[m0,n0,q0,m1,n1,q1,m2,n2,q2,m3,n3,q3,m4,n4,q4,m5,n5,q5,m6,n6,q6];done)
   .have hj:some q=R:=by have:=(kk.2.2.1 i h5).symm.trans h3;rw[e] at this;exact this
    have h:=keep (kk.2.2.2.2.1 q hj.symm m2 (by omega));clear kk
    repeat' first|(with_reducible first|apply ai|apply az|apply af|apply al|intro _)|(simp[*])
    simp[dC,eX,gz,oneOf];exact h
  .have aw:i=N:=by omega
   subst aw
   have hltI:¬(i:Int)<(i:Int):=by omega
   repeat' first|(with_reducible first|apply af|intro _)|(simp[*,hltI])
   have hj:none=R:=kk.2.1.symm.trans h3;have h:=keep (kk.2.2.2.1 hj.symm);clear kk;refine qx (o:=false) (f:=false) (b:=false) rfl ?_;simp only[cond_false];refine gq ?_
   repeat' first|(with_reducible first|apply aL|intro _)|(simp[*])
   refine gq ?_
   repeat' first|(with_reducible first|apply ai|apply az|apply af|intro _)|(simp[*])
   simp[dC,eX,gz,oneOf];exact h
def pI(M:List (Int×Int)):List (PV×PV):=M.map λp=>(.int .i64 p.1,.int .i64 p.2)
def mI(M:List (Int×Int)):List AV:=[fR (pI M)]
@[simp]theorem zdq(M:List (Int×Int)):(mI M).length=1:=rfl
@[simp]theorem zej(M:List (Int×Int))(n:Nat):AV.lt.ltL n (mI M)=true:=rfl
theorem zcd(l:List (List Int))(r:List Int):cH (l++[r])=cH l++[.w true false (.sl r.length (ints r))]:=by simp[cH]
end Go.Proofs.YthpkmilhiganjaaGreat
namespace Go.Proofs.YthpkmilhiganjaaGreat
open Go Go.Fi
noncomputable instance zem:av:=LD
end Go.Proofs.YthpkmilhiganjaaGreat
