/- Lemmas. -/
import Derived.Test.YthpkmilhiganjaaGreatPEe
import Derived.Test.YthpkmilhiganjaaGreatPLe
import Derived.Test.YthpkmilhiganjaaGreatPEa
import Derived.Test.YthpkmilhiganjaaGreatPEc
set_option linter.all false
set_option maxHeartbeats 32000000
set_option maxRecDepth 100000
namespace Go.Proofs.YthpkmilhiganjaaGreat
open Go Go.Fi
section
variable[av]
def plG(L:List Int)(p:List Int)(j:Nat):List (List Int):=(p++[-1])::((L.take j).filter λf=>!(p.any λy=>decide (f=y))).map λf=>p++[f]
theorem zef(L p:List Int)(j:Nat):(plG L p j).length<=1+L.length:=by
 unfold plG;have h1:=yi (λf=>!(p.any λy=>decide (f=y))) (L.take j)
 have h2:(L.take j).length<=L.length:=by rw[ia];exact Nat.min_le_right _ _
 simp only[eI,fI];omega
theorem zeg(F:Nat->List Int)(i:Nat):mz F (i+1)=(mz F i).flatMap λp=>plG (F i) p (F i).length:=by
 show (mz F i).flatMap _=_;unfold plG;simp only[uW]
theorem pB{α:Type}(g:α->List (List Int))(b:Nat)(hg:∀p,(g p).length<=b):∀l:List α,(l.flatMap g).length<=b*l.length
 |[]=>by simp
 |p::l=>by
  have:=pB g b hg l;have:=hg p;rw[il,jO,eI,Nat.mul_add];omega
theorem zcu(F:Nat->List Int)(hF:∀i,(F i).length<=8):∀i,(mz F i).length<=9 ^ i
 |0=>by simp[mz]
 |i+1=>by
  have ih:=zcu F hF i;rw[zeg];have h1:=pB (λp=>plG (F i) p (F i).length) 9 (λp=>by have:=zef (F i) p (F i).length;have:=hF i;omega) (mz F i);have:9*(mz F i).length<=9*9 ^ i:=Nat.mul_le_mul_left _ ih;rw[Nat.pow_succ];omega
theorem zfy(p:List Int)(v:Int):iA (p++[v])=iA p++[.w false false (.int .i64 v)]:=by rw[<-LK];rfl
theorem zfz(ab:List Car)(os:List Ord)(wt:List (List Int))(zs:List Par)(hc:ab.length<=8)(ho:os.length<=8)(hz:zs.length<100000):aC Tz.prog 82 [.agg [.sl ab.length (aS ab),.sl os.length (aR os),.sl wt.length (a8 wt),.sl zs.length (aT zs)]] (.sl (mz (λi=>cm ab os zs i ab.length) os.length).length (l9 (mz (λi=>cm ab os zs i ab.length) os.length))) true:=by
 have c1:=λi hi=>zd2 ab os wt zs i hi (by omega) hz
 have bF:∀i,(cm ab os zs i ab.length).length<=8:=λi=>bN (MC _ _ _ _ _) hc
 have eL:=zeg (λi=>cm ab os zs i ab.length);have bL:=zcu (λi=>cm ab os zs i ab.length) bF
 have rL:=λi p (hp:p∈mz (λi=>cm ab os zs i ab.length) i)=>((zcs _ i p).1 hp).1
 have e0:mz (λi=>cm ab os zs i ab.length) 0=[[]]:=rfl;generalize mz (λi=>cm ab os zs i ab.length)=L at *;have kk:=keep (And.intro c1 (And.intro bF (And.intro eL (And.intro bL (And.intro rL ho)))))
 have z1:(L 0).length=1:=by rw[e0];rfl
 have z2:l9 (L 0)=[.sl 0 []]:=by rw[e0];rfl
 clear c1 bF eL bL rL hc hz;refine rcK Tz.func82 ?_;simp only[Tryz.results82,Tryz.ntmps82]
 repeat' first|(with_reducible first|apply ai|apply af|intro _)|(simp[*])
 refine df 1 (λ(i:Nat)=>i<=os.length) [1] (λ(i:Nat)=>[(4,.w false false (.int .i64 i)),(3,.w true false (.sl (L i).length (l9 (L i))))]) [0] (λ(i:Nat)=>[]) (λ(i:Nat)=>os.length-i) (λ(_u:Unit)=>True) [] (λ(_u:Unit)=>[(3,.w true false (.sl (L os.length).length (l9 (L os.length))))]) [0] (λ(_u:Unit)=>[]) (0) (aK _) (aO [1] (by simp[z1,z2]) (by simp[z1,z2])) (λi hk=>?_) (λ_u hf=>?_)
 .clear z1 z2 e0;by_cases h5:i<os.length
  .obtain⟨c1,bF,eL,bL,rL,_⟩:=kk;have c1:=c1 i h5;have bF:=bF i;have eL:=eL i;have bL:=bL i;have rL:=rL i;have h9:inI .i64 ((i:Int)+1):=aG (by omega) (by omega)
   have hz:i+1<=os.length:=by omega
   have a4:9 ^ i<=9 ^ 7:=Nat.pow_le_pow_right (by decide) (by omega)
   have bh:(9:Nat) ^ 7=4782969:=by decide
   have hL9:(L i).length<=4782969:=by omega
   have a7:i<8:=by omega
   generalize hL1:L (i+1)=L1 at *;generalize L i=Li at *;generalize cm ab os zs i ab.length=F at *
   obtain⟨M,m0,mS,mE⟩:∃M:Nat->List (List Int),M 0=[]/\(∀k,k<Li.length->M (k+1)=M k++plG F (nth Li k) F.length)/\M Li.length=L1:=by
    refine⟨λk=>(Li.take k).flatMap λp=>plG F p F.length,rfl,λk hk=>?_,by rw[eL];simp⟩;show (Li.take (k+1)).flatMap _=_;rw[xe Li k hk,sX];simp
   have bM:∀k,k<=Li.length->(M k).length<=9*k:=λk=>by
    induction k with
    |zero=>intro _;rw[m0];simp
    |succ k ih=>
     intro hk;have h1:=ih (by omega);have h2:=zef F (nth Li k) F.length;rw[mS k (by omega),jO];omega
   have y1:(M 0).length=0:=by rw[m0];rfl
   have y2:dS (M 0)=[]:=by rw[m0];rfl
   have kq:=keep (And.intro mS (And.intro bM (And.intro rL (And.intro bF (And.intro hL9 a7)))));have kz:=keep (And.intro hz (And.intro h9 (And.intro mE hL1)));clear eL bL rL bF a4 bh hL9 mS bM hz h9 mE m0 a7 hL1
   repeat' first|(with_reducible first|apply ai|apply aF|apply au|apply af|apply al|refine And.intro ?_ ?_|refine cw (c1) ?_|intro _)|(simp[*,h5])|(refine ae (c1) ?_ ?_;(· (simp[*];done)))
   clear c1;refine df 2 (λ(k:Nat)=>k<=Li.length) [1,3,4,6] (λ(k:Nat)=>[(7,.w false false (.int .i64 k)),(5,.msl 1 (M k).length 1 0 (M k).length)]) [0] (λ(k:Nat)=>[(1,dS (M k))]) (λ(k:Nat)=>Li.length-k) (λ(_u:Unit)=>True) [1,4] (λ(_u:Unit)=>[(5,.msl 1 (M Li.length).length 1 0 (M Li.length).length)]) [0] (λ(_u:Unit)=>[(1,dS (M Li.length))]) (0) (aK _) (aO [] (by simp[y1,y2]) (by simp[y1,y2])) (λk hk=>?_) (λ_u hf=>?_)
   .clear y1 y2 kz;by_cases hw:k<Li.length
    .obtain⟨mS,bM,rL,bF,hL9,a7⟩:=kq;have mS:=mS k hw;have bM:=bM k hk;have a':inI .i64 ((k:Int)+1):=aG (by omega) (by omega)
     have ao:k+1<=Li.length:=by omega
     have ba:=rL (nth Li k) (eJ hw);have cI:=zfv (nth Li k) (by omega)
     have cH:=λv=>zeb (nth Li k) (by omega) v
     generalize hM1:M (k+1)=M1 at *;generalize hMk:M k=Mk at *;generalize hN:nth Li k=p at *
     obtain⟨R,r0,rS,rE⟩:∃R:Nat->List (List Int),R 0=Mk++[p++[-1]]/\(∀j,j<F.length->R (j+1)=if (p.any λy=>decide (nth F j=y))=true then R j else R j++[p++[nth F j]])/\R F.length=M1:=by
      refine⟨λj=>Mk++plG F p j,rfl,λj hj=>?_,mS.symm⟩;show Mk++plG F p (j+1)=_;unfold plG;rw[xe F j hj,uV]
      by_cases hb:(p.any λy=>decide (nth F j=y))=true<;>simp[hb]
     have bR:∀j,j<=F.length->(R j).length<=Mk.length+1+j:=λj=>by
      induction j with
      |zero=>intro _;rw[r0];simp
      |succ j ih=>
       intro hj;have:=ih (by omega);rw[rS j (by omega)];split
       .omega
       .rw[jO,List.length_singleton];omega
     have r1:dS (R 0)=dS Mk++[.w true false (.sl (p++[-1]).length (ints (p++[-1])))]:=by rw[r0,zdx]
     have r2:(R 0).length=Mk.length+1:=by rw[r0];simp
     have r3:iA p++[.w false false (.int .i64 (-1))]=iA (p++[-1]):=(zfy p (-1)).symm
     have r4:p.length+1=(p++[-1]).length:=by simp
     obtain⟨P1,hP1⟩:∃P1,p++[-1]=P1:=⟨_,rfl⟩;rw[hP1] at r1 r3 r4
     have a4:p.length+1<=1000000000:=by omega
     have hM9:Mk.length+1<=1000000000:=by omega
     have kr:=keep (And.intro r1 (And.intro r2 (And.intro r3 r4)));have kj:=keep (And.intro cI (And.intro cH (And.intro rS (And.intro bR (And.intro bF (And.intro a4 (And.intro bM hL9)))))));have ke:=keep (And.intro a' (And.intro ao (And.intro rE hM1)));clear cH rS bR bF mS ba rL a' ao rE r0 r1 r2 r3 r4 bM hL9 a7 hM1
     repeat' first|(with_reducible first|apply ai|apply aF|apply au|apply af|apply al|refine And.intro ?_ ?_|refine cwM (cI) ?_|intro _)|(simp[*,hw,hN,a4,hM9])
     all_goals try first|omega|assumption
     obtain⟨r1,r2,r3,r4⟩:=kr;refine df 2 (λ(j:Nat)=>j<=F.length) [1,3,4,6,7] (λ(j:Nat)=>[(8,.w false false (.int .i64 j)),(5,.msl 1 (R j).length 1 0 (R j).length)]) [0] (λ(j:Nat)=>[(1,dS (R j))]) (λ(j:Nat)=>F.length-j) (λ(_u:Unit)=>True) [1,3,4,6,7] (λ(_u:Unit)=>[(5,.msl 1 (R F.length).length 1 0 (R F.length).length)]) [0] (λ(_u:Unit)=>[(1,dS (R F.length))]) (0) (aK _) (aO [2] (by simp[r1,r2,r3,r4]) (by simp[r1,r2,r3,r4])) (λj hk=>?_) (λ_u hf=>?_)
     .clear r1 r2 r3 r4 ke hM9 hP1;by_cases aa:j<F.length
      .obtain⟨cI,cH0,rS0,bR0,bF,a4,bM,hL9⟩:=kj;have rS:=rS0 j aa;have bR:=bR0 j hk;have b4:inI .i64 ((j:Int)+1):=aG (by omega) (by omega)
       have b6:j+1<=F.length:=by omega
       have hR9:(R j).length+1<=1000000000:=by omega
       have cH:=cH0 (nth F j);clear bR bF bM hL9 cH0 rS0 bR0;generalize hv:nth F j=v at *
       cases hb:(p.any λy=>decide (v=y)) with
       |true=>
        rw[hb] at cH;rw[aB hb] at rS;clear hb cI
        repeat' first|(with_reducible first|apply ai|apply aF|apply au|apply af|refine aQ (id:=14) 10 mixed (by decide +kernel) ?_|apply al|refine And.intro ?_ ?_|refine cw (cH) ?_|intro _)|(simp[*,hw,hN,aa,hv,b4])|(refine ae (cH) ?_ ?_;(· (simp[*];done)))
        all_goals first
         |omega
         |assumption
         |(refine nx (j+1) ?_ ?_;(· exact b6);(refine aO [] ?_ ?_<;>first|trivial|(simp[*,rS];done)))
       |false=>
        rw[hb] at cH;rw[ar (by rw[hb];decide)] at rS;have e6:=zdx (R j) (p++[v]);rw[<-rS] at e6
        have e7:(R (j+1)).length=(R j).length+1:=by rw[rS];simp
        have e8:ints p++[.int .i64 v]=ints (p++[v]):=by simp[ints]
        have e9:p.length+1=(p++[v]).length:=by simp
        obtain⟨P2,hP2⟩:∃P2,p++[v]=P2:=⟨_,rfl⟩;rw[hP2] at e6 e8 e9;have kf:=keep (And.intro e6 (And.intro e7 (And.intro e8 e9)));clear hb rS e6 e7 e8 e9 hP2
        repeat' first|(with_reducible first|apply ai|apply aF|apply au|apply af|refine aQ (id:=14) 10 mixed (by decide +kernel) ?_|refine iX (id:=15) [0,1,2,3,4,5,6,7,8,9,10] [11,12,13,14] [[.new 0],[],[],[],[],[],[],[],[],[],[]] [[.new 0],[],[.slot 5],[]] mixed (by decide +kernel) ?_|apply al|refine And.intro ?_ ?_|refine cw (cH) ?_|refine cwM (cI) ?_|intro _)|(simp[*,hw,hN,aa,hv,b4,hR9,a4])|(refine ae (cH) ?_ ?_;(· (simp[*];done)))
        all_goals try first|omega|assumption|(simp[touch];done)
        obtain⟨e6,e7,e8,e9⟩:=kf
        all_goals first
         |(refine nx (j+1) ?_ ?_;(· exact b6);(refine aO [2] ?_ ?_<;>first|trivial|(simp[*,e6,e7,e8,e9,List.mapM_append,List.all_append];done)))
      .have h8:j=F.length:=by omega
       subst h8;clear kj
       repeat' first|(with_reducible first|apply ai|apply aL|apply af|apply al|intro _)|(simp[*,aa])
       all_goals first
        |omega
        |(refine aZ () ?_ ?_;(· trivial);(refine aD ?_ ?_<;>first|trivial|(simp[*];done)))
     .clear r1 r2 r3 r4 kj hM9 hP1;obtain⟨a',ao,rE,hM1⟩:=ke
      repeat' first|(with_reducible first|apply af|intro _)|(simp[*,hw,a'])
      all_goals first
       |omega
       |assumption
       |(refine nx (k+1) ?_ ?_;(· exact ao);(refine aO [] ?_ ?_<;>first|trivial|(simp[*,rE,hM1];done)))
    .have h8:k=Li.length:=by omega
     subst h8;clear kq
     repeat' first|(with_reducible first|apply ai|apply aL|apply af|apply al|intro _)|(simp[*,hw])
     all_goals first
      |omega
      |(refine aZ () ?_ ?_;(· trivial);(refine aD ?_ ?_<;>first|trivial|(simp[*];done)))
   .clear y1 y2 kq;obtain⟨hz,h9,mE,hL1⟩:=kz
    repeat' first|(with_reducible first|apply af|intro _)|(simp[*,h5,h9])
    all_goals first
     |omega
     |assumption
     |(refine nx (i+1) ?_ ?_;(· exact hz);(refine aO [1] ?_ ?_<;>first|trivial|(simp[*,mE,hL1];done)))
  .have h8:i=os.length:=by omega
   subst h8;clear kk
   repeat' first|(with_reducible first|apply ai|apply aL|apply af|apply al|intro _)|(simp[*,h5])
   all_goals first
    |omega
    |(refine aZ () ?_ ?_;(· trivial);(refine aO [] ?_ ?_<;>first|trivial|(simp[*];done)))
 .clear z1 z2 kk e0
  repeat' first|(with_reducible first|apply ai|apply az|apply af|intro _)|(simp[*])
  all_goals first|omega|trivial
end
noncomputable instance zh1:av:=LD
theorem zf0(r:Tw.RND)(ok:b9 (aj r)):∀p∈ez r,zb8 r.os r.wt p:=λp hp=>zec r ok p ((C6 r p).2 hp).toPlanIn
theorem zf1(r:Tw.RND)(he:ceR r=0):1<=(ez r).length:=SN ((C6 r _).1 (D5 (aj r) (C7 r he)))
theorem zeh(r:Tw.RND)(ok:b9 (aj r)):(ez r).length<=43046721:=by
 have h1:=zcu (zb7 r) (λi=>bN (MC _ _ _ _ _) ok.lc) r.os.length;have h2:9 ^ r.os.length<=9 ^ 8:=Nat.pow_le_pow_right (by decide) ok.lo
 have h3:(9:Nat) ^ 8=43046721:=by decide
 unfold ez;omega
theorem zei(r:Tw.RND)(ok:b9 (aj r)):aC Tz.prog 82 [Tw.aM r] (.sl (ez r).length (l9 (ez r))) true:=
 zfz r.ab r.os r.wt r.zs ok.lc ok.lo (by have:r.zs.length<=64:=ok.lz;omega)
theorem zf2(r:Tw.RND)(he:ceR r=0):aC Tz.prog 26 [Tw.aM r] (.tup [.int .i64 (rcS r.os r.wt (D3 r)),.sl (D3 r).length (ints (D3 r))]) true:=by
 have ok:=C7 r he;have c1:=zei r ok;have pw:=zf0 r ok
 have c2:=λp (hp:p∈ez r)=>zee r.ab r.os r.wt r.zs p (pw p hp)
 have h1:=zf1 r he;have h2:=zeh r ok;have eS:D3 r=sf (rcS r.os r.wt) ((ez r).drop 1) (nth (ez r) 0):=rfl
 change aC Tz.prog 82 [.agg [.sl r.ab.length (aS r.ab),.sl r.os.length (aR r.os),.sl r.wt.length (a8 r.wt),.sl r.zs.length (aT r.zs)]] _ true at c1
 change aC Tz.prog 26 [.agg [.sl r.ab.length (aS r.ab),.sl r.os.length (aR r.os),.sl r.wt.length (a8 r.wt),.sl r.zs.length (aT r.zs)]] _ true
 generalize ez r=L at *;generalize D3 r=R at *;generalize rcS r.os r.wt=C at *;have kR:aN (sf C (L.drop 1) (nth L 0)=R):=eS.symm;have k0:nth L 0∈L:=eJ h1;have h0:0<L.length:=h1;have kk:=keep (And.intro c2 h2);clear ok pw c2 eS h2 he;refine rcK Tz.func26 ?_;simp only[Tryz.results26,Tryz.ntmps26]
 repeat' first|(with_reducible first|apply ai|apply af|refine And.intro ?_ ?_|refine cw (c1) ?_|intro _)|(simp[*,h0])|(refine ae (c1) ?_ ?_;(· (simp[*];done)))
 all_goals try first|omega|assumption
 refine bQ (λ(p:Nat×List Int)=>(1<=p.1/\p.1<=L.length)/\p.2∈L/\sf C (L.drop p.1) p.2=R) [1,4] (λ(p:Nat×List Int)=>[(6,.w false false (.int .i64 (p.1:Nat))),(5,.w true false (.sl p.2.length (ints p.2)))]) [0] (λ(p:Nat×List Int)=>[]) (λ(p:Nat×List Int)=>L.length-p.1) (λ(_u:Unit)=>R∈L) [1] (λ(_u:Unit)=>[(5,.w true false (.sl R.length (ints R)))]) [0] (λ(_u:Unit)=>[]) ((1,nth L 0)) ⟨⟨aE _,h1⟩,k0,kR⟩ (by simp) (by simp) (λp hk=>?_) (λ_u hf=>?_)
 .obtain⟨i,b⟩:=p;obtain⟨⟨h9,aw⟩,hb,hj⟩:=hk;dsimp only at h9 aw hb hj ⊢;clear kR k0 c1;by_cases h5:i<L.length
  .obtain⟨c2,h2⟩:=kk;have a9:inI .i64 ((i:Int)+1):=aG (by omega) (by omega)
   have hz:i+1<=L.length:=by omega
   have d1:=c2 (nth L i) (eJ h5);have d2:=c2 b hb;rw[dg L i h5] at hj;have hj:sf C (L.drop (i+1)) (if C (nth L i)<C b then nth L i else b)=R:=hj;have hm:=eJ h5;generalize hN:nth L i=N at *;clear c2 h2;by_cases hc:C N<C b
   .rw[aB hc] at hj;have kj:=keep (And.intro hm hj);clear hb hm hj
    repeat' first|(with_reducible first|apply ai|apply aF|apply au|apply af|refine aQ (id:=6) 10 mixed (by decide +kernel) ?_|apply al|refine And.intro ?_ ?_|refine cw (d1) ?_|refine cw (d2) ?_|intro _)|(simp[*,h5,hN,a9,hc])|(refine ae (d1) ?_ ?_;(· (simp[*];done)))|(refine ae (d2) ?_ ?_;(· (simp[*];done)))
    all_goals first
     |omega
     |assumption
     |(refine nx (i+1,N) ?_ ?_;(· exact⟨⟨by omega,hz⟩,kj.1,kj.2⟩);(refine aD ?_ ?_<;>first|trivial|(simp[*];done)))
   .rw[ar hc] at hj;have kj:=keep (And.intro hb hj);clear hb hm hj
    repeat' first|(with_reducible first|apply ai|apply aF|apply au|apply af|refine aQ (id:=6) 10 mixed (by decide +kernel) ?_|apply al|refine And.intro ?_ ?_|refine cw (d1) ?_|refine cw (d2) ?_|intro _)|(simp[*,h5,hN,a9,hc])|(refine ae (d1) ?_ ?_;(· (simp[*];done)))|(refine ae (d2) ?_ ?_;(· (simp[*];done)))
    all_goals first
     |omega
     |assumption
     |(refine nx (i+1,b) ?_ ?_;(· exact⟨⟨by omega,hz⟩,kj.1,kj.2⟩);(refine aD ?_ ?_<;>first|trivial|(simp[*];done)))
  .have h8:i=L.length:=by omega
   subst h8;rw[fg] at hj;have hj:b=R:=hj;subst hj;have kb:=keep hb;clear hb kk
   repeat' first|(with_reducible first|apply ai|apply aL|apply af|apply al|intro _)|(simp[*,h5])
   all_goals first
    |omega
    |(refine aZ () ?_ ?_;(· exact kb);(refine aD ?_ ?_<;>first|trivial|(simp[*];done)))
 .have d2:=kk.1 R hf;clear kk kR k0 c1 hf
  repeat' first|(with_reducible first|apply ai|apply az|apply af|refine And.intro ?_ ?_|refine cw (d2) ?_|intro _)|(simp[*])|(refine ae (d2) ?_ ?_;(· (simp[*];done)))
  all_goals first|omega|trivial
theorem zej(ab:List Car)(os:List Ord)(wt:List (List Int))(zs:List Par)(plan:List Int)(p:Int)(hl:plan.length=os.length)(ho:os.length<100000):aC Tz.prog 29 [.agg [.sl ab.length (aS ab),.sl os.length (aR os),.sl wt.length (a8 wt),.sl zs.length (aT zs)],.sl plan.length (ints plan),.int .i64 p] (.int .i64 (m6 os p plan)) true:=by
 unfold m6
 obtain⟨K,e0,eK,eE,bK⟩:∃K:Nat->Int,K 0=0/\(∀k,K (k+1)=K k+if (!(decide (nth plan k=-1))&&decide (p<=(nth os k).2.2.2))=true then 1 else 0)/\K plan.length=(cn (λi=>!(decide (nth plan i=-1))&&decide (p<=(nth os i).2.2.2)) plan.length:Nat)/\∀k,0<=K k/\K k<=(k:Int):=by
  refine⟨λk=>(cn (λi=>!(decide (nth plan i=-1))&&decide (p<=(nth os i).2.2.2)) k:Nat),rfl,λk=>?_,rfl,λk=>?_⟩
  .show ((cn _ (k+1):Nat):Int)=_;rw[show cn (λi=>!(decide (nth plan i=-1))&&decide (p<=(nth os i).2.2.2)) (k+1)=cn (λi=>!(decide (nth plan i=-1))&&decide (p<=(nth os i).2.2.2)) k+if (!(decide (nth plan k=-1))&&decide (p<=(nth os k).2.2.2)) then 1 else 0 from rfl]
   split<;>simp
  .have:=zd4 (λi=>!(decide (nth plan i=-1))&&decide (p<=(nth os i).2.2.2)) k;exact⟨I4 _,Int.ofNat_le.2 this⟩
 rw[<-eE];have kk:=keep (And.intro eK (And.intro bK (And.intro hl ho)));clear eK eE bK hl ho;refine rcK Tz.func29 ?_;simp only[Tryz.results29,Tryz.ntmps29]
 repeat' first|(with_reducible first|apply ai|apply af|intro _)|(simp[*])
 refine bQ (λ(k:Nat)=>k<=plan.length) [1,2,3] (λ(k:Nat)=>[(8,.w false false (.int .i64 k)),(7,.w false false (.int .i64 (K k)))]) [0] (λ(k:Nat)=>[]) (λ(k:Nat)=>plan.length-k) (λ(_u:Unit)=>True) [] (λ(_u:Unit)=>[(7,.w false false (.int .i64 (K plan.length)))]) [0] (λ(_u:Unit)=>[]) (0) (aK _) (by simp[e0]) (by simp[e0]) (λk hk=>?_) (λ_u hf=>?_)
 .clear e0;by_cases h5:k<plan.length
  .obtain⟨eK,bK,hl,ho⟩:=kk
   have ax:k<os.length:=by omega
   have h9:inI .i64 ((k:Int)+1):=aG (by omega) (by omega)
   have hz:k+1<=plan.length:=by omega
   have e:=eK k;have b:=bK k;have aw:inI .i64 (K k+1):=aG (by omega) (by omega);clear eK bK hl ho b;by_cases h1:nth plan k=-1
   .rw[decide_eq_true h1] at e
    have e:K (k+1)=K k:=by rw[e];simp
    repeat' first|(with_reducible first|apply ai|apply aF|apply au|apply af|apply al|intro _)|(simp[*,h5,ax,h9,h1])
    all_goals first
     |omega
     |assumption
     |(refine nx (k+1) ?_ ?_;(· exact hz);(refine aD ?_ ?_<;>first|trivial|(simp[*,e];done)))
   .rw[decide_eq_false h1] at e;by_cases h2:p<=(nth os k).2.2.2
    .rw[decide_eq_true h2] at e
     have e:K (k+1)=K k+1:=by rw[e];simp
     repeat' first|(with_reducible first|apply ai|apply aF|apply au|apply af|apply al|refine And.intro ?_ ?_|intro _)|(simp[*,h5,ax,h9,aw,h1,h2,Tw.cg])
     all_goals first
      |omega
      |assumption
      |(refine nx (k+1) ?_ ?_;(· exact hz);(refine aD ?_ ?_<;>first|trivial|(simp[*,e];done)))
    .rw[decide_eq_false h2] at e
     have e:K (k+1)=K k:=by rw[e];simp
     repeat' first|(with_reducible first|apply ai|apply aF|apply au|apply af|apply al|refine And.intro ?_ ?_|intro _)|(simp[*,h5,ax,h9,h1,h2,Tw.cg])
     all_goals first
      |omega
      |assumption
      |(refine nx (k+1) ?_ ?_;(· exact hz);(refine aD ?_ ?_<;>first|trivial|(simp[*,e];done)))
  .have h8:k=plan.length:=by omega
   subst h8;clear kk
   repeat' first|(with_reducible first|apply ai|apply aL|apply af|apply al|intro _)|(simp[*,h5])
   all_goals first
    |omega
    |(refine aZ () ?_ ?_;(· trivial);(refine aD ?_ ?_<;>first|trivial|(simp[*];done)))
 .clear kk e0
  repeat' first|(with_reducible first|apply ai|apply az|apply af|intro _)|(simp[*])
theorem zf3(r:Tw.RND)(he:ceR r=0)(q:Int):aC Tz.prog 30 [Tw.aM r,.int .i64 q] (.int .i64 (IC r q)) true:=by
 have ok:=C7 r he;have c1:=zei r ok
 have c2:=λp (hp:p∈ez r)=>zej r.ab r.os r.wt r.zs p q ((C6 r p).2 hp).len (by have:r.os.length<=8:=ok.lo;omega)
 have h2:=zeh r ok;have eS:IC r q=sC (m6 r.os q) ((ez r).drop 0) 0:=rfl
 change aC Tz.prog 82 [.agg [.sl r.ab.length (aS r.ab),.sl r.os.length (aR r.os),.sl r.wt.length (a8 r.wt),.sl r.zs.length (aT r.zs)]] _ true at c1
 change aC Tz.prog 30 [.agg [.sl r.ab.length (aS r.ab),.sl r.os.length (aR r.os),.sl r.wt.length (a8 r.wt),.sl r.zs.length (aT r.zs)],.int .i64 q] _ true
 generalize ez r=L at *;generalize IC r q=R at *;generalize m6 r.os q=C at *;have kR:aN (sC C (L.drop 0) 0=R):=eS.symm;have kk:=keep (And.intro c2 h2);clear ok c2 eS h2 he;refine rcK Tz.func30 ?_;simp only[Tryz.results30,Tryz.ntmps30]
 repeat' first|(with_reducible first|apply ai|apply af|refine And.intro ?_ ?_|refine cw (c1) ?_|intro _)|(simp[*])|(refine ae (c1) ?_ ?_;(· (simp[*];done)))
 refine bQ (λ(p:Nat×Int)=>p.1<=L.length/\sC C (L.drop p.1) p.2=R) [1,2,5] (λ(p:Nat×Int)=>[(7,.w false false (.int .i64 (p.1:Nat))),(6,.w false false (.int .i64 p.2))]) [0] (λ(p:Nat×Int)=>[]) (λ(p:Nat×Int)=>L.length-p.1) (λ(_u:Unit)=>True) [] (λ(_u:Unit)=>[(6,.w false false (.int .i64 R))]) [0] (λ(_u:Unit)=>[]) ((0,0)) ⟨aK _,kR⟩ (by simp) (by simp) (λp hk=>?_) (λ_u hf=>?_)
 .obtain⟨i,a⟩:=p;obtain⟨hi,hj⟩:=hk;dsimp only at hi hj ⊢;clear kR c1;by_cases h5:i<L.length
  .obtain⟨c2,h2⟩:=kk;have a9:inI .i64 ((i:Int)+1):=aG (by omega) (by omega)
   have hz:i+1<=L.length:=by omega
   have d1:=c2 (nth L i) (eJ h5);rw[dg L i h5] at hj;have hj:sC C (L.drop (i+1)) (if a<C (nth L i) then C (nth L i) else a)=R:=hj;generalize hN:nth L i=N at *;have kj:=keep hj;clear c2 h2 hj
   repeat' first|(with_reducible first|apply ai|apply iV|apply au|apply af|refine aQ (id:=6) 9 mixed (by decide +kernel) ?_|apply al|refine And.intro ?_ ?_|refine cw (d1) ?_|intro _)|(simp[*,h5,hN,a9])|(refine ae (d1) ?_ ?_;(· (simp[*];done)))
   all_goals first
    |omega
    |assumption
    |(refine nx (i+1,if a<C N then C N else a) ?_ ?_;(· exact⟨hz,kj⟩);(refine aD ?_ ?_<;>first|trivial|(simp[*];done)))
  .have h8:i=L.length:=by omega
   subst h8;rw[fg] at hj;have hj:a=R:=hj;subst hj;clear kk
   repeat' first|(with_reducible first|apply ai|apply aL|apply af|apply al|intro _)|(simp[*,h5])
   all_goals first
    |omega
    |(refine aZ () ?_ ?_;(· trivial);(refine aD ?_ ?_<;>first|trivial|(simp[*];done)))
 .clear kk kR c1
  repeat' first|(with_reducible first|apply ai|apply az|apply af|intro _)|(simp[*])
noncomputable instance zh2:av:=LD
end Go.Proofs.YthpkmilhiganjaaGreat
namespace Go.Proofs.YthpkmilhiganjaaGreat
open Go Go.Fi
variable[av]
def LC(ab:List Car)(os:List Ord)(po pc:List Int):Int:=
 if ¬(po.length=os.length/\pc.length=ab.length) then 10 else if po.any sW=true then 2 else if pc.any n5=true then 2 else 0
theorem zf4(ab:List Car)(os:List Ord)(wt:List (List Int))(zs:List Par)(po pc:List Int)(h1:po.length<100000)(h2:pc.length<100000):aC Tz.prog 21 [.agg [.sl ab.length (aS ab),.sl os.length (aR os),.sl wt.length (a8 wt),.sl zs.length (aT zs)],.agg [.sl po.length (ints po),.sl pc.length (ints pc)]] (.int .i64 (LC ab os po pc)) true:=by
 generalize hR:LC ab os po pc=R;unfold LC at hR;by_cases a1:po.length=os.length
 rotate_left
 .rw[aB (λh=>a1 h.1)] at hR;subst hR
  have hx:¬(po.length:Int)=os.length:=by omega
  clear a1;refine rcK Tz.func21 ?_;simp only[Tryz.results21,Tryz.ntmps21]
  repeat' first|(with_reducible first|apply ai|apply az|apply af|apply al|intro _)|(simp[*,hx])
  all_goals first|omega
 by_cases a2:pc.length=ab.length
 rotate_left
 .rw[aB (λh=>a2 h.2)] at hR;subst hR
  have a6:¬(pc.length:Int)=ab.length:=by omega
  have hx:(po.length:Int)=os.length:=by omega
  clear a1 a2;refine rcK Tz.func21 ?_;simp only[Tryz.results21,Tryz.ntmps21]
  repeat' first|(with_reducible first|apply ai|apply az|apply af|apply al|intro _)|(simp[*,hx,a6])
  all_goals first|omega
 rw[ar (λh=>h ⟨a1,a2⟩)] at hR
 have hx:(po.length:Int)=os.length:=by omega
 have a6:(pc.length:Int)=ab.length:=by omega
 generalize hA:po.any sW=A at hR;generalize hB:pc.any n5=B at hR;have kA:aN ((po.drop 0).any sW=A):=hA;have kB:aN ((pc.drop 0).any n5=B):=hB;have kR:=keep hR;clear hA hB hR a1 a2;refine rcK Tz.func21 ?_;simp only[Tryz.results21,Tryz.ntmps21]
 repeat' first|(with_reducible first|apply ai|apply au|apply af|apply al|intro _)|(simp[*,hx,a6])
 all_goals try first|omega|assumption
 clear hx a6;refine bQ (λ(k:Nat)=>k<=po.length/\(po.drop k).any sW=A) [3] (λ(k:Nat)=>[(5,.w false false (.int .i64 k))]) [1] (λ(k:Nat)=>[]) (λ(k:Nat)=>po.length-k) (λ(_u:Unit)=>A=false) [3] (λ(_u:Unit)=>[]) [1] (λ(_u:Unit)=>[]) (0) ⟨aK _,kA⟩ (by simp) (by simp) (λk hk=>?_) (λ_u hf=>?_)
 .obtain⟨hk,hj⟩:=hk;clear kA kB;by_cases h5:k<po.length
  .rw[dg po k h5,mX] at hj;have c1:=ma (nth po k) (-100000000000000) 100000000000000;unfold sW at hj
   cases hb:aU (nth po k) (-100000000000000) 100000000000000 with
   |true=>
    rw[hb] at hj c1;have kj:aN ((po.drop (k+1)).any sW=A):=keep hj;clear hj hb
    repeat' first|(with_reducible first|apply ai|apply aF|apply au|apply af|apply al|refine And.intro ?_ ?_|refine cw (c1) ?_|intro _)|(simp[*,h5])|(refine ae (c1) ?_ ?_;(· (simp[*];done)))
    all_goals first
     |omega
     |exact aG (by omega) (by omega)
     |(refine nx (k+1) ?_ ?_;(· exact⟨by omega,kj⟩);(refine aD ?_ ?_<;>first|trivial|(simp[*];done)))
   |false=>
    rw[hb] at hj c1
    have hA:A=true:=by rw[<-hj];rfl
    subst hA;have hR:(2:Int)=R:=kR;subst hR;clear hj hb kR
    repeat' first|(with_reducible first|apply ai|apply aF|apply au|apply az|apply af|apply al|refine And.intro ?_ ?_|refine cw (c1) ?_|intro _)|(simp[*,h5])|(refine ae (c1) ?_ ?_;(· (simp[*];done)))
    all_goals first|omega|exact aG (by omega) (by omega)
  .have h8:k=po.length:=by omega
   subst h8;have kj:aN (A=false):=keep (by rw[<-hj];simp);clear hj
   repeat' first|(with_reducible first|apply ai|apply aL|apply af|apply al|intro _)|(simp[*])
   all_goals first
    |omega
    |(refine aZ () ?_ ?_;(· exact kj);(refine aD ?_ ?_<;>first|trivial|(simp[*];done)))
 subst hf;clear kA;have kR:aN ((if B=true then (2:Int) else 0)=R):=kR
 repeat' first|(with_reducible first|apply ai|apply af|intro _)|(simp[*])
 refine bQ (λ(k:Nat)=>k<=pc.length/\(pc.drop k).any n5=B) [3] (λ(k:Nat)=>[(6,.w false false (.int .i64 k))]) [1] (λ(k:Nat)=>[]) (λ(k:Nat)=>pc.length-k) (λ(_u:Unit)=>B=false) [] (λ(_u:Unit)=>[]) [1] (λ(_u:Unit)=>[]) (0) ⟨aK _,kB⟩ (by simp) (by simp) (λk hk=>?_) (λ_u hf=>?_)
 .obtain⟨hk,hj⟩:=hk;clear kB;by_cases h5:k<pc.length
  .rw[dg pc k h5,mX] at hj;have c1:=ma (nth pc k) 0 100000000000000;unfold n5 at hj
   cases hb:aU (nth pc k) 0 100000000000000 with
   |true=>
    rw[hb] at hj c1;have kj:aN ((pc.drop (k+1)).any n5=B):=keep hj;clear hj hb
    repeat' first|(with_reducible first|apply ai|apply aF|apply au|apply af|apply al|refine And.intro ?_ ?_|refine cw (c1) ?_|intro _)|(simp[*,h5])|(refine ae (c1) ?_ ?_;(· (simp[*];done)))
    all_goals first
     |omega
     |exact aG (by omega) (by omega)
     |(refine nx (k+1) ?_ ?_;(· exact⟨by omega,kj⟩);(refine aD ?_ ?_<;>first|trivial|(simp[*];done)))
   |false=>
    rw[hb] at hj c1
    have hB:B=true:=by rw[<-hj];rfl
    subst hB;have hR:(2:Int)=R:=kR;subst hR;clear hj hb kR
    repeat' first|(with_reducible first|apply ai|apply aF|apply au|apply az|apply af|apply al|refine And.intro ?_ ?_|refine cw (c1) ?_|intro _)|(simp[*,h5])|(refine ae (c1) ?_ ?_;(· (simp[*];done)))
    all_goals first|omega|exact aG (by omega) (by omega)
  .have h8:k=pc.length:=by omega
   subst h8;have kj:aN (B=false):=keep (by rw[<-hj];simp);clear hj
   repeat' first|(with_reducible first|apply ai|apply aL|apply af|apply al|intro _)|(simp[*])
   all_goals first
    |omega
    |(refine aZ () ?_ ?_;(· exact kj);(refine aD ?_ ?_<;>first|trivial|(simp[*];done)))
 .subst hf;have hR:(0:Int)=R:=kR;subst hR;clear kR kB
  repeat' first|(with_reducible first|apply ai|apply az|apply af|intro _)|(simp[*])
theorem zeo(row:List Bool)(w p:List Int)(m0 v:Int):∀n,decide (mK row w p m0 n<v)=(decide (m0<v) || (List.range n).any λk=>nth row k&&decide (nth w k+nth p k<v))
 |0=>by
  rw[List.range_zero,List.any_nil,ij];rfl
 |n+1=>by
  have ih:=zeo row w p m0 v n;rw[jN,List.any_append];rw[<-Bool.or_assoc,<-ih,show mK row w p m0 (n+1)=if nth row n then (if nth w n+nth p n<mK row w p m0 n then nth w n+nth p n else mK row w p m0 n) else mK row w p m0 n from rfl];clear ih;generalize mK row w p m0 n=M;simp only[mX,List.any_nil,ij]
  cases hr:nth row n with
  |false=>simp
  |true=>
   simp only[aX,eo];split
   .rename_i h5;rw[iS];simp only[mW,decide_eq_true_eq];omega
   .rename_i h5;rw[iS];simp only[mW,decide_eq_true_eq];omega
def tE(w p:List Int)(v:Int)(l:List Int):Bool:=l.any λc=>decide (nth w c.toNat+nth p c.toNat<v)
theorem zf5(r:Tw.RND)(ok:b9 (aj r))(i:Nat)(hi:i<r.os.length)(p:List Int)(v:Int):decide (ft (aj r) i p<v)=(decide (bw (nth r.os i).2.2.2.toNat<v) || tE (nth r.wt i) p v (cm r.ab r.os r.zs i r.ab.length)):=by
 unfold ft;rw[zeo,ok.fr i hi];congr 1;unfold tE cm;rw[List.any_map,List.any_filter];have:(aj r).ab.length=r.ab.length:=rfl;rw[this];rw[iS];simp only[kE,gl,bU,Function.comp];constructor
 .rintro⟨k,hk,h1,h2⟩
  exact⟨k,hk,by rw[<-FL r i k hi hk];exact h1,by have h3:decide (nth (nth r.wt i) k+nth p k<v)=true:=h2;simpa using h3⟩
 .rintro⟨k,hk,h1,h2⟩
  exact⟨k,hk,by rw[FL r i k hi hk];exact h1,by show decide (nth (nth r.wt i) k+nth p k<v)=true;simpa using h2⟩
def tS(r:Tw.RND)(pc:List Int):List Int->Nat->Bool
 |[],_=>false
 |v::l,k=>(decide (bw (nth r.os k).2.2.2.toNat<v) || tE (nth r.wt k) pc v (cm r.ab r.os r.zs k r.ab.length)) || tS r pc l (k+1)
theorem zek(r:Tw.RND)(ok:b9 (aj r))(pc:List Int):∀(l:List Int)(k:Nat),k+l.length<=r.os.length->Bd (aj r) pc l k=tS r pc l k
 |[],_,_=>rfl
 |v::l,k,h=>by
  unfold Bd tS;rw[zf5 r ok k (by simp at h;omega),zek r ok pc l (k+1) (by simp at h;omega)]
noncomputable def D7(r:Tw.RND)(po pc:List Int):Int×Bool:=if tS r pc po 0 then (0,false) else (bW po po.length-bW pc pc.length,true)
theorem zf6(r:Tw.RND)(ok:b9 (aj r))(po pc:List Int)(a5:po.length=r.os.length)(ha:pc.length=r.ab.length)(bo:∀j,j<po.length->-100000000000000<=nth po j/\nth po j<=100000000000000)(bc:∀j,j<pc.length->-100000000000000<=nth pc j/\nth pc j<=100000000000000):aC Tz.prog 22 [Tw.aM r,.agg [.sl po.length (ints po),.sl pc.length (ints pc)]] (.tup [.int .i64 (D7 r po pc).1,.bool (D7 r po pc).2]) true:=by
 have lo:r.os.length<=8:=ok.lo;have lc:r.ab.length<=8:=ok.lc;have lw:r.wt.length=r.os.length:=ok.lw
 have hz:r.zs.length<100000:=by have:r.zs.length<=64:=ok.lz;omega
 have wr:∀i,i<r.os.length->(nth r.wt i).length=r.ab.length:=ok.wr;have wn:∀i,i<r.os.length->∀k,k<r.ab.length->0<=nth (nth r.wt i) k/\nth (nth r.wt i) k<=100000:=ok.wn;have pr:∀i,i<r.os.length->0<=(nth r.os i).2.2.2/\(nth r.os i).2.2.2<=6:=ok.pr
 have sc:=λ(k:Nat)(hk:k<=pc.length)=>zca pc 100000000000000 (by decide) k (λj hj=>bc j (by omega))
 have so:=λ(k:Nat)(hk:k<=po.length)=>zca po 100000000000000 (by decide) k (λj hj=>bo j (by omega))
 have cF:=λk hk=>zd2 r.ab r.os r.wt r.zs k hk (by omega) hz
 have mF:∀k n,n<(cm r.ab r.os r.zs k r.ab.length).length->∃c:Nat,nth (cm r.ab r.os r.zs k r.ab.length) n=c/\c<r.ab.length:=λk n hn=>by
  have hm:nth (cm r.ab r.os r.zs k r.ab.length) n∈cm r.ab r.os r.zs k r.ab.length:=eJ hn;unfold cm at hm;obtain⟨c,hc,e⟩:=dW.1 hm;exact⟨c,e.symm,gl.1 (jm.1 hc).1⟩
 change aC Tz.prog 22 [.agg [.sl r.ab.length (aS r.ab),.sl r.os.length (aR r.os),.sl r.wt.length (a8 r.wt),.sl r.zs.length (aT r.zs)],.agg [.sl po.length (ints po),.sl pc.length (ints pc)]] _ true
 generalize hR:D7 r po pc=R;obtain⟨R1,R2⟩:=R;unfold D7 at hR
 have eF:∀v l k,tS r pc (v::l) k=((decide (bw (nth r.os k).2.2.2.toNat<v) || tE (nth r.wt k) pc v (cm r.ab r.os r.zs k r.ab.length)) || tS r pc l (k+1)):=λ_ _ _=>rfl
 have eN:∀k,tS r pc [] k=false:=λ_=>rfl
 generalize hB:tS r pc po 0=B at hR;have kB:aN (tS r pc (po.drop 0) 0=B):=hB;clear hB ok;generalize tS r pc=BF at *;have kk:=keep (And.intro lo (And.intro lc (And.intro lw (And.intro wr (And.intro wn (And.intro pr (And.intro so (And.intro cF (And.intro mF (And.intro eF (And.intro bo (And.intro bc (And.intro a5 (And.intro ha eN))))))))))))));have kR:=keep hR;have ks:=keep sc
 have l1:pc.length<=8:=by omega
 clear lo lc lw hz wr wn pr sc so cF mF eF eN hR bo bc a5 ha;refine rcK Tz.func22 ?_;simp only[Tryz.results22,Tryz.ntmps22]
 repeat' first|(with_reducible first|apply ai|apply af|intro _)|(simp[*])
 refine bQ (λ(k:Nat)=>k<=pc.length) [2,3] (λ(k:Nat)=>[(7,.w false false (.int .i64 k)),(6,.w false false (.int .i64 (-(bW pc k))))]) [0,1] (λ(k:Nat)=>[]) (λ(k:Nat)=>pc.length-k) (λ(_u:Unit)=>True) [2,3] (λ(_u:Unit)=>[(6,.w false false (.int .i64 (-(bW pc pc.length))))]) [0,1] (λ(_u:Unit)=>[]) (0) (aK _) (by simp) (by simp) (λk hk=>?_) (λ_u hf=>?_)
 .by_cases h5:k<pc.length
  .have s1:=ks k hk;have s2:=ks (k+1) (by omega)
   have hE:-(bW pc k)-nth pc k=-(bW pc (k+1)):=by
    rw[show bW pc (k+1)=bW pc k+nth pc k from rfl];omega
   have hi:inI .i64 (-(bW pc (k+1))):=aG (by omega) (by omega);clear s1 s2
   repeat' first|(with_reducible first|apply ai|apply iV|apply au|apply af|apply al|refine And.intro ?_ ?_|intro _)|(simp[*,h5,hE,hi])
   all_goals first
    |omega
    |exact aG (by omega) (by omega)
    |(refine nx (k+1) ?_ ?_;(· omega);(refine aD ?_ ?_<;>first|trivial|(simp[*];done)))
  .have h8:k=pc.length:=by omega
   subst h8
   repeat' first|(with_reducible first|apply ai|apply aL|apply af|apply al|intro _)|(simp[*])
   all_goals first
    |omega
    |(refine aZ () ?_ ?_;(· trivial);(refine aD ?_ ?_<;>first|trivial|(simp[*];done)))
 have s0:=keep (ks pc.length (aE _));clear ks;generalize hS:bW pc pc.length=S at *
 repeat' first|(with_reducible first|apply ai|apply af|intro _)|(simp[*])
 have z0:-S+bW po 0=-S:=by simp
 refine bQ (λ(k:Nat)=>k<=po.length/\BF (po.drop k) k=B) [2,3] (λ(k:Nat)=>[(8,.w false false (.int .i64 k)),(6,.w false false (.int .i64 (-S+bW po k)))]) [0,1] (λ(k:Nat)=>[]) (λ(k:Nat)=>po.length-k) (λ(_u:Unit)=>B=false) [] (λ(_u:Unit)=>[(6,.w false false (.int .i64 (-S+bW po po.length)))]) [0,1] (λ(_u:Unit)=>[]) (0) ⟨aK _,kB⟩ (by simp[z0]) (by simp[z0]) (λk hk=>?_) (λ_u hf=>?_)
 .obtain⟨hk,hj⟩:=hk;clear kB z0 hS;by_cases h5:k<po.length
  .obtain⟨lo,lc,lw,wr,wn,pr,so,cF,mF,eF,bo,bc,a5,ha,eN⟩:=kk
   have hy:k<r.os.length:=by omega
   have b5:k<r.wt.length:=by omega
   have b0:=bo k h5;have b1:=so k hk;have b2:=so (k+1) (by omega);have b3:-(100000000000000*(pc.length:Int))<=S/\S<=100000000000000*pc.length:=s0
   have hE:-S+bW po k+nth po k=-S+bW po (k+1):=by
    rw[show bW po (k+1)=bW po k+nth po k from rfl];omega
   have hi:inI .i64 (-S+bW po (k+1)):=aG (by omega) (by omega);have pr:=pr k hy;obtain⟨q,hq⟩:∃q:Nat,(nth r.os k).2.2.2=(q:Int):=⟨(nth r.os k).2.2.2.toNat,by omega⟩;have c1:=GM q (by omega);have c2:=cF k hy;rw[dg po k h5,eF,hq,bT] at hj;have mF:=mF k;have wn:=wn k hy;have wr:=wr k hy;clear eF cF so b1 b2 b3 bo eN;have hL:=MC r.ab r.os r.zs k r.ab.length;generalize cm r.ab r.os r.zs k r.ab.length=L at *;have h9:inI .i64 ((k:Int)+1):=aG (by omega) (by omega)
   have hz:k+1<=po.length:=by omega
   have hLl:L.length<100000:=by omega
   have kp:=keep (And.intro b0 (And.intro bc (And.intro mF (And.intro wn (And.intro wr (And.intro ha lc))))));by_cases hv:bw q<nth po k
   .rw[decide_eq_true hv,fV,fV] at hj;subst hj;have h:((0:Int),false)=(R1,R2):=kR;obtain⟨q1,q2⟩:=br h;subst q1 q2;clear kR h kp b0 bc mF wn wr pr a5 ha lc lo lw hz h9 hL hLl
    repeat' first|(with_reducible first|apply ai|apply aF|apply au|apply az|apply af|refine aQ (id:=10) 13 mixed (by decide +kernel) ?_|apply al|refine And.intro ?_ ?_|refine cw (c1) ?_|intro _)|(simp[*,h5,hy,hE,hi,hq,hv,Tw.cg])|(refine ae (c1) ?_ ?_;(· (simp[*];done)))
    all_goals first|omega|exact aG (by omega) (by omega)
   .rw[decide_eq_false hv,ik] at hj;generalize hH:tE (nth r.wt k) pc (nth po k) L=H at hj;have kH:aN (tE (nth r.wt k) pc (nth po k) (L.drop 0)=H):=hH;have kj:=keep hj;clear hH hj b0 bc mF wn wr pr a5 ha lc lo lw hL
    repeat' first|(with_reducible first|apply ai|apply aF|apply au|apply af|refine aQ (id:=10) 13 mixed (by decide +kernel) ?_|apply al|refine And.intro ?_ ?_|refine cw (c1) ?_|refine cw (c2) ?_|intro _)|(simp[*,h5,hy,hE,hi,hq,hv,Tw.cg])|(refine ae (c1) ?_ ?_;(· (simp[*];done)))|(refine ae (c2) ?_ ?_;(· (simp[*];done)))
    all_goals try first|omega|assumption
    refine bQ (λ(n:Nat)=>n<=L.length/\tE (nth r.wt k) pc (nth po k) (L.drop n)=H) [2,3,6,8,9] (λ(n:Nat)=>[(10,.w false false (.int .i64 n))]) [0,1] (λ(n:Nat)=>[]) (λ(n:Nat)=>L.length-n) (λ(_u:Unit)=>H=false) [2,3,6,8] (λ(_u:Unit)=>[]) [0,1] (λ(_u:Unit)=>[]) (0) ⟨aK _,kH⟩ (by simp) (by simp) (λn hk=>?_) (λ_u hf=>?_)
    .obtain⟨hn,h'⟩:=hk;clear kH;by_cases ag:n<L.length
     .obtain⟨b0,bc,mF,wn,wr,ha,lc⟩:=kp;obtain⟨c,hc,b7⟩:=mF n ag
      have ay:c<(nth r.wt k).length:=by omega
      have aq:c<pc.length:=by omega
      have w1:=wn c b7;have w2:=bc c aq;have i5:inI .i64 (nth (nth r.wt k) c+nth pc c):=aG (by omega) (by omega);have i6:inI .i64 ((n:Int)+1):=aG (by omega) (by omega)
      have b':n+1<=L.length:=by omega
      unfold tE at h';rw[dg L n ag,mX,hc,bT] at h';clear b0 bc mF wn wr ha lc w1 w2 hi hE;by_cases hh:nth (nth r.wt k) c+nth pc c<nth po k
      .have hH:H=true:=by rw[<-h'];simp[hh]
       subst hH
       have hB:B=true:=by have h:=kj;unfold aN at h;rw[<-h];rfl
       subst hB;have h:((0:Int),false)=(R1,R2):=kR;obtain⟨q1,q2⟩:=br h;subst q1 q2;clear kR h kj h'
       repeat' first|(with_reducible first|apply ai|apply aF|apply au|apply az|apply af|refine aQ (id:=16) 26 mixed (by decide +kernel) ?_|apply al|intro _)|(simp[*,h5,b5,ag,hc,ay,aq,i5,hh])
       all_goals first|omega|assumption
      .have kj2:aN (tE (nth r.wt k) pc (nth po k) (L.drop (n+1))=H):=by
        show tE _ _ _ _=H;rw[<-h',decide_eq_false hh];rfl
       clear h' kj
       repeat' first|(with_reducible first|apply ai|apply aF|apply au|apply af|refine aQ (id:=16) 26 mixed (by decide +kernel) ?_|apply al|intro _)|(simp[*,h5,b5,ag,hc,ay,aq,i5,i6,hh])
       all_goals first
        |omega
        |assumption
        |(refine nx (n+1) ?_ ?_;(· exact⟨b',kj2⟩);(refine aD ?_ ?_<;>first|trivial|(simp[*];done)))
     .have h8:n=L.length:=by omega
      subst h8;have kj2:aN (H=false):=keep (by rw[<-h',fg];rfl);clear h' kj
      repeat' first|(with_reducible first|apply ai|apply aL|apply af|apply al|intro _)|(simp[*,h5])
      all_goals first
       |omega
       |assumption
       |(refine aZ () ?_ ?_;(· exact kj2);(refine aD ?_ ?_<;>first|trivial|(simp[*];done)))
    .subst hf
     have kj2:aN (BF (po.drop (k+1)) (k+1)=B):=by have h:=kj;unfold aN at h ⊢;rw[<-h];rfl
     clear kj kH
     repeat' first|(with_reducible first|apply af|intro _)|(simp[*,h5,h9])
     all_goals first
      |omega
      |assumption
      |(refine nx (k+1) ?_ ?_;(· exact⟨hz,kj2⟩);(refine aD ?_ ?_<;>first|trivial|(simp[*];done)))
  .have h8:k=po.length:=by omega
   subst h8;have kj:aN (B=false):=keep (by rw[<-hj,fg];exact kk.2.2.2.2.2.2.2.2.2.2.2.2.2.2 po.length);clear hj kk
   repeat' first|(with_reducible first|apply ai|apply aL|apply af|apply al|intro _)|(simp[*])
   all_goals first
    |omega
    |(refine aZ () ?_ ?_;(· exact kj);(refine aD ?_ ?_<;>first|trivial|(simp[*];done)))
 .subst hf;have h:((bW po po.length-S,true):Int×Bool)=(R1,R2):=kR;obtain⟨q1,q2⟩:=br h;subst q1 q2;clear kB kR kk h
  have hE:-S+bW po po.length=bW po po.length-S:=by omega
  repeat' first|(with_reducible first|apply ai|apply az|apply af|intro _)|(simp[*,hE])
end Go.Proofs.YthpkmilhiganjaaGreat
