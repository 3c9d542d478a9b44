/- Lemmas. -/
import Derived.Test.YthpkmilhiganjaaGreatPEa
set_option linter.all false
set_option maxHeartbeats 32000000
set_option maxRecDepth 100000
namespace Go.Proofs.YthpkmilhiganjaaGreat
open Go Go.Fi
variable[ak]
theorem zcc(l:List Par):AV.frs.jb (cA (aZ l))=true:=by
 unfold cA aZ
 induction l with
 |nil=>rfl
 |cons p l ih=>simpa[AV.frs.jb,AV.frs,flat,Tw.cg] using ih
theorem cA_sh(n:Nat)(l:List PV):AV.sh.shL n (cA l)=cA l:=by
 rw[gd];simp[cA,AV.sh]
theorem zdx(x:Rd)(ok:cE x)(os cs:List Int)(ho:os.length<100000)(hc:cs.length<100000):jz Tz.prog 87 [x.pv,.sl os.length (ints os),.sl cs.length (ints cs)] [cA (aZ (ku x os cs x.zs.length))] (.agg [.w true false (.sl (hH x cs x.ab.length).length (bf (hH x cs x.ab.length))),.w true false (.sl (fb x os x.os.length).length (ba (fb x os x.os.length))),.w true false (.sl (kB x os cs x.os.length).length (bP (kB x os cs x.os.length))),.msl 0 ((ku x os cs x.zs.length).length*2) 2 0 (ku x os cs x.zs.length).length]):=by
 have kc:∀k:Nat,aB Tz.prog 123 [.sl cs.length (ints cs),.int .i64 k] (.bool (!(cX cs k))) true:=λk=>by
  have:=pD cs hc k;unfold cX;rw[Bool.not_not];exact this
 have ko:∀k:Nat,aB Tz.prog 123 [.sl os.length (ints os),.int .i64 k] (.bool (!(cX os k))) true:=λk=>by
  have:=pD os ho k;unfold cX;rw[Bool.not_not];exact this
 have lc:=ok.lc;have lo:=ok.lo;have lw:=ok.lw;have lz:=ok.lz;have wr:=ok.wr
 have ic:∀k,cH cs k=(hH x cs k).length:=λk=>by simp[hH,cH]
 have io:∀k,cH os k=(fb x os k).length:=λk=>by simp[fb,cH]
 have sC:∀k,hH x cs (k+1)=if cX cs k then hH x cs k++[nth x.ab k] else hH x cs k:=λk=>by
  unfold hH;rw[Ak];cases cX cs k<;>simp
 have sO:∀k,fb x os (k+1)=if cX os k then fb x os k++[nth x.os k] else fb x os k:=λk=>by
  unfold fb;rw[Ak];cases cX os k<;>simp
 have sR:∀i k,kz x cs i (k+1)=if cX cs k then kz x cs i k++[nth (nth x.wt i) k] else kz x cs i k:=λi k=>by
  unfold kz;rw[Ak];cases cX cs k<;>simp
 have sW:∀k,kB x os cs (k+1)=if cX os k then kB x os cs k++[kz x cs k x.ab.length] else kB x os cs k:=λk=>by
  unfold kB;rw[Ak];cases cX os k<;>simp
 have sZ:∀k,k<x.zs.length->ku x os cs (k+1)=ku x os cs k++mH os cs x.os.length x.ab.length (nth x.zs k):=λk hk=>by
  unfold ku;rw[IA hk,Cu]
  have:x.zs[k]=nth x.zs k:=by simp[nth,da,hk]
  rw[this];simp
 have lwL:∀k,(kB x os cs k).length=(fb x os k).length:=λk=>by simp[kB,fb]
 have lkc:∀k,k<x.ab.length->cC (eQ cs x.ab.length) k=if cX cs k then some (cH cs k:Int) else none:=λk hk=>by
  rw[D4];rw[fM]
  cases cX cs k with
  |true=>rw[az ⟨by omega,by omega,rfl⟩];rfl
  |false=>rw[ai (by rintro⟨_,_,h⟩;cases h)];rfl
 have mC:=PE cs;have mO:=PE os;have z1:eQ cs 0=[]:=rfl;have z2:eQ os 0=[]:=rfl;have z3:hH x cs 0=[]:=rfl;have z4:fb x os 0=[]:=rfl;have z5:kB x os cs 0=[]:=rfl;have z6:ku x os cs 0=[]:=rfl
 have z7:∀i,kz x cs i 0=[]:=λi=>rfl
 have bC:∀k,(hH x cs k).length<=k:=λk=>by rw[<-ic];exact PC cs k
 have bO:∀k,(fb x os k).length<=k:=λk=>by rw[<-io];exact PC os k
 have bR:∀i k,(kz x cs i k).length<=k:=λi k=>by simp[kz];exact PC cs k
 have bZ:∀k,(ku x os cs k).length<=k:=λk=>by
  unfold ku
  have key:∀l:List Par,(l.flatMap (mH os cs x.os.length x.ab.length)).length<=l.length:=λl=>by
   induction l with
   |nil=>simp
   |cons p l ih=>
    rw[mG,r5,gu]
    have:(mH os cs x.os.length x.ab.length p).length<=1:=by
     unfold mH;split<;>simp
    omega
  exact b7 (key _) (by simp;omega)
 have eP:∀p,mH os cs x.os.length x.ab.length p=match cC (eQ os x.os.length) p.1,cC (eQ cs x.ab.length) p.2 with
  |some a,some b=>[(a,b)]
  |_,_=>[]:=λ_=>rfl
 rw[<-zdt];generalize hH x cs=LC at *;generalize fb x os=LO at *;generalize kz x cs=LR at *;generalize kB x os cs=LW at *;generalize ku x os cs=LZ at *;generalize mH os cs x.os.length x.ab.length=LP at *;generalize eQ cs=MC at *;generalize eQ os=MO at *;generalize cH cs=IC at *;generalize cH os=IO at *;have q1:=keep (And.intro kc (And.intro ic (And.intro sC (And.intro mC bC))));have q2:=keep (And.intro ko (And.intro io (And.intro sO (And.intro mO bO))));have q3:=keep (And.intro sR (And.intro sW (And.intro bR (And.intro lkc (And.intro wr (And.intro lw lwL))))));have q4:=keep (And.intro sZ (And.intro eP bZ));have q5:=keep (And.intro lc (And.intro lo lz));have k1:=keep z1;have k2:=keep z2;have k3:=keep z3;have k4:=keep z4;have k5:=keep z5;have k6:=keep z6;have k7:=keep z7;clear kc ic sC mC ko io sO mO sR sW lkc wr lw lwL sZ eP lc lo lz z1 z2 z3 z4 z5 z6 z7 ok bC bO bR bZ;unfold Rd.pv;have mt:=ze4;have hE:=zcc (LZ x.zs.length);refine sY 7 [4,5,6] Tz.func87 (by kernel_rfl) rfl (ga (by kernel_rfl)) (by simp) (by simpa using hE) ?_;simp only[Tryz.results87,Tryz.ntmps87];clear hE
 repeat' first|(with_reducible first|apply aj|apply aI|apply dq|apply cT|apply aE|apply av|apply aK|apply af|apply au|refine And.intro ?_ ?_|apply dG|apply dH|exact dI|exact dJ|exact dt|exact dB|exact du|exact dC|exact dw|exact dD|exact dz|exact dE|exact dA|exact dF|refine dk ?_ ?_|refine dj ?_ ?_ |  refine cD ?_ ?_|refine bY ?_ ?_|refine dm ?_ ?_|refine cK ?_ ?_|refine dp ?_ ?_|intro _)|(simp[*,zdm,mt])
 have e0:cA (bf [])=[]:=rfl;refine gj 5 (λ(k:Nat)=>k<=x.ab.length) [0,1,2,6,7,8,9,31,32] (λ(k:Nat)=>[(33,.w false false (.int .i64 k))]) [0,2] (λ(k:Nat)=>[(3,mI (MC k)),(4,cA (bf (LC k))),(1,[.msl 4 ((LC k).length*3) 3 0 (LC k).length,.w true true (.sl 0 []),.w true true (.sl 0 []),.w true true (.sl 0 [])])]) (λ(k:Nat)=>x.ab.length-k) (λ(_u:Unit)=>True) [0,1,6,7,8,9] (λ(_u:Unit)=>[]) [0,2] (λ(_u:Unit)=>[(3,mI (MC x.ab.length)),(4,cA (bf (LC x.ab.length))),(1,[.msl 4 ((LC x.ab.length).length*3) 3 0 (LC x.ab.length).length,.w true true (.sl 0 []),.w true true (.sl 0 []),.w true true (.sl 0 [])])]) (0) (aR _) (bU [] (by simp[show MC 0=[] from k1,show LC 0=[] from k3,e0]) (by simp[show MC 0=[] from k1,show LC 0=[] from k3,e0])) (λk hk=>?_) (λ_u hf=>?_)
 .clear e0;by_cases h9:k<x.ab.length
  .obtain⟨kc,ic,sC,mC,bC⟩:=q1;have h8:x.ab.length<=8:=q5.1;have c:=kc k;have e1:=ic k;have e2:=sC k;have e3:=mC k;have b:=bC k;have hq:inI .i64 ((k:Int)+1):=aN (by omega) (by omega)
   have hz:k+1<=x.ab.length:=by omega
   have a5:(LC k).length+1<=1000000000:=by omega
   have hm:=zb6 (LC k);clear kc ic sC mC bC q2 q3 q4 q5 k1 k2 k3 k4 k5 k6 k7 h8
   cases hf:cX cs k with
   |true=>
    rw[hf] at c e2 e3;simp only[fZ,aJ] at c e2 e3;rw[e1] at e3;have e4:=zdq (LC k) (nth x.ab k);rw[<-e2] at e4
    have e5:(LC (k+1)).length=(LC k).length+1:=by rw[e2];simp
    clear e1 e2 hf
    repeat' first|(with_reducible first|apply aj|apply aI|apply dq|apply cT|apply aE|apply av|apply aK|apply af|apply au|refine And.intro ?_ ?_|apply dG|apply dH|exact dI|exact dJ|exact dt|exact dB|exact du|exact dC|exact dw|exact dD|exact dz|exact dE|exact dA|exact dF|refine dk ?_ ?_|refine dj ?_ ?_ |  refine cD ?_ ?_|refine bY ?_ ?_|refine dm ?_ ?_|refine cK ?_ ?_|refine dp ?_ ?_|refine cw (c) ?_|intro _)|(simp[*,h9,hq,qc mt,mt,Tw.dM,hm])|(refine ar (c) ?_ ?_;(· (simp[*];done)))
    all_goals first
     |omega
     |assumption
     |(refine nx (k+1) ?_ ?_;(· exact hz);(refine bU [] ?_ ?_<;>first|trivial|(simp[*,e3,e4,e5,fL];done)))
   |false=>
    rw[hf] at c e2 e3;simp only[ig,bw,aQ] at c e2 e3;clear e1 hf
    repeat' first|(with_reducible first|apply aj|apply aI|apply dq|apply cT|apply aE|apply av|apply aK|apply af|apply au|refine And.intro ?_ ?_|apply dG|apply dH|exact dI|exact dJ|exact dt|exact dB|exact du|exact dC|exact dw|exact dD|exact dz|exact dE|exact dA|exact dF|refine dk ?_ ?_|refine dj ?_ ?_ |  refine cD ?_ ?_|refine bY ?_ ?_|refine dm ?_ ?_|refine cK ?_ ?_|refine dp ?_ ?_|refine cw (c) ?_|intro _)|(simp[*,h9,hq,qc mt,mt,Tw.dM,hm])|(refine ar (c) ?_ ?_;(· (simp[*];done)))
    all_goals first
     |omega
     |assumption
     |(refine nx (k+1) ?_ ?_;(· exact hz);(refine bU [] ?_ ?_<;>first|trivial|(simp[*,e3,e2];done)))
  .have hw:k=x.ab.length:=by omega
   subst hw;clear q1 q2 q3 q4 q5 k1 k2 k3 k4 k5 k6 k7
   repeat' first|(with_reducible first|apply aj|apply aI|apply dq|apply cT|apply aE|apply av|apply aK|apply af|apply au|refine And.intro ?_ ?_|apply dG|apply dH|exact dI|exact dJ|exact dt|exact dB|exact du|exact dC|exact dw|exact dD|exact dz|exact dE|exact dA|exact dF|refine dk ?_ ?_|refine dj ?_ ?_ |  refine cD ?_ ?_|refine bY ?_ ?_|refine dm ?_ ?_|refine cK ?_ ?_|refine dp ?_ ?_|intro _)|(simp[*,h9])
   all_goals first
    |omega
    |(refine bN () ?_ ?_;(· trivial);(refine aM ?_ ?_<;>first|trivial|(simp[*];done)))
 .clear e0 k1 k3 q1
  repeat' first|(with_reducible first|apply aj|apply aI|apply dq|apply cT|apply aE|apply av|apply aK|apply af|apply au|refine And.intro ?_ ?_|apply dG|apply dH|exact dI|exact dJ|exact dt|exact dB|exact du|exact dC|exact dw|exact dD|exact dz|exact dE|exact dA|exact dF|refine dk ?_ ?_|refine dj ?_ ?_ |  refine cD ?_ ?_|refine bY ?_ ?_|refine dm ?_ ?_|refine cK ?_ ?_|refine dp ?_ ?_|intro _)|(simp[*,mt])
  have e0:cA (ba [])=[]:=rfl;have e00:cm []=[]:=rfl;refine gj 7 (λ(k:Nat)=>k<=x.os.length) [0,1,6,7,8,9,58,59] (λ(k:Nat)=>[(60,.w false false (.int .i64 k))]) [0,3,4] (λ(k:Nat)=>[(2,mI (MO k)),(5,cA (ba (LO k))),(6,cm (LW k)),(1,[.msl 4 ((LC x.ab.length).length*3) 3 0 (LC x.ab.length).length,.msl 5 ((LO k).length*4) 4 0 (LO k).length,.msl 6 (LW k).length 1 0 (LW k).length,.w true true (.sl 0 [])])]) (λ(k:Nat)=>x.os.length-k) (λ(_u:Unit)=>True) [0,6,7,8,9] (λ(_u:Unit)=>[]) [0,3,4] (λ(_u:Unit)=>[(2,mI (MO x.os.length)),(5,cA (ba (LO x.os.length))),(6,cm (LW x.os.length)),(1,[.msl 4 ((LC x.ab.length).length*3) 3 0 (LC x.ab.length).length,.msl 5 ((LO x.os.length).length*4) 4 0 (LO x.os.length).length,.msl 6 (LW x.os.length).length 1 0 (LW x.os.length).length,.w true true (.sl 0 [])])]) (0) (aR _) (bU [] (by simp[show MO 0=[] from k2,show LO 0=[] from k4,show LW 0=[] from k5,e0,e00]) (by simp[show MO 0=[] from k2,show LO 0=[] from k4,show LW 0=[] from k5,e0,e00])) (λk hk=>?_) (λ_u hf=>?_)
  .clear e0 e00;by_cases h9:k<x.os.length
   .obtain⟨kc,ic,sC,mC,bC⟩:=q2;obtain⟨sR,sW,bR,lkc,wr,lw,lwL⟩:=q3;have h8:x.os.length<=8:=q5.2.1;have bb:x.ab.length<=8:=q5.1;have c:=kc k;have e1:=ic k;have e2:=sC k;have e3:=mC k;have b:=bC k;have w2:=sW k;have hq:inI .i64 ((k:Int)+1):=aN (by omega) (by omega)
    have hz:k+1<=x.os.length:=by omega
    have a5:(LO k).length+1<=1000000000:=by omega
    have hl9w:(LW k).length+1<=1000000000:=by rw[lwL];exact a5
    have hm:=zb7 (LO k)
    have ag:k<x.wt.length:=by omega
    have hx:=wr k h9
    cases hf:cX os k with
    |true=>
     rw[hf] at c e2 e3 w2;simp only[fZ,aJ] at c e2 e3 w2;rw[e1] at e3;have e4:=zdr (LO k) (nth x.os k);rw[<-e2] at e4
     have e5:(LO (k+1)).length=(LO k).length+1:=by rw[e2];simp
     have e6:=zds (LW k) (LR k x.ab.length);rw[<-w2] at e6
     have e7:(LW (k+1)).length=(LW k).length+1:=by rw[w2];simp
     have q6:=keep (And.intro sR (And.intro bR (And.intro lkc hx)));have z7:LR k 0=[]:=k7 k;clear e1 e2 w2 hf kc ic sC mC bC sR sW bR lkc wr lw lwL hx q4 q5 k2 k4 k5 k6 k7 h8
     repeat' first|(with_reducible first|apply aj|apply aI|apply dq|apply cT|apply aE|apply av|apply aK|apply af|apply au|refine And.intro ?_ ?_|apply dG|apply dH|exact dI|exact dJ|exact dt|exact dB|exact du|exact dC|exact dw|exact dD|exact dz|exact dE|exact dA|exact dF|refine dk ?_ ?_|refine dj ?_ ?_ |  refine cD ?_ ?_|refine bY ?_ ?_|refine dm ?_ ?_|refine cK ?_ ?_|refine dp ?_ ?_|refine cw (c) ?_|intro _)|(simp[*,h9,hq,qc mt,mt,Tw.cJ,hm,ag])|(refine ar (c) ?_ ?_;(· (simp[*];done)))
     all_goals try first|omega|assumption
     have e00:iA []=[]:=rfl;refine gj 10 (λ(j:Nat)=>j<=x.ab.length) [0,1,6,7,8,9,58,59,60,86,87] (λ(j:Nat)=>[(14,.msl 9 (LR k j).length 1 0 (LR k j).length),(88,.w false false (.int .i64 j))]) [0,1,2,3,4,5,6] (λ(j:Nat)=>[(9,iA (LR k j))]) (λ(j:Nat)=>x.ab.length-j) (λ(_u:Unit)=>True) [0,1,6,7,8,9,58,59,60] (λ(_u:Unit)=>[(14,.msl 9 (LR k x.ab.length).length 1 0 (LR k x.ab.length).length)]) [0,1,2,3,4,5,6] (λ(_u:Unit)=>[(9,iA (LR k x.ab.length))]) (0) (aR _) (bU [] (by simp[z7,e00]) (by simp[z7,e00])) (λj hk=>?_) (λ_u hf=>?_)
     .clear z7 e00 e3 e4 e5 e6 e7 c;obtain⟨sR,bR,lkc,hx⟩:=q6;by_cases hy:j<x.ab.length
      .have a4:j<(nth x.wt k).length:=by omega
       have s1:=sR k j;have b1:=bR k j;have l1:=lkc j hy;have ax:inI .i64 ((j:Int)+1):=aN (by omega) (by omega)
       have b9:j+1<=x.ab.length:=by omega
       have br:(LR k j).length+1<=1000000000:=by omega
       clear sR bR lkc hx hm a5 hl9w
       cases hg:cX cs j with
       |true=>
        rw[hg] at s1 l1;simp only[aJ] at s1 l1
        have s2:iA (LR k (j+1))=iA (LR k j)++[.w false false (.int .i64 (nth (nth x.wt k) j))]:=by rw[s1,<-LS];rfl
        have s3:(LR k (j+1)).length=(LR k j).length+1:=by rw[s1];simp
        clear s1 hg
        repeat' first|(with_reducible first|apply aj|apply aI|apply dq|apply cT|apply aE|apply av|apply aK|apply af|apply au|refine And.intro ?_ ?_|apply dG|apply dH|exact dI|exact dJ|exact dt|exact dB|exact du|exact dC|exact dw|exact dD|exact dz|exact dE|exact dA|exact dF|refine dk ?_ ?_|refine dj ?_ ?_ |  refine cD ?_ ?_|refine bY ?_ ?_|refine dm ?_ ?_|refine cK ?_ ?_|refine dp ?_ ?_|intro _)|(simp[*,hy,ax,qc mt,mt,ag,a4,l1])
        all_goals first
         |omega
         |assumption
         |(refine nx (j+1) ?_ ?_;(· exact b9);(refine bU [] ?_ ?_<;>first|trivial|(simp[*,s2,s3];done)))
       |false=>
        rw[hg] at s1 l1;simp only[bw,aQ] at s1 l1;clear hg
        repeat' first|(with_reducible first|apply aj|apply aI|apply dq|apply cT|apply aE|apply av|apply aK|apply af|apply au|refine And.intro ?_ ?_|apply dG|apply dH|exact dI|exact dJ|exact dt|exact dB|exact du|exact dC|exact dw|exact dD|exact dz|exact dE|exact dA|exact dF|refine dk ?_ ?_|refine dj ?_ ?_ |  refine cD ?_ ?_|refine bY ?_ ?_|refine dm ?_ ?_|refine cK ?_ ?_|refine dp ?_ ?_|intro _)|(simp[*,hy,ax,qc mt,mt,ag,a4,l1])
        all_goals first
         |omega
         |assumption
         |(refine nx (j+1) ?_ ?_;(· exact b9);(refine bU [] ?_ ?_<;>first|trivial|(simp[*,s1];done)))
      .have hw:j=x.ab.length:=by omega
       subst hw
       have a4:¬x.ab.length<(nth x.wt k).length:=by omega
       clear sR bR lkc hx
       repeat' first|(with_reducible first|apply aj|apply aI|apply dq|apply cT|apply aE|apply av|apply aK|apply af|apply au|refine And.intro ?_ ?_|apply dG|apply dH|exact dI|exact dJ|exact dt|exact dB|exact du|exact dC|exact dw|exact dD|exact dz|exact dE|exact dA|exact dF|refine dk ?_ ?_|refine dj ?_ ?_ |  refine cD ?_ ?_|refine bY ?_ ?_|refine dm ?_ ?_|refine cK ?_ ?_|refine dp ?_ ?_|intro _)|(simp[*,hy,a4])
       all_goals first
        |omega
        |(refine bN () ?_ ?_;(· trivial);(refine bU [] ?_ ?_<;>first|trivial|(simp[*];done)))
     .clear z7 e00 q6 c
      repeat' first|(with_reducible first|apply aj|apply aI|apply dq|apply cT|apply aE|apply av|apply aK|apply af|apply au|refine And.intro ?_ ?_|apply dG|apply dH|exact dI|exact dJ|exact dt|exact dB|exact du|exact dC|exact dw|exact dD|exact dz|exact dE|exact dA|exact dF|refine dk ?_ ?_|refine dj ?_ ?_ |  refine cD ?_ ?_|refine bY ?_ ?_|refine dm ?_ ?_|refine cK ?_ ?_|refine dp ?_ ?_|intro _)|(simp[*,hq,mt])
      all_goals first
       |omega
       |assumption
       |(refine nx (k+1) ?_ ?_;(· exact hz);(refine bU [9] ?_ ?_<;>first|trivial|(simp[*,e3,e4,e5,e6,e7,fL];done)))
    |false=>
     rw[hf] at c e2 e3 w2;simp only[ig,bw,aQ] at c e2 e3 w2;clear e1 hf kc ic sC mC bC sR sW bR lkc wr lw lwL hx q4 q5 k2 k4 k5 k6 k7 h8 bb
     repeat' first|(with_reducible first|apply aj|apply aI|apply dq|apply cT|apply aE|apply av|apply aK|apply af|apply au|refine And.intro ?_ ?_|apply dG|apply dH|exact dI|exact dJ|exact dt|exact dB|exact du|exact dC|exact dw|exact dD|exact dz|exact dE|exact dA|exact dF|refine dk ?_ ?_|refine dj ?_ ?_ |  refine cD ?_ ?_|refine bY ?_ ?_|refine dm ?_ ?_|refine cK ?_ ?_|refine dp ?_ ?_|refine cw (c) ?_|intro _)|(simp[*,h9,hq,qc mt,mt,Tw.cJ,hm])|(refine ar (c) ?_ ?_;(· (simp[*];done)))
     all_goals first
      |omega
      |assumption
      |(refine nx (k+1) ?_ ?_;(· exact hz);(refine bU [] ?_ ?_<;>first|trivial|(simp[*,e3,e2,w2];done)))
   .have hw:k=x.os.length:=by omega
    subst hw;clear q2 q3 q4 q5 k2 k4 k5 k6 k7
    repeat' first|(with_reducible first|apply aj|apply aI|apply dq|apply cT|apply aE|apply av|apply aK|apply af|apply au|refine And.intro ?_ ?_|apply dG|apply dH|exact dI|exact dJ|exact dt|exact dB|exact du|exact dC|exact dw|exact dD|exact dz|exact dE|exact dA|exact dF|refine dk ?_ ?_|refine dj ?_ ?_ |  refine cD ?_ ?_|refine bY ?_ ?_|refine dm ?_ ?_|refine cK ?_ ?_|refine dp ?_ ?_|intro _)|(simp[*,h9])
    all_goals first
     |omega
     |(refine bN () ?_ ?_;(· trivial);(refine aM ?_ ?_<;>first|trivial|(simp[*];done)))
  .clear e0 e00 q2 q3 k2 k4 k5 k7
   repeat' first|(with_reducible first|apply aj|apply aI|apply dq|apply cT|apply aE|apply av|apply aK|apply af|apply au|refine And.intro ?_ ?_|apply dG|apply dH|exact dI|exact dJ|exact dt|exact dB|exact du|exact dC|exact dw|exact dD|exact dz|exact dE|exact dA|exact dF|refine dk ?_ ?_|refine dj ?_ ?_ |  refine cD ?_ ?_|refine bY ?_ ?_|refine dm ?_ ?_|refine cK ?_ ?_|refine dp ?_ ?_|intro _)|(simp[*,mt])
   have e0:cA (aZ [])=[]:=rfl;refine gj 8 (λ(k:Nat)=>k<=x.zs.length) [6,7,8,9,116,117] (λ(k:Nat)=>[(118,.w false false (.int .i64 k))]) [0,2,3,4,5,6] (λ(k:Nat)=>[(7,cA (aZ (LZ k))),(1,[.msl 4 ((LC x.ab.length).length*3) 3 0 (LC x.ab.length).length,.msl 5 ((LO x.os.length).length*4) 4 0 (LO x.os.length).length,.msl 6 (LW x.os.length).length 1 0 (LW x.os.length).length,.msl 7 ((LZ k).length*2) 2 0 (LZ k).length])]) (λ(k:Nat)=>x.zs.length-k) (λ(_u:Unit)=>True) [6,7] (λ(_u:Unit)=>[]) [0,4,5,6] (λ(_u:Unit)=>[(7,cA (aZ (LZ x.zs.length))),(1,[.msl 4 ((LC x.ab.length).length*3) 3 0 (LC x.ab.length).length,.msl 5 ((LO x.os.length).length*4) 4 0 (LO x.os.length).length,.msl 6 (LW x.os.length).length 1 0 (LW x.os.length).length,.msl 7 ((LZ x.zs.length).length*2) 2 0 (LZ x.zs.length).length])]) (0) (aR _) (bU [] (by simp[show LZ 0=[] from k6,e0]) (by simp[show LZ 0=[] from k6,e0])) (λk hk=>?_) (λ_u hf=>?_)
   .clear e0 k6;by_cases h9:k<x.zs.length
    .obtain⟨sZ,eP,bZ⟩:=q4;have bh:x.zs.length<=64:=q5.2.2;have s1:=sZ k h9;rw[eP] at s1;have b:=bZ k;have hq:inI .i64 ((k:Int)+1):=aN (by omega) (by omega)
     have hz:k+1<=x.zs.length:=by omega
     have a5:(LZ k).length+1<=1000000000:=by omega
     have hm:=CN (LZ k);clear sZ eP bZ bh q5
     cases ha:cC (MO x.os.length) (nth x.zs k).1 with
     |none=>
      rw[ha] at s1;simp only[xp] at s1
      cases hb:cC (MC x.ab.length) (nth x.zs k).2 with
      |none=>
       repeat' first|(with_reducible first|apply aj|apply aI|apply dq|apply cT|apply aE|apply av|apply aK|apply af|apply au|refine And.intro ?_ ?_|apply dG|apply dH|exact dI|exact dJ|exact dt|exact dB|exact du|exact dC|exact dw|exact dD|exact dz|exact dE|exact dA|exact dF|refine dk ?_ ?_|refine dj ?_ ?_ |  refine cD ?_ ?_|refine bY ?_ ?_|refine dm ?_ ?_|refine cK ?_ ?_|refine dp ?_ ?_|intro _)|(simp[*,h9,hq,qc mt,mt,ha,hb,hm,Tw.cg])
       all_goals first
        |omega
        |assumption
        |(refine nx (k+1) ?_ ?_;(· exact hz);(refine bU [] ?_ ?_<;>first|trivial|(simp[*,s1];done)))
      |some b'=>
       repeat' first|(with_reducible first|apply aj|apply aI|apply dq|apply cT|apply aE|apply av|apply aK|apply af|apply au|refine And.intro ?_ ?_|apply dG|apply dH|exact dI|exact dJ|exact dt|exact dB|exact du|exact dC|exact dw|exact dD|exact dz|exact dE|exact dA|exact dF|refine dk ?_ ?_|refine dj ?_ ?_ |  refine cD ?_ ?_|refine bY ?_ ?_|refine dm ?_ ?_|refine cK ?_ ?_|refine dp ?_ ?_|intro _)|(simp[*,h9,hq,qc mt,mt,ha,hb,hm,Tw.cg])
       all_goals first
        |omega
        |assumption
        |(refine nx (k+1) ?_ ?_;(· exact hz);(refine bU [] ?_ ?_<;>first|trivial|(simp[*,s1];done)))
     |some a'=>
      rw[ha] at s1
      cases hb:cC (MC x.ab.length) (nth x.zs k).2 with
      |none=>
       rw[hb] at s1;simp only[xp] at s1
       repeat' first|(with_reducible first|apply aj|apply aI|apply dq|apply cT|apply aE|apply av|apply aK|apply af|apply au|refine And.intro ?_ ?_|apply dG|apply dH|exact dI|exact dJ|exact dt|exact dB|exact du|exact dC|exact dw|exact dD|exact dz|exact dE|exact dA|exact dF|refine dk ?_ ?_|refine dj ?_ ?_ |  refine cD ?_ ?_|refine bY ?_ ?_|refine dm ?_ ?_|refine cK ?_ ?_|refine dp ?_ ?_|intro _)|(simp[*,h9,hq,qc mt,mt,ha,hb,hm,Tw.cg])
       all_goals first
        |omega
        |assumption
        |(refine nx (k+1) ?_ ?_;(· exact hz);(refine bU [] ?_ ?_<;>first|trivial|(simp[*,s1];done)))
      |some b'=>
       rw[hb] at s1;simp only[] at s1;have s2:=P3 (LZ k) (a',b');rw[<-s1] at s2
       have s3:(LZ (k+1)).length=(LZ k).length+1:=by rw[s1];simp
       clear s1
       repeat' first|(with_reducible first|apply aj|apply aI|apply dq|apply cT|apply aE|apply av|apply aK|apply af|apply au|refine And.intro ?_ ?_|apply dG|apply dH|exact dI|exact dJ|exact dt|exact dB|exact du|exact dC|exact dw|exact dD|exact dz|exact dE|exact dA|exact dF|refine dk ?_ ?_|refine dj ?_ ?_ |  refine cD ?_ ?_|refine bY ?_ ?_|refine dm ?_ ?_|refine cK ?_ ?_|refine dp ?_ ?_|intro _)|(simp[*,h9,hq,qc mt,mt,ha,hb,hm,Tw.cg])
       all_goals first
        |omega
        |assumption
        |(refine nx (k+1) ?_ ?_;(· exact hz);(refine bU [] ?_ ?_<;>first|trivial|(simp[*,s2,s3,fL];done)))
    .have hw:k=x.zs.length:=by omega
     subst hw;clear q4 q5
     repeat' first|(with_reducible first|apply aj|apply aI|apply dq|apply cT|apply aE|apply av|apply aK|apply af|apply au|refine And.intro ?_ ?_|apply dG|apply dH|exact dI|exact dJ|exact dt|exact dB|exact du|exact dC|exact dw|exact dD|exact dz|exact dE|exact dA|exact dF|refine dk ?_ ?_|refine dj ?_ ?_ |  refine cD ?_ ?_|refine bY ?_ ?_|refine dm ?_ ?_|refine cK ?_ ?_|refine dp ?_ ?_|intro _)|(simp[*,h9])
     all_goals first
      |omega
      |(refine bN () ?_ ?_;(· trivial);(refine aM ?_ ?_<;>first|trivial|(simp[*];done)))
   .clear e0 k6 q4 q5;have h1:=zb6 (LC x.ab.length);have h2:=zb7 (LO x.os.length);have h3:=CN (LZ x.zs.length)
    repeat' first|(with_reducible first|apply aj|apply aI|apply dq|apply cT|apply aE|apply av|apply aK|apply af|apply au|refine And.intro ?_ ?_|apply dG|apply dH|exact dI|exact dJ|exact dt|exact dB|exact du|exact dC|exact dw|exact dD|exact dz|exact dE|exact dA|exact dF|refine dk ?_ ?_|refine dj ?_ ?_ |  refine cD ?_ ?_|refine bY ?_ ?_|refine dm ?_ ?_|refine cK ?_ ?_|refine dp ?_ ?_|intro _)|(simp[*,h1,h2,h3,cA_sh])
    all_goals first|omega
end Go.Proofs.YthpkmilhiganjaaGreat
namespace Go.Proofs.YthpkmilhiganjaaGreat
open Go Go.Fi
abbrev FS:=List Int×List Bool
def ze7(x:Rd)(most:Int)(i k:Nat)(sn:List Bool):Bool:=!nth (nth x.fit i) k || nth sn k || decide (most<nth (nth x.wt i) k)
def zbl(rc:Nat->FS->Bool×FS)(x:Rd)(most:Int)(i:Nat):Nat->FS->Bool×FS
 |0,s=>(false,s)
 |m+1,s=>
  let k:=x.ab.length-(m+1)
  if ze7 x most i k s.2 then zbl rc x most i m s
  else if nth s.1 k<0 then (true,s.1.set k i,s.2.set k true)
  else if (rc (nth s.1 k).toNat (s.1,s.2.set k true)).1 then (true,(rc (nth s.1 k).toNat (s.1,s.2.set k true)).2.1.set k i,(rc (nth s.1 k).toNat (s.1,s.2.set k true)).2.2)
  else zbl rc x most i m (rc (nth s.1 k).toNat (s.1,s.2.set k true)).2
def zbm(x:Rd)(most:Int):Nat->Nat->FS->Bool×FS
 |0,_,s=>(false,s)
 |f+1,i,s=>zbl (zbm x most f) x most i x.ab.length s
def bF(sn:List Bool):Nat:=sn.countP λb=>!b
structure HR(x:Rd)(s:FS):Prop where
 l1:s.1.length=x.ab.length
 l2:s.2.length=x.ab.length
 rg:∀k,k<x.ab.length->nth s.1 k=-1\/(0<=nth s.1 k/\nth s.1 k<(x.os.length:Int))
theorem cL{α:Type}[Inhabited α](l:List α)(i j:Nat)(v:α)(h:i<l.length):nth (l.set i v) j=if i=j then v else nth l j:=by
 unfold nth;simp only[da,Cl];split
 .rename_i e;subst e;simp[h]
 .rfl
theorem WK:∀(l:List Bool)(k:Nat),k<l.length->nth l k=false->bF (l.set k true)+1=bF l
 |[],k,h,_=>absurd h (by simp)
 |b::r,0,_,h=>by
  have:b=false:=h;subst this;simp[bF,List.countP_cons]
 |b::r,k+1,h,hb=>by
  have:=WK r k (by simpa using h) hb;simp only[bF,List.set_cons_succ,List.countP_cons] at this ⊢;omega
structure zgc(x:Rd)(s t:FS):Prop where
 ok:HR x t
 un:bF t.2<=bF s.2
theorem HR.own{x:Rd}{s:FS}(h:HR x s){i k:Nat}(hi:i<x.os.length)(hk:k<x.ab.length):HR x (s.1.set k i,s.2):=
 ⟨by simpa using h.l1,h.l2,λj hj=>by
   show nth (s.1.set k i) j=-1\/_;rw[show nth (s.1.set k (i:Int)) j=if k=j then (i:Int) else nth s.1 j from cL _ _ _ _ (by rw[h.l1];exact hk)];split
   .exact .inr ⟨by omega,by omega⟩
   .exact h.rg j hj⟩
def Li(x:Rd)(most:Int):Nat->List Int×Int
 |0=>(List.replicate x.ab.length (-1),0)
 |i+1=>
  ((zbm x most (x.ab.length+1) i ((Li x most i).1,List.replicate x.ab.length false)).2.1,
    if (zbm x most (x.ab.length+1) i ((Li x most i).1,List.replicate x.ab.length false)).1 then (Li x most i).2+1 else (Li x most i).2)
def cM(tk:List Int)(n:Nat):Nat->List Int
 |0=>List.replicate n (-1)
 |k+1=>if 0<=nth tk k then (cM tk n k).set (nth tk k).toNat k else cM tk n k
theorem zcd(n:Nat):bF (List.replicate n false)=n:=by simp[bF,List.countP_replicate]
theorem qk(tk:List Int)(n:Nat):∀k,(cM tk n k).length=n
 |0=>by simp[cM]
 |k+1=>by
  unfold cM;split
  .rw[nP];exact qk tk n k
  .exact qk tk n k
structure ScS where
 sl:List Int
 ah:List Int
 least:Int
 next:Int
def nvS(C:Nat->Nat->Int)(u v:List Int)(i j:Nat):Int:=C i j-nth u i-nth v j
def bo(C:Nat->Nat->Int)(u v:List Int)(sn:List Bool)(i:Nat)(at_:Int)(sl ah:List Int):Nat->ScS
 |0=>⟨sl,ah,10000000000000000,-1⟩
 |k+1=>
  let s:=bo C u v sn i at_ sl ah k
  if nth sn k then s
  else
   let s1:ScS:=if nvS C u v i k<nth s.sl k then ⟨s.sl.set k (nvS C u v i k),s.ah.set k at_,s.least,s.next⟩ else s
   if nth s1.sl k<s1.least then ⟨s1.sl,s1.ah,nth s1.sl k,k⟩ else s1
def bL(sn:List Bool)(ow:List Int)(d:Int)(u v sl:List Int):Nat->List Int×List Int×List Int
 |0=>(u,v,sl)
 |k+1=>
  let s:=bL sn ow d u v sl k
  if nth sn k then (s.1.set (nth ow k).toNat (nth s.1 (nth ow k).toNat+d),s.2.1.set k (nth s.2.1 k-d),s.2.2)
  else (s.1,s.2.1,s.2.2.set k (nth s.2.2 k-d))
structure Ws where
 u:List Int
 v:List Int
 sl:List Int
 ah:List Int
 sn:List Bool
 at_:Int
 i:Nat
def bl(C:Nat->Nat->Int)(m:Nat)(w:Ws):ScS:=bo C w.u w.v w.sn w.i w.at_ w.sl w.ah m
def kH(C:Nat->Nat->Int)(m:Nat)(ow:List Int)(row:Nat)(w:Ws):List Int×List Int×List Int:=
 bL w.sn ow (bl C m w).least (w.u.set row (nth w.u row+(bl C m w).least)) w.v (bl C m w).sl m
def bM(C:Nat->Nat->Int)(m:Nat)(ow:List Int)(row:Nat)(w:Ws):Ws:=
 ⟨(kH C m ow row w).1,(kH C m ow row w).2.1,(kH C m ow row w).2.2,(bl C m w).ah,w.sn.set (bl C m w).next.toNat true,(bl C m w).next,(nth ow (bl C m w).next.toNat).toNat⟩
def m6(C:Nat->Nat->Int)(m:Nat)(ow:List Int)(row:Nat):Nat->Ws->Ws
 |0,w=>w
 |f+1,w=>if nth ow (bl C m w).next.toNat<0 then bM C m ow row w else m6 C m ow row f (bM C m ow row w)
def dX(ah:List Int)(row:Nat):Nat->Int->List Int->List Int
 |0,_,ow=>ow
 |f+1,at_,ow=>if at_<0 then ow else dX ah row f (nth ah at_.toNat) (ow.set at_.toNat (if nth ah at_.toNat<0 then (row:Int) else nth ow (nth ah at_.toNat).toNat))
structure Hs where
 u:List Int
 v:List Int
 ow:List Int
def ws0(m:Nat)(s:Hs)(row:Nat):Ws:=⟨s.u,s.v,List.replicate m 10000000000000000,List.replicate m (-1),List.replicate m false,-1,row⟩
def lp(C:Nat->Nat->Int)(m:Nat)(s:Hs)(row:Nat):Ws:=m6 C m s.ow row (m+1) (ws0 m s row)
def qi(C:Nat->Nat->Int)(m:Nat)(s:Hs)(row:Nat):Hs:=
 ⟨(lp C m s row).u,(lp C m s row).v,dX (lp C m s row).ah row (m+1) (lp C m s row).at_ s.ow⟩
def l9(C:Nat->Nat->Int)(n m:Nat):Nat->Hs
 |0=>⟨List.replicate n 0,List.replicate m 0,List.replicate m (-1)⟩
 |r+1=>qi C m (l9 C n m r) r
structure fg(C:Nat->Nat->Int)(u v:List Int)(sn:List Bool)(i:Nat)(at_:Int)(sl ah:List Int)(k:Nat)(s:ScS):Prop where
 l1:s.sl.length=sl.length
 l2:s.ah.length=ah.length
 esl:∀j,nth s.sl j=if j<k/\nth sn j=false/\nvS C u v i j<nth sl j then nvS C u v i j else nth sl j
 eah:∀j,nth s.ah j=if j<k/\nth sn j=false/\nvS C u v i j<nth sl j then at_ else nth ah j
 lo:∀j,j<k->nth sn j=false->s.least<=nth s.sl j
 nx:(s.next=-1/\s.least=10000000000000000)\/(0<=s.next/\s.next<(k:Int)/\nth sn s.next.toNat=false/\s.least=nth s.sl s.next.toNat)
theorem WS(C:Nat->Nat->Int)(u v:List Int)(sn:List Bool)(i:Nat)(at_:Int)(sl ah:List Int)(hl:ah.length=sl.length):∀k,k<=sl.length->fg C u v sn i at_ sl ah k (bo C u v sn i at_ sl ah k)
 |0,_=>⟨rfl,rfl,λj=>by rw[ai (by omega)];rfl,λj=>by rw[ai (by omega)];rfl,λj h=>absurd h (by omega),.inl ⟨rfl,rfl⟩⟩
 |k+1,hk=>by
  have ih:=WS C u v sn i at_ sl ah hl k (by omega);unfold bo;generalize bo C u v sn i at_ sl ah k=s at ih ⊢;dsimp only
  have aa:nth s.sl k=nth sl k:=by rw[ih.esl,ai (by omega)]
  cases hh:nth sn k with
  |true=>
   simp only[aJ]
   have e:∀(j:Nat)(p:Prop),(j<k+1/\nth sn j=false/\p)↔(j<k/\nth sn j=false/\p):=λj p=>by
    constructor
    .rintro⟨h1,h2,h3⟩
     refine⟨?_,h2,h3⟩
     rcases qp.1 h1 with h|rfl
     .exact h
     .rw[hh] at h2;cases h2
    .rintro⟨h1,h2,h3⟩;exact⟨by omega,h2,h3⟩
   refine⟨ih.l1,ih.l2,λj=>?_,λj=>?_,λj hj hn=>?_,?_⟩
   .rw[ih.esl];simp only[e]
   .rw[ih.eah];simp only[e]
   .refine ih.lo j ?_ hn
    rcases qp.1 hj with h|rfl
    .exact h
    .rw[hh] at hn;cases hn
   .rcases ih.nx with h|⟨h1,h2,h3⟩
    .exact .inl h
    .exact .inr ⟨h1,by omega,h3⟩
  |false=>
   simp only[bw,aQ]
   have b4:k<s.sl.length:=by rw[ih.l1];omega
   have bi:k<s.ah.length:=by rw[ih.l2];omega
   have key:∀s1:ScS,s1=(if nvS C u v i k<nth s.sl k then (⟨s.sl.set k (nvS C u v i k),s.ah.set k at_,s.least,s.next⟩:ScS) else s) ->
    (s1.sl.length=sl.length/\s1.ah.length=ah.length/\(∀j,nth s1.sl j=if j<k+1/\nth sn j=false/\nvS C u v i j<nth sl j then nvS C u v i j else nth sl j) /\
      (∀j,nth s1.ah j=if j<k+1/\nth sn j=false/\nvS C u v i j<nth sl j then at_ else nth ah j)/\s1.least=s.least/\s1.next=s.next/\(∀j,j≠k->nth s1.sl j=nth s.sl j)):=by
    intro s1 a6
    have e:∀(j:Nat)(p:Prop),j≠k->((j<k+1/\nth sn j=false/\p)↔(j<k/\nth sn j=false/\p)):=λj p bq=>by
     constructor
     .rintro⟨h1,h2,h3⟩;exact⟨by omega,h2,h3⟩
     .rintro⟨h1,h2,h3⟩;exact⟨by omega,h2,h3⟩
    by_cases h9:nvS C u v i k<nth s.sl k
    .rw[az h9] at a6;subst a6;refine⟨by simpa using ih.l1,by simpa using ih.l2,λj=>?_,λj=>?_,rfl,rfl,λj hj=>?_⟩
     .dsimp only;rw[cL _ _ _ _ b4];split
      .rename_i h';subst h';rw[az ⟨by omega,hh,by rw[<-aa];exact h9⟩]
      .rename_i h';rw[ih.esl];simp only[e j _ (bT h')]
     .dsimp only;rw[cL _ _ _ _ bi];split
      .rename_i h';subst h';rw[az ⟨by omega,hh,by rw[<-aa];exact h9⟩]
      .rename_i h';rw[ih.eah];simp only[e j _ (bT h')]
     .dsimp only;rw[cL _ _ _ _ b4,ai (bT hj)]
    .rw[ai h9] at a6;subst a6;refine⟨ih.l1,ih.l2,λj=>?_,λj=>?_,rfl,rfl,λj _=>rfl⟩
     .by_cases h':j=k
      .subst h';rw[ih.esl,ai (by omega),ai]
       rintro⟨_,_,h3⟩;rw[aa] at h9;exact h9 h3
      .rw[ih.esl];simp only[e j _ h']
     .by_cases h':j=k
      .subst h';rw[ih.eah,ai (by omega),ai]
       rintro⟨_,_,h3⟩;rw[aa] at h9;exact h9 h3
      .rw[ih.eah];simp only[e j _ h']
   obtain⟨k1,k2,k3,k4,k5,k6,k7⟩:=key _ rfl;generalize (if nvS C u v i k<nth s.sl k then (⟨s.sl.set k (nvS C u v i k),s.ah.set k at_,s.least,s.next⟩:ScS) else s)=s1 at *;by_cases b5:nth s1.sl k<s1.least
   .rw[az b5];refine⟨k1,k2,k3,k4,λj hj hn=>?_,.inr ⟨by dsimp only;omega,by dsimp only;omega,by simpa using hh,by simp⟩⟩;dsimp only
    rcases qp.1 hj with h|rfl
    .have:=ih.lo j h hn;rw[k7 j (by omega)];omega
    .exact xE _
   .rw[ai b5];refine⟨k1,k2,k3,k4,λj hj hn=>?_,?_⟩
    .rcases qp.1 hj with h|rfl
     .rw[k7 j (by omega),k5];exact ih.lo j h hn
     .omega
    .rw[k5,k6]
     rcases ih.nx with h|⟨h1,h2,h3,h4⟩
     .exact .inl h
     .refine .inr ⟨h1,by omega,h3,?_⟩;rw[k7 _ (by omega)];exact h4
structure zda(sn:List Bool)(ow:List Int)(d:Int)(u v sl:List Int)(k:Nat)(t:List Int×List Int×List Int):Prop where
 l1:t.1.length=u.length
 l2:t.2.1.length=v.length
 l3:t.2.2.length=sl.length
 ut:∀l:Nat,(∃j,j<k/\nth sn j=true/\nth ow j=(l:Int))->nth t.1 l=nth u l+d
 uf:∀l:Nat,(¬∃j,j<k/\nth sn j=true/\nth ow j=(l:Int))->nth t.1 l=nth u l
 ev:∀j,nth t.2.1 j=if j<k/\nth sn j=true then nth v j-d else nth v j
 esl:∀j,nth t.2.2 j=if j<k/\nth sn j=false then nth sl j-d else nth sl j
theorem za6(sn:List Bool)(ow:List Int)(d:Int)(u v sl:List Int)(bj:sl.length=v.length)(how:∀j,j<v.length->nth sn j=true->0<=nth ow j/\nth ow j<(u.length:Int))(dO:∀j k,j<v.length->k<v.length->0<=nth ow j->nth ow j=nth ow k->j=k):∀k,k<=v.length->zda sn ow d u v sl k (bL sn ow d u v sl k)
 |0,_=>⟨rfl,rfl,rfl,λl ⟨j,h,_⟩=>absurd h (by omega),λl _=>rfl,λj=>by rw[ai (by omega)];rfl,λj=>by rw[ai (by omega)];rfl⟩
 |k+1,hk=>by
  have ih:=za6 sn ow d u v sl bj how dO k (by omega);unfold bL;generalize bL sn ow d u v sl k=s at ih ⊢;dsimp only
  cases hh:nth sn k with
  |true=>
   simp only[aJ];obtain⟨h1,h2⟩:=how k (by omega) hh
   have hu:(nth ow k).toNat<s.1.length:=by rw[ih.l1];omega
   have aq:¬∃j,j<k/\nth sn j=true/\nth ow j=((nth ow k).toNat:Int):=by
    rintro⟨j,hj,hs,he⟩
    have:nth ow j=nth ow k:=by omega
    have:=dO j k (by omega) (by omega) (how j (by omega) hs).1 this;omega
   refine⟨by simpa using ih.l1,by simpa using ih.l2,ih.l3,λl hl=>?_,λl hl=>?_,λj=>?_,λj=>?_⟩
   .dsimp only;rw[cL _ _ _ _ hu];split
    .rename_i e;subst e;rw[ih.uf _ aq]
    .rename_i e;refine ih.ut l ?_;obtain⟨j,hj,hs,he⟩:=hl
     rcases qp.1 hj with h|h
     .exact⟨j,h,hs,he⟩
     .subst h;exact absurd (show (nth ow j).toNat=l by omega) e
   .dsimp only;rw[cL _ _ _ _ hu,ai]
    .exact ih.uf l λ⟨j,hj,hs,he⟩=>hl ⟨j,by omega,hs,he⟩
    .intro e;exact hl ⟨k,by omega,hh,by omega⟩
   .dsimp only;rw[cL _ _ _ _ (by rw[ih.l2];omega)];by_cases e:k=j
    .subst e;rw[az rfl,ih.ev,ai (by omega),az ⟨by omega,hh⟩]
    .rw[ai e,ih.ev j];by_cases hj:j<k/\nth sn j=true
     .rw[az hj,az ⟨by omega,hj.2⟩]
     .rw[ai hj,ai]
      rintro⟨a,b⟩;exact hj ⟨by omega,b⟩
   .dsimp only;rw[ih.esl j];by_cases hj:j<k/\nth sn j=false
    .rw[az hj,az ⟨by omega,hj.2⟩]
    .rw[ai hj,ai]
     rintro⟨a,b⟩
     refine hj ⟨?_,b⟩
     rcases qp.1 a with h|rfl
     .exact h
     .rw[hh] at b;cases b
  |false=>
   simp only[bw,aQ];refine⟨ih.l1,ih.l2,by simpa using ih.l3,λl hl=>?_,λl hl=>?_,λj=>?_,λj=>?_⟩
   .refine ih.ut l ?_;obtain⟨j,hj,hs,he⟩:=hl
    rcases qp.1 hj with h|rfl
    .exact⟨j,h,hs,he⟩
    .rw[hh] at hs;cases hs
   .exact ih.uf l λ⟨j,hj,hs,he⟩=>hl ⟨j,by omega,hs,he⟩
   .dsimp only;rw[ih.ev j];by_cases hj:j<k/\nth sn j=true
    .rw[az hj,az ⟨by omega,hj.2⟩]
    .rw[ai hj,ai]
     rintro⟨a,b⟩
     refine hj ⟨?_,b⟩
     rcases qp.1 a with h|rfl
     .exact h
     .rw[hh] at b;cases b
   .dsimp only;rw[cL _ _ _ _ (by rw[ih.l3];omega)];by_cases e:k=j
    .subst e;rw[az rfl,ih.esl,ai (by omega),az ⟨by omega,hh⟩]
    .rw[ai e,ih.esl j];by_cases hj:j<k/\nth sn j=false
     .rw[az hj,az ⟨by omega,hj.2⟩]
     .rw[ai hj,ai]
      rintro⟨a,b⟩;exact hj ⟨by omega,b⟩
structure Hp(C:Nat->Nat->Int)(n c:Nat):Prop where
 nn:n<=8
 cc:c<=8
 pr:∀i,i<n->0<=C i (c+i)/\C i (c+i)<=1000000000000
 ot:∀i l,i<n->l<n->l≠i->C i (c+l)=1000000000000000
 cr:∀i j,i<n->j<c->C i j=1000000000000000\/(0<=C i j/\C i j<=1000000000000)
theorem Hp.bd{C:Nat->Nat->Int}{n c:Nat}(h:Hp C n c){i j:Nat}(hi:i<n)(hj:j<c+n):0<=C i j/\C i j<=1000000000000000:=by
 by_cases hc:j<c
 .rcases h.cr i j hi hc with h|h<;>omega
 .obtain⟨l,rfl⟩:∃l,j=c+l:=⟨j-c,by omega⟩;by_cases hl:l=i
  .subst hl;have:=h.pr l hi;omega
  .rw[h.ot i l hi (by omega) hl];omega
theorem Hp.real{C:Nat->Nat->Int}{n c:Nat}(h:Hp C n c){i j:Nat}(hi:i<n)(hj:j<c+n)(hb:C i j<1000000000000000):j<c\/j=c+i:=by
 by_cases hc:j<c
 .exact .inl hc
 .obtain⟨l,rfl⟩:∃l,j=c+l:=⟨j-c,by omega⟩;by_cases hl:l=i
  .exact .inr (by omega)
  .rw[h.ot i l hi (by omega) hl] at hb;omega
structure MI(C:Nat->Nat->Int)(n c r:Nat)(u v ow:List Int):Prop where
 lu:u.length=n
 lv:v.length=c+n
 lo:ow.length=c+n
 hu:∀l,l<n->0<=nth u l
 hv:∀j,j<c+n->nth v j<=0
 hvz:∀j,j<c+n->nth ow j=-1->nth v j=0
 hvp:∀l,l<n->nth v (c+l)=0
 hf:∀l j,l<n->j<c+n->nth u l+nth v j<=C l j
 how:∀j,j<c+n->nth ow j=-1\/(0<=nth ow j/\nth ow j<(r:Int))
 dO:∀j k,j<c+n->k<c+n->0<=nth ow j->nth ow j=nth ow k->j=k
 ht:∀j,j<c+n->0<=nth ow j->nth u (nth ow j).toNat+nth v j=C (nth ow j).toNat j
 Bm:∀l,l<r->∃j,j<c+n/\nth ow j=(l:Int)
section
variable{C:Nat->Nat->Int}{n c row:Nat}{u v ow:List Int}
theorem MI.ub(m:MI C n c row u v ow)(h:Hp C n c){l:Nat}(hl:l<n):nth u l<=1000000000000:=by
 have h1:=m.hf l (c+l) hl (by omega);have h2:=m.hvp l hl;have h3:=h.pr l hl;omega
theorem MI.vb(m:MI C n c row u v ow)(h:Hp C n c)(hr:row<=n){j:Nat}(hj:j<c+n):-1000000000000<=nth v j:=by
 rcases m.how j hj with h1|⟨h1,h2⟩
 .rw[m.hvz j hj h1];omega
 .have h3:=m.ht j hj h1;have h4:=m.ub h (l:=(nth ow j).toNat) (by omega);have h5:=(h.bd (i:=(nth ow j).toNat) (j:=j) (by omega) hj).1;omega
theorem MI.own(m:MI C n c row u v ow)(h:Hp C n c)(hr:row<=n){j:Nat}(hj:j<c+n)(ho:0<=nth ow j):j<c\/j=c+(nth ow j).toNat:=by
 rcases m.how j hj with h1|⟨_,h2⟩
 .omega
 .refine h.real (by omega) hj ?_;have h3:=m.ht j hj ho;have h4:=m.ub h (l:=(nth ow j).toNat) (by omega);have h5:=m.hv j hj;omega
end
def Tv(m row:Nat)(ow:List Int)(w:Ws)(l:Nat):Prop:=l=row\/∃j,j<m/\nth w.sn j=true/\nth ow j=(l:Int)
def Via(m row:Nat)(ow:List Int)(w:Ws)(j:Nat)(p:Nat->Prop):Prop:=
 (nth w.ah j=-1/\p row)\/(0<=nth w.ah j/\nth w.ah j<(m:Int)/\nth w.sn (nth w.ah j).toNat=true/\p (nth ow (nth w.ah j).toNat).toNat)
structure GI(C:Nat->Nat->Int)(n c row:Nat)(ow:List Int)(w:Ws):Prop where
 mi:MI C n c row w.u w.v ow
 ls:w.sl.length=c+n
 la:w.ah.length=c+n
 ln:w.sn.length=c+n
 hs:∀j,j<c+n->nth w.sn j=true->0<=nth ow j/\j<c
 hat:(w.at_=-1/\w.i=row/\∀j,j<c+n->nth w.sn j=false)\/(0<=w.at_/\w.at_<((c+n:Nat):Int)/\nth w.sn w.at_.toNat=true/\nth ow w.at_.toNat=(w.i:Int))
 h1:∀j,j<c+n->nth w.sn j=false->∀l,Tv (c+n) row ow w l->l≠w.i->nth w.sl j<=C l j-nth w.u l-nth w.v j
 h2:∀j,j<c+n->nth w.sn j=false->(nth w.sl j=10000000000000000/\w.at_=-1)\/Via (c+n) row ow w j λl=>nth w.sl j=C l j-nth w.u l-nth w.v j
 pth:∀j,j<c+n->nth w.sn j=true->Via (c+n) row ow w j λl=>nth w.u l+nth w.v j=C l j
 rk:∃rk:Nat->Nat,(∀j,j<c+n->nth w.sn j=true->rk j+bF w.sn<c+n)/\∀j,j<c+n->nth w.sn j=true->0<=nth w.ah j->rk (nth w.ah j).toNat<rk j
theorem GI.ib{C:Nat->Nat->Int}{n c row:Nat}{ow:List Int}{w:Ws}(g:GI C n c row ow w)(hr:row<n):w.i<n:=by
 rcases g.hat with ⟨_,h,_⟩|⟨h1,h2,h3,h4⟩
 .omega
 .rcases g.mi.how w.at_.toNat (by omega) with h|h<;>omega
theorem GI.tvi{C:Nat->Nat->Int}{n c row:Nat}{ow:List Int}{w:Ws}(g:GI C n c row ow w):Tv (c+n) row ow w w.i:=by
 rcases g.hat with ⟨_,h,_⟩|⟨h1,h2,h3,h4⟩
 .exact .inl h
 .exact .inr ⟨_,by omega,h3,h4⟩
theorem GI.tvn{C:Nat->Nat->Int}{n c row:Nat}{ow:List Int}{w:Ws}(g:GI C n c row ow w)(hr:row<n){l:Nat}(h:Tv (c+n) row ow w l):l<n:=by
 rcases h with rfl|⟨j,h1,h2,h3⟩
 .exact hr
 .rcases g.mi.how j h1 with h|h<;>omega
structure zbn(C:Nat->Nat->Int)(n c row:Nat)(ow:List Int)(w:Ws)(s:ScS):Prop where
 ok:fg C w.u w.v w.sn w.i w.at_ w.sl w.ah (c+n) s
 nx0:0<=s.next
 nx1:s.next<((c+n:Nat):Int)
 nx2:nth w.sn s.next.toNat=false
 d0:0<=s.least
 d1:s.least<=1000000000000
 dn:s.least=nth s.sl s.next.toNat
 lo:∀j,j<c+n->nth w.sn j=false->∀l,Tv (c+n) row ow w l->nth s.sl j<=C l j-nth w.u l-nth w.v j
 via:∀j,j<c+n->nth w.sn j=false->(nth s.ah j=-1/\nth s.sl j=C row j-nth w.u row-nth w.v j)\/(0<=nth s.ah j/\nth s.ah j<((c+n:Nat):Int)/\nth w.sn (nth s.ah j).toNat=true/\nth s.sl j=C (nth ow (nth s.ah j).toNat).toNat j-nth w.u (nth ow (nth s.ah j).toNat).toNat-nth w.v j)
 old:∀j,nth w.sn j=true->nth s.ah j=nth w.ah j
 car:s.next.toNat<c\/nth ow s.next.toNat=-1
theorem C1{C:Nat->Nat->Int}{n c row:Nat}{ow:List Int}{w:Ws}(hp:Hp C n c)(hr:row<n)(g:GI C n c row ow w):zbn C n c row ow w (bl C (c+n) w):=by
 have ok:=WS C w.u w.v w.sn w.i w.at_ w.sl w.ah (by rw[g.la,g.ls]) (c+n) (by rw[g.ls];omega);have hi:=g.ib hr;show zbn C n c row ow w (bo C w.u w.v w.sn w.i w.at_ w.sl w.ah (c+n));generalize bo C w.u w.v w.sn w.i w.at_ w.sl w.ah (c+n)=s at ok ⊢
 have lo:∀j,j<c+n->nth w.sn j=false->∀l,Tv (c+n) row ow w l->nth s.sl j<=C l j-nth w.u l-nth w.v j:=λj hj hn l hl=>by
  have e:=ok.esl j;by_cases b6:l=w.i
  .subst b6;by_cases h9:nvS C w.u w.v w.i j<nth w.sl j
   .rw[az ⟨hj,hn,h9⟩] at e;unfold nvS at e;omega
   .rw[ai (λh=>h9 h.2.2)] at e;unfold nvS at h9;omega
  .have:=g.h1 j hj hn l hl b6;split at e
   .rename_i h;have:=h.2.2;omega
   .omega
 have nvb:∀j,j<c+n->nvS C w.u w.v w.i j<10000000000000000:=λj hj=>by
  have h1:=(hp.bd hi hj).2;have h2:=g.mi.hu w.i hi;have h3:=g.mi.vb hp (by omega) hj;unfold nvS;omega
 have via:∀j,j<c+n->nth w.sn j=false->(nth s.ah j=-1/\nth s.sl j=C row j-nth w.u row-nth w.v j)\/(0<=nth s.ah j/\nth s.ah j<((c+n:Nat):Int)/\nth w.sn (nth s.ah j).toNat=true/\nth s.sl j=C (nth ow (nth s.ah j).toNat).toNat j-nth w.u (nth ow (nth s.ah j).toNat).toNat-nth w.v j):=λj hj hn=>by
  have e1:=ok.esl j;have e2:=ok.eah j;by_cases h9:nvS C w.u w.v w.i j<nth w.sl j
  .rw[az ⟨hj,hn,h9⟩] at e1 e2;unfold nvS at e1;rw[e1,e2]
   rcases g.hat with ⟨h1,h2,_⟩|⟨h1,h2,h3,h4⟩
   .left;rw[h1,h2];exact⟨rfl,rfl⟩
   .right;refine⟨h1,h2,h3,?_⟩;rw[h4];rfl
  .rw[ai (λh=>h9 h.2.2)] at e1 e2;rw[e1,e2]
   rcases g.h2 j hj hn with ⟨h1,_⟩|h
   .exact absurd (by rw[h1];exact nvb j hj) h9
   .exact h
 have own:nth w.sn (c+w.i)=false:=by
  cases h:nth w.sn (c+w.i) with
  |false=>rfl
  |true=>have:=(g.hs _ (by omega) h).2;omega
 have aw:nth s.sl (c+w.i)<=1000000000000:=by
  have h1:=lo (c+w.i) (by omega) own w.i g.tvi;have h2:=hp.pr w.i hi;have h3:=g.mi.hu w.i hi;have h4:=g.mi.hvp w.i hi;omega
 have bc:s.least<=1000000000000:=Int.le_trans (ok.lo (c+w.i) (by omega) own) aw;obtain⟨n0,n1,n2,n3⟩:=ok.nx.resolve_left (λh=>by have:=h.2;omega)
 have h9:s.next.toNat<c+n:=by omega
 have bk:=via _ h9 n2
 have bm:∃l,Tv (c+n) row ow w l/\nth s.sl s.next.toNat=C l s.next.toNat-nth w.u l-nth w.v s.next.toNat:=by
  rcases bk with ⟨_,h⟩|⟨h1,h2,h3,h4⟩
  .exact⟨row,.inl rfl,h⟩
  .have:=(g.hs _ (by omega) h3).1;exact⟨_,.inr ⟨(nth s.ah s.next.toNat).toNat,by omega,h3,by omega⟩,h4⟩
 obtain⟨l,hl,he⟩:=bm;have ao:=g.tvn hr hl;have bn:=g.mi.hf l _ ao h9;have bu:=g.mi.ub hp ao;have bv:=g.mi.hv _ h9;refine⟨ok,n0,n1,n2,by omega,bc,n3,lo,via,λj hj=>?_,?_⟩
 .rw[ok.eah,ai]
  rintro⟨_,h,_⟩;rw[hj] at h;cases h
 .rcases hp.real ao h9 (by omega) with h|h
  .exact .inl h
  .right
   rcases g.mi.how _ h9 with h1|⟨h1,h2⟩
   .exact h1
   .exfalso
    rcases g.mi.own hp (by omega) h9 h1 with h3|h3
    .omega
    .have h4:(nth ow s.next.toNat).toNat=l:=by omega
     rcases hl with rfl|⟨j,bg,ay,bp⟩
     .omega
     .have:=g.mi.dO _ _ h9 bg h1 (by omega);rw[this] at n2;rw[n2] at ay;cases ay
end Go.Proofs.YthpkmilhiganjaaGreat
