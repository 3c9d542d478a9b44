/- Lemmas. -/
import Derived.Test.YthpkmilhiganjaaGreatPEb
import Derived.Test.YthpkmilhiganjaaGreatPLd
import Derived.Test.YthpkmilhiganjaaGreatPEa
set_option linter.all false
set_option maxHeartbeats 32000000
set_option maxRecDepth 100000
namespace Go.Proofs.YthpkmilhiganjaaGreat
open Go Go.Fi
variable[av]
def zcz(L:List (List Int))(n m:Nat)(u v ow ah:List Int):ak:=
 [(3,iA ow),(4,[.w false false (.sl n (l9 L)),.msl 0 n 1 0 n,.msl 1 m 1 0 m,.msl 3 m 1 0 m,.msl 9 m 1 0 m]),(9,iA ah),(0,iA u),(1,iA v)]
theorem zgi(L:List (List Int))(n c m:Nat)(hm:m=c+n)(hL:L.length=n)(hh:∀i,i<n->(nth L i).length=m)(hp:Hp (λi j=>nth (nth L i) j) n c)(row:Nat)(hr:row<n)(s:Hs)(mi:MI (λi j=>nth (nth L i) j) n c row s.u s.v s.ow)(p0:PV)(K:AV->ak->Nat->Prop)(hK:∀ah,ah.length=m->K (.tup []) (zcz L n m (tz (λi j=>nth (nth L i) j) m s row).u (tz (λi j=>nth (nth L i) j) m s row).v (tz (λi j=>nth (nth L i) j) m s row).ow ah) 10):bm ⟨5,none⟩ Tz.prog (Tryz.f117.body.getD .skip) ⟨dR 0 ([.ptr 4 5 0,.w false false (.int .i64 row)]),[(4,[.w false false (.sl n (l9 L)),.msl 0 n 1 0 n,.msl 1 m 1 0 m,.msl 3 m 1 0 m,.w false false p0]),(0,iA s.u),(1,iA s.v),(3,iA s.ow)],5,Tryz.f117.ntmps⟩ (fp Tz.prog Tryz.f117.results.toList K):=by
 have d:=zdh hp hr mi;have g0:=zdg (c:=c) (row:=row) mi
 have eG:∀f w,sR (λi j=>nth (nth L i) j) m s.ow row (f+1) w=if nth s.ow (bB (λi j=>nth (nth L i) j) m w).next.toNat<0 then eQ (λi j=>nth (nth L i) j) m s.ow row w else sR (λi j=>nth (nth L i) j) m s.ow row f (eQ (λi j=>nth (nth L i) j) m s.ow row w):=λ_ _=>rfl
 have hS:tz (λi j=>nth (nth L i) j) m s row=⟨(oc (λi j=>nth (nth L i) j) m s row).u,(oc (λi j=>nth (nth L i) j) m s row).v,lU (oc (λi j=>nth (nth L i) j) m s row).ah row (m+1) (oc (λi j=>nth (nth L i) j) m s row).at_ s.ow⟩:=rfl;rw[hS] at hK;clear hS
 have hW:sR (λi j=>nth (nth L i) j) m s.ow row (bZ (ws0 m s row).sn+1) (ws0 m s row)=oc (λi j=>nth (nth L i) j) m s row:=by
  rw[show bZ (ws0 m s row).sn=m from zdb m];rfl
 have hx:m<17:=by have:=hp.nn;have:=hp.cc;omega
 have hC:(λi j=>nth (nth L i) j)=λi j=>nth (nth L i) j:=rfl
 have c3:∀w,GI (λi j=>nth (nth L i) j) n c row s.ow w->zcy (λi j=>nth (nth L i) j) n m row s.ow w:=λw g=>by rw[hm];exact ze3 hp hr g
 have hgo:∀w,GI (λi j=>nth (nth L i) j) n c row s.ow w->¬nth s.ow (bB (λi j=>nth (nth L i) j) m w).next.toNat<0->GI (λi j=>nth (nth L i) j) n c row s.ow (eQ (λi j=>nth (nth L i) j) m s.ow row w):=λw g h=>by rw[hm] at h ⊢;exact zde hp hr g h
 have a5:∀w,GI (λi j=>nth (nth L i) j) n c row s.ow w->bZ (eQ (λi j=>nth (nth L i) j) m s.ow row w).sn+1=bZ w.sn:=λw g=>by rw[hm];exact zci hp hr g
 rw[<-hm] at d g0;have lu:=mi.lu
 have lv:s.v.length=m:=by rw[hm];exact mi.lv
 have lo:s.ow.length=m:=by rw[hm];exact mi.lo
 clear hC hp mi
 obtain⟨C,hC⟩:∃C:Nat->Nat->Int,C=λi j=>nth (nth L i) j:=⟨_,rfl⟩
 have hCe:∀i j,C i j=nth (nth L i) j:=λi j=>by rw[hC]
 rw[<-hC] at d g0 eG hK hW c3 hgo a5;clear hC;generalize oc C m s row=W at d hK hW;have r1:=LO 10000000000000000 m (by omega);have r2:=LO (-1) m (by omega);have aa:inI .i64 (m:Int):=aG (by omega) (by omega)
 have dl:(m:Int)<=1000000000:=by omega
 have kd:=keep d;have kG:=keep eG;have kK:=keep hK;have kr:=keep hh;have kb:=keep c3;have kgo:=keep hgo;have kun:=keep a5;have kC:=keep hCe;have kg:=keep g0;have kW:=keep hW;have km:=keep hm;have k17:=keep hx;clear d eG hK hh c3 hgo a5 hCe g0 hW hm hx;have hb:Tryz.f117.body=some _:=rfl;rw[hb];clear hb;simp only[gk,Tryz.ntmps117,Tryz.results117]
 repeat' first|(with_reducible first|apply GZ|apply G0|apply ai|apply af|refine aQ (id:=1) 7 mixed (by decide +kernel) ?_|refine cwM (r1) ?_|refine cwM (r2) ?_|intro _)|(simp[*,lv,aa,dl])
 clear r1 r2;refine df 10 (λ(w:Ws)=>GI C n c row s.ow w/\sR C m s.ow row (bZ w.sn+1) w=W) [0,1,4,5,6] (λ(w:Ws)=>[(7,.w false false (.int .i64 w.at_)),(8,.w false false (.int .i64 w.i))]) [4,3] (λ(w:Ws)=>[(7,bA w.sn),(6,iA w.sl),(9,iA w.ah),(0,iA w.u),(1,iA w.v)]) (λ(w:Ws)=>bZ w.sn) (λ(_u:Unit)=>True) [0,1] (λ(_u:Unit)=>[(7,.w false false (.int .i64 W.at_))]) [4,3] (λ(_u:Unit)=>[(9,iA W.ah),(0,iA W.u),(1,iA W.v)]) (ws0 m s row) ⟨kg,kW⟩ (aO [] (by simp[ws0,zdj]) (by simp[ws0,zdj])) (λw hk=>?_) (λ_u hf=>?_)
 .obtain⟨hg,hy⟩:=hk;have hb:zcy C n m row s.ow w:=kb w hg;have h9:¬nth s.ow (bB C m w).next.toNat<0->GI C n c row s.ow (eQ C m s.ow row w):=kgo w hg;have a5:bZ (eQ C m s.ow row w).sn+1=bZ w.sn:=kun w hg
  have ct:sR C m s.ow row (bZ w.sn+1) w=if nth s.ow (bB C m w).next.toNat<0 then eQ C m s.ow row w else sR C m s.ow row (bZ w.sn) (eQ C m s.ow row w):=kG _ w
  rw[ct,<-a5] at hy;have hCe:∀i j,C i j=nth (nth L i) j:=kC;have d4:∀i,i<n->(nth L i).length=m:=kr;have ag:m<17:=k17;clear kd kG kK kb kgo kun kg kW kr k17 ct hg;obtain⟨u,v,sl,ah,sn,at_,i⟩:=w;have hin:=hb.hin;have wu:=hb.lu;have wv:=hb.lv;have wl:=hb.ls;have wa:=hb.la;have wn:=hb.ln;have bnv:=hb.nv;have bsk:=hb.sk;have bur:=hb.ur;have btk:=hb.tk;have bts:=hb.ts;have btf:=hb.tf;have bnx:=hb.nx;dsimp only at hin wu wv wl wa wn bnv bsk bur btk bts btf bnx h9 a5 hy ⊢;have eS0:bC C u v sn i at_ sl ah 0=⟨sl,ah,10000000000000000,-1⟩:=rfl
  have eSs:∀k,bC C u v sn i at_ sl ah (k+1)=if nth sn k=true then bC C u v sn i at_ sl ah k else
   if nth (if nvS C u v i k<nth (bC C u v sn i at_ sl ah k).sl k then (⟨(bC C u v sn i at_ sl ah k).sl.set k (nvS C u v i k),(bC C u v sn i at_ sl ah k).ah.set k at_,(bC C u v sn i at_ sl ah k).least,(bC C u v sn i at_ sl ah k).next⟩:ScS) else bC C u v sn i at_ sl ah k).sl k <
    (if nvS C u v i k<nth (bC C u v sn i at_ sl ah k).sl k then (⟨(bC C u v sn i at_ sl ah k).sl.set k (nvS C u v i k),(bC C u v sn i at_ sl ah k).ah.set k at_,(bC C u v sn i at_ sl ah k).least,(bC C u v sn i at_ sl ah k).next⟩:ScS) else bC C u v sn i at_ sl ah k).least
   then ⟨(if nvS C u v i k<nth (bC C u v sn i at_ sl ah k).sl k then (⟨(bC C u v sn i at_ sl ah k).sl.set k (nvS C u v i k),(bC C u v sn i at_ sl ah k).ah.set k at_,(bC C u v sn i at_ sl ah k).least,(bC C u v sn i at_ sl ah k).next⟩:ScS) else bC C u v sn i at_ sl ah k).sl,
    (if nvS C u v i k<nth (bC C u v sn i at_ sl ah k).sl k then (⟨(bC C u v sn i at_ sl ah k).sl.set k (nvS C u v i k),(bC C u v sn i at_ sl ah k).ah.set k at_,(bC C u v sn i at_ sl ah k).least,(bC C u v sn i at_ sl ah k).next⟩:ScS) else bC C u v sn i at_ sl ah k).ah,
    nth (if nvS C u v i k<nth (bC C u v sn i at_ sl ah k).sl k then (⟨(bC C u v sn i at_ sl ah k).sl.set k (nvS C u v i k),(bC C u v sn i at_ sl ah k).ah.set k at_,(bC C u v sn i at_ sl ah k).least,(bC C u v sn i at_ sl ah k).next⟩:ScS) else bC C u v sn i at_ sl ah k).sl k,k⟩
   else (if nvS C u v i k<nth (bC C u v sn i at_ sl ah k).sl k then (⟨(bC C u v sn i at_ sl ah k).sl.set k (nvS C u v i k),(bC C u v sn i at_ sl ah k).ah.set k at_,(bC C u v sn i at_ sl ah k).least,(bC C u v sn i at_ sl ah k).next⟩:ScS) else bC C u v sn i at_ sl ah k):=λ_=>rfl
  have eW:bB C m ⟨u,v,sl,ah,sn,at_,i⟩=bC C u v sn i at_ sl ah m:=rfl
  have eR:eQ C m s.ow row ⟨u,v,sl,ah,sn,at_,i⟩=⟨(dX sn s.ow (bC C u v sn i at_ sl ah m).least (u.set row (nth u row+(bC C u v sn i at_ sl ah m).least)) v (bC C u v sn i at_ sl ah m).sl m).1,(dX sn s.ow (bC C u v sn i at_ sl ah m).least (u.set row (nth u row+(bC C u v sn i at_ sl ah m).least)) v (bC C u v sn i at_ sl ah m).sl m).2.1,
   (dX sn s.ow (bC C u v sn i at_ sl ah m).least (u.set row (nth u row+(bC C u v sn i at_ sl ah m).least)) v (bC C u v sn i at_ sl ah m).sl m).2.2,(bC C u v sn i at_ sl ah m).ah,sn.set (bC C u v sn i at_ sl ah m).next.toNat true,(bC C u v sn i at_ sl ah m).next,(nth s.ow (bC C u v sn i at_ sl ah m).next.toNat).toNat⟩:=rfl
  rw[eW] at bur btk bts btf bnx h9 hy;generalize eQ C m s.ow row ⟨u,v,sl,ah,sn,at_,i⟩=w' at eR h9 a5 hy;clear eW hb;generalize bC C u v sn i at_ sl ah=S at *;have kS:=keep eSs;have knv:=keep bnv;have ksk:=keep bsk;have kC2:=keep hCe;have kur:=keep bur;have ktk:=keep btk;have kts:=keep bts;have ktf:=keep btf;have knx:=keep bnx;have kcon:=keep h9;have kun:=keep a5;have kgw:=keep hy;have kR:=keep eR;have krw:=keep d4;have k17:=keep ag;clear eSs bnv bsk hCe bur btk bts btf bnx h9 a5 hy eR d4 ag
  repeat' first|(with_reducible first|apply ai|apply aF|apply af|intro _)|(simp[*])
  refine df 10 (λ(k:Nat)=>k<=m) [0,1,4,5,6,7,8,32] (λ(k:Nat)=>[(9,.w false false (.int .i64 (S k).least)),(10,.w false false (.int .i64 (S k).next)),(33,.w false false (.int .i64 k))]) [7,0,1,4,3] (λ(k:Nat)=>[(6,iA (S k).sl),(9,iA (S k).ah)]) (λ(k:Nat)=>m-k) (λ(_u:Unit)=>True) [0,1,4,5,6] (λ(_u:Unit)=>[(9,.w false false (.int .i64 (S m).least)),(10,.w false false (.int .i64 (S m).next))]) [7,0,1,4,3] (λ(_u:Unit)=>[(6,iA (S m).sl),(9,iA (S m).ah)]) (0) (aK _) (aO [] (by simp[eS0]) (by simp[eS0])) (λk hk=>?_) (λ_u hf=>?_)
  .clear eS0 kur ktk kts ktf knx kcon kun kgw kR;by_cases h8:k<m
   .have a6:inI .i64 ((k:Int)+1):=aG (by have:=k17;unfold aN at this;omega) (by have:=k17;unfold aN at this;omega)
    have hz:k+1<=m:=by omega
    have hCe:∀i j,C i j=nth (nth L i) j:=kC2;have bk:(nth L i).length=m:=krw i hin;obtain⟨l1,l2⟩:(S k).sl.length=m/\(S k).ah.length=m:=ksk k hk;obtain⟨n1,n2⟩:inI .i64 (C i k-nth u i)/\inI .i64 (C i k-nth u i-nth v k):=knv k h8;have eSk:S (k+1)=_:=kS k
    have d3:nvS C u v i k=nth (nth L i) k-nth u i-nth v k:=by unfold nvS;rw[hCe]
    rw[d3] at eSk;rw[hCe] at n1 n2
    have aj:k<sn.length:=by omega
    have hkL:k<(nth L i).length:=by omega
    have hiL:i<L.length:=by omega
    have bi:i<u.length:=by omega
    have b5:k<v.length:=by omega
    clear kS knv ksk kC2 krw k17 hCe d3;generalize S k=sk at *;obtain⟨sl1,ah1,le1,nx1⟩:=sk;dsimp only at l1 l2 eSk ⊢
    cases a4:nth sn k with
    |true=>
     rw[aB a4] at eSk
     repeat' first|(with_reducible first|apply ai|apply aF|apply au|apply aL|apply af|apply al|intro _)|(simp[*,h8,a6,a4,aj,wn])
     all_goals first
      |omega
      |assumption
      |(refine nx (k+1) ?_ ?_;(· exact hz);(refine aD ?_ ?_<;>first|trivial|(simp[*,eSk];done)))
    |false=>
     rw[ar (by rw[a4];decide)] at eSk;have hq:∃q,nth (nth L i) k-nth u i-nth v k=q:=⟨_,rfl⟩;obtain⟨q,hq⟩:=hq;rw[hq] at eSk n2
     have b':k<sl1.length:=by omega
     have bj:k<ah1.length:=by omega
     by_cases c1:q<nth sl1 k
     .rw[aB c1] at eSk;dsimp only at eSk
      have e1:nth (sl1.set k q) k=q:=by rw[ku _ _ _ _ b',aB rfl]
      rw[e1] at eSk
      have l3:(sl1.set k q).length=m:=by simpa using l1
      by_cases c2:q<le1
      .rw[aB c2] at eSk
       repeat' first|(with_reducible first|apply ai|apply aF|apply au|apply af|refine aQ (id:=9) 27 mixed (by decide +kernel) ?_|apply al|intro _)|(simp[*,h8,a6,a4,aj,wn,hin,hiL,hkL,bi,b5,bk,wu,wv,hq,n1,n2,c1,c2,b',bj,l1,l2,e1,l3])
       all_goals first
        |omega
        |assumption
        |(refine nx (k+1) ?_ ?_;(· exact hz);(refine aD ?_ ?_<;>first|trivial|(simp[*,eSk];done)))
      .rw[ar c2] at eSk
       repeat' first|(with_reducible first|apply ai|apply aF|apply au|apply af|refine aQ (id:=9) 27 mixed (by decide +kernel) ?_|apply al|intro _)|(simp[*,h8,a6,a4,aj,wn,hin,hiL,hkL,bi,b5,bk,wu,wv,hq,n1,n2,c1,c2,b',bj,l1,l2,e1,l3])
       all_goals first
        |omega
        |assumption
        |(refine nx (k+1) ?_ ?_;(· exact hz);(refine aD ?_ ?_<;>first|trivial|(simp[*,eSk];done)))
     .rw[ar c1] at eSk;dsimp only at eSk;by_cases c2:nth sl1 k<le1
      .rw[aB c2] at eSk
       repeat' first|(with_reducible first|apply ai|apply aF|apply au|apply af|refine aQ (id:=9) 27 mixed (by decide +kernel) ?_|apply al|intro _)|(simp[*,h8,a6,a4,aj,wn,hin,hiL,hkL,bi,b5,bk,wu,wv,hq,n1,n2,c1,c2,b',bj,l1,l2])
       all_goals first
        |omega
        |assumption
        |(refine nx (k+1) ?_ ?_;(· exact hz);(refine aD ?_ ?_<;>first|trivial|(simp[*,eSk];done)))
      .rw[ar c2] at eSk
       repeat' first|(with_reducible first|apply ai|apply aF|apply au|apply af|refine aQ (id:=9) 27 mixed (by decide +kernel) ?_|apply al|intro _)|(simp[*,h8,a6,a4,aj,wn,hin,hiL,hkL,bi,b5,bk,wu,wv,hq,n1,n2,c1,c2,b',bj,l1,l2])
       all_goals first
        |omega
        |assumption
        |(refine nx (k+1) ?_ ?_;(· exact hz);(refine aD ?_ ?_<;>first|trivial|(simp[*,eSk];done)))
   .have a9:k=m:=by omega
    subst a9
    repeat' first|(with_reducible first|apply ai|apply aL|apply af|apply al|intro _)|(simp[*,h8])
    all_goals first
     |omega
     |(refine aZ () ?_ ?_;(· trivial);(refine aD ?_ ?_<;>first|trivial|(simp[*];done)))
  .have cp:(S m).sl.length=m/\(S m).ah.length=m:=ksk m (aE m);obtain⟨a,d2,aq⟩:=knx;have bq:inI .i64 (nth u row+(S m).least):=kur;have ag:m<17:=k17;clear eS0 kS knv ksk kC2 krw kur kC k17;generalize S m=sm at *;obtain⟨sl1,ah1,d,nx⟩:=sm;dsimp only at cp d2 bq ⊢;subst d2;obtain⟨dc,dg⟩:=cp
   have cj:row<u.length:=by omega
   have eT0:dX sn s.ow d (u.set row (nth u row+d)) v sl1 0=(u.set row (nth u row+d),v,sl1):=rfl
   have eTs:∀k,dX sn s.ow d (u.set row (nth u row+d)) v sl1 (k+1)=if nth sn k=true then
    ((dX sn s.ow d (u.set row (nth u row+d)) v sl1 k).1.set (nth s.ow k).toNat (nth (dX sn s.ow d (u.set row (nth u row+d)) v sl1 k).1 (nth s.ow k).toNat+d),(dX sn s.ow d (u.set row (nth u row+d)) v sl1 k).2.1.set k (nth (dX sn s.ow d (u.set row (nth u row+d)) v sl1 k).2.1 k-d),(dX sn s.ow d (u.set row (nth u row+d)) v sl1 k).2.2)
    else ((dX sn s.ow d (u.set row (nth u row+d)) v sl1 k).1,(dX sn s.ow d (u.set row (nth u row+d)) v sl1 k).2.1,(dX sn s.ow d (u.set row (nth u row+d)) v sl1 k).2.2.set k (nth (dX sn s.ow d (u.set row (nth u row+d)) v sl1 k).2.2 k-d)):=λ_=>rfl
   dsimp only at ktk kts ktf kcon kgw kR;generalize dX sn s.ow d (u.set row (nth u row+d)) v sl1=T at *;have kT:=keep eTs;clear eTs
   repeat' first|(with_reducible first|apply ai|apply af|refine And.intro ?_ ?_|intro _)|(simp[*,hr,cj,wu,bq])
   all_goals try first|omega|assumption
   refine df 10 (λ(k:Nat)=>k<=m) [0,1,4,5,6,9,10,105] (λ(k:Nat)=>[(106,.w false false (.int .i64 k))]) [7,9,4,3] (λ(k:Nat)=>[(0,iA (T k).1),(1,iA (T k).2.1),(6,iA (T k).2.2)]) (λ(k:Nat)=>m-k) (λ(_u:Unit)=>True) [0,1,4,5,6,10] (λ(_u:Unit)=>[]) [7,9,4,3] (λ(_u:Unit)=>[(0,iA (T m).1),(1,iA (T m).2.1),(6,iA (T m).2.2)]) (0) (aK _) (aO [] (by simp[eT0]) (by simp[eT0])) (λk hk=>?_) (λ_u hf=>?_)
   .clear eT0 kcon kun kgw kR;by_cases h8:k<m
    .have a6:inI .i64 ((k:Int)+1):=aG (by omega) (by omega)
     have hz:k+1<=m:=by omega
     obtain⟨t1,t2,t3⟩:(T k).1.length=n/\(T k).2.1.length=m/\(T k).2.2.length=m:=ktk k hk;have bp:nth sn k=true->∃l:Nat,nth s.ow k=l/\l<n/\inI .i64 (nth (T k).1 l+d)/\inI .i64 (nth (T k).2.1 k-d):=kts k h8;have bo:nth sn k=false->inI .i64 (nth (T k).2.2 k-d):=ktf k h8;have eTk:T (k+1)=_:=kT k
     have aj:k<sn.length:=by omega
     have c6:k<s.ow.length:=by omega
     clear ktk kts ktf kT ag bq cj;generalize T k=tk at *;obtain⟨tu,tv,tl⟩:=tk;dsimp only at t1 t2 t3 bp bo eTk ⊢
     have b5:k<tv.length:=by omega
     have d':k<tl.length:=by omega
     cases a4:nth sn k with
     |true=>
      rw[aB a4] at eTk;obtain⟨l,bb,dj,b1,b2⟩:=bp a4;rw[bb] at eTk;simp only[bT] at eTk
      have dk:l<tu.length:=by omega
      clear bp bo
      repeat' first|(with_reducible first|apply ai|apply aF|apply au|apply af|refine aQ (id:=20) 16 mixed (by decide +kernel) ?_|apply al|refine And.intro ?_ ?_|intro _)|(simp[*,h8,a6,a4,aj,wn,bb,dj,dk,b5,t1,t2,b1,b2,c6,lo])
      all_goals first
       |omega
       |assumption
       |(refine nx (k+1) ?_ ?_;(· exact hz);(refine aD ?_ ?_<;>first|trivial|(simp[*,eTk];done)))
     |false=>
      rw[ar (by rw[a4];decide)] at eTk;have b1:=bo a4;clear bp bo
      repeat' first|(with_reducible first|apply ai|apply aF|apply au|apply af|apply al|intro _)|(simp[*,h8,a6,a4,aj,wn,d',t3,b1])
      all_goals first
       |omega
       |assumption
       |(refine nx (k+1) ?_ ?_;(· exact hz);(refine aD ?_ ?_<;>first|trivial|(simp[*,eTk];done)))
    .have a9:k=m:=by omega
     subst a9
     repeat' first|(with_reducible first|apply ai|apply aL|apply af|apply al|intro _)|(simp[*,h8])
     all_goals first
      |omega
      |(refine aZ () ?_ ?_;(· trivial);(refine aD ?_ ?_<;>first|trivial|(simp[*];done)))
   .clear eT0 kT kts ktf;have hR:w'=_:=kR;have hy:(if nth s.ow ((a:Nat):Int).toNat<0 then w' else sR C m s.ow row (bZ w'.sn+1) w')=W:=kgw;have h9:¬nth s.ow ((a:Nat):Int).toNat<0->GI C n c row s.ow w':=kcon;have a5:bZ w'.sn+1=bZ sn:=kun
    have co:a<sn.length:=by omega
    have b6:a<s.ow.length:=by omega
    clear kR kgw kcon kun ktk dc dg cj bq ag;rw[bT] at hy h9 hR;generalize T m=tm at *;obtain⟨tu,tv,tl⟩:=tm;dsimp only at hR ⊢;by_cases ho:nth s.ow a<0
    .rw[aB ho] at hy;rw[hy] at hR;subst hR;clear h9 a5 hy w'
     repeat' first|(with_reducible first|apply ai|apply aL|apply af|apply al|refine And.intro ?_ ?_|intro _)|(simp[*,wn,co,lo,b6,aq,ho])
     all_goals first
      |omega
      |assumption
      |(refine aZ () ?_ ?_;(· trivial);(refine aO [] ?_ ?_<;>first|trivial|(simp[*];done)))
    .rw[ar ho] at hy;have hg:=h9 ho;have kg:=keep (And.intro hg hy);obtain⟨l,bb⟩:∃l:Nat,nth s.ow a=l:=⟨(nth s.ow a).toNat,by omega⟩
     have db:¬((l:Nat):Int)<0:=by omega
     rw[bb,bT] at hR
     have e3:bZ w'.sn<bZ sn:=by omega
     clear h9 a5 hy hg ho
     repeat' first|(with_reducible first|apply ai|apply au|apply af|apply al|refine And.intro ?_ ?_|intro _)|(simp[*,wn,co,lo,b6,aq,bb,db])
     all_goals first
      |omega
      |assumption
      |(refine wT _ _ _ _ _ w' _ ?_ (by first|omega|(dsimp only;omega)|(simp;omega)) ?_;(· exact kg);(refine aO [] ?_ ?_<;>first|trivial|(simp[*,hR];done)))
 .have d:E3 C n c row s.ow W:=kd;have hm:m=c+n:=km;have ag:m<17:=k17;have hKK:=kK;unfold aN zcz at hKK;dsimp only at hKK
  have c7:W.ah.length=m:=by rw[hm];exact d.la
  have kF:=keep (hKK W.ah c7);clear kG kK kr kb kgo kun kC kg kW k17 hKK;obtain⟨rk,r1,r2,r3⟩:=d.rk
  have bf:∀j,j<m->nth W.sn j=true->(nth W.ah j=-1\/(0<=nth W.ah j/\nth W.ah j<(m:Int)/\nth W.sn (nth W.ah j).toNat=true)):=λj hj hn=>by
   rcases d.pth j (by omega) hn with ⟨h1,_⟩|⟨h1,h2,h3,_⟩
   .exact .inl h1
   .exact .inr ⟨h1,by rw[hm];exact h2,h3⟩
  have bd:∀j,j<m->nth W.sn j=true->0<=nth W.ah j->rk (nth W.ah j).toNat<rk j:=λj hj=>r2 j (by omega)
  have eA:∀f a (o:List Int),lU W.ah row (f+1) ((a:Nat):Int) o=lU W.ah row f (nth W.ah a) (o.set a (if nth W.ah a<0 then (row:Int) else nth o (nth W.ah a).toNat)):=λf a o=>by
   conv=>lhs;unfold lU
   rw[ar (by omega),bT]
  have eN:∀f (o:List Int),lU W.ah row f (-1) o=o:=λf o=>by
   cases f with
   |zero=>rfl
   |succ f=>unfold lU;rw[aB (by omega)]
  have a0:=d.a0;have a1:=d.a1;have a3:=d.a3;have d5:=r1 W.at_.toNat (by omega) a3;generalize hOW:lU W.ah row (m+1) W.at_ s.ow=OW at kF;generalize W.at_=at0 at *;generalize W.ah=ah at *;generalize W.sn=sn at *
  have kJ:aN (lU ah row (m+1) at0 s.ow=OW/\s.ow.length=m/\(at0=-1\/(0<=at0/\at0<(m:Int)/\nth sn at0.toNat=true/\rk at0.toNat<m+1))):=
   ⟨hOW,lo,.inr ⟨a0,by rw[hm];exact a1,a3,by omega⟩⟩
  have kV:=keep bf;have kk2:=keep bd;have kA:=keep eA;have kN:=keep eN;have k17:=keep ag;clear bf bd eA eN hOW a0 a1 a3 d5 r1 r2 r3 d kd ag hm km
  repeat' first|(with_reducible first|intro _)|(simp[*])
  refine df 10 (λ(y:Int×List Int×Nat)=>lU ah row y.2.2 y.1 y.2.1=OW/\y.2.1.length=m/\(y.1=-1\/(0<=y.1/\y.1<(m:Int)/\nth sn y.1.toNat=true/\rk y.1.toNat<y.2.2))) [0,1] (λ(y:Int×List Int×Nat)=>[(7,.w false false (.int .i64 y.1))]) [4,9,0,1] (λ(y:Int×List Int×Nat)=>[(3,iA y.2.1)]) (λ(y:Int×List Int×Nat)=>y.2.2) (λ(_u:Unit)=>True) [] (λ(_u:Unit)=>[]) [4,9,0,1] (λ(_u:Unit)=>[(3,iA OW)]) ((at0,s.ow,m+1)) kJ (aO [] (by simp) (by simp)) (λy hk=>?_) (λ_u hf=>?_)
  .clear kJ kF;obtain⟨a',o,f⟩:=y;obtain⟨hj,bh,ha⟩:=hk;dsimp only at hj bh ha ⊢;have eN:∀f (o:List Int),lU ah row f (-1) o=o:=kN
   rcases ha with ha|⟨h1,h2,h3,h4⟩
   .subst ha;rw[eN] at hj;clear kV kk2 kA kN k17 eN
    repeat' first|(with_reducible first|apply ai|apply aL|apply af|apply al|intro _)|(simp[*])
    all_goals first
     |omega
     |(refine aZ () ?_ ?_;(· trivial);(refine aD ?_ ?_<;>first|trivial|(simp[*,hj];done)))
   .obtain⟨a,rfl⟩:∃a:Nat,a'=a:=⟨a'.toNat,by omega⟩;rw[bT] at h3 h4
    have aq:a<m:=by omega
    obtain⟨f',rfl⟩:∃f',f=f'+1:=⟨f-1,by omega⟩;have hA:lU ah row (f'+1) ((a:Nat):Int) o=_:=kA f' a o;rw[hA] at hj
    have cm:a<ah.length:=by omega
    have b6:a<o.length:=by omega
    have cl:(0:Int)<=a:=by omega
    have hv:nth ah a=-1\/(0<=nth ah a/\nth ah a<(m:Int)/\nth sn (nth ah a).toNat=true):=kV a aq h3;have bc:0<=nth ah a->rk (nth ah a).toNat<rk a:=kk2 a aq h3;have dy:f'<f'+1:=yh _
    rcases hv with hv|⟨v1,v2,v3⟩
    .rw[hv,aB (by omega)] at hj;have kj:aN (lU ah row f' (-1) (o.set a (row:Int))=OW/\(o.set a (row:Int)).length=m/\((-1:Int)=-1\/(0<=(-1:Int)/\(-1:Int)<(m:Int)/\nth sn (-1:Int).toNat=true/\rk (-1:Int).toNat<f'))):=⟨hj,by rw[oB,bh],.inl rfl⟩;clear kV kk2 kA kN k17 eN hj hA bc h1 h2 h3 h4
     repeat' first|(with_reducible first|apply ai|apply aF|apply au|apply af|apply al|refine And.intro ?_ ?_|intro _)|(simp[*,cm,b6,c7,bh,hv,aq,cl])
     all_goals first
      |omega
      |assumption
      |(refine nx (-1,o.set a (row:Int),f') ?_ ?_;(· exact kj);(refine aD ?_ ?_<;>first|trivial|(simp[*];done)))
    .obtain⟨b,hb⟩:∃b:Nat,nth ah a=b:=⟨(nth ah a).toNat,by omega⟩;rw[hb,ar (by omega)] at hj;rw[hb] at v1 v2 v3 bc;rw[bT] at hj v3 bc
     have d8:b<o.length:=by omega
     have d7:b<m:=by omega
     have d6:¬((b:Nat):Int)<0:=by omega
     have dv:=bc (by omega)
     have kj:aN (lU ah row f' (b:Int) (o.set a (nth o b))=OW/\(o.set a (nth o b)).length=m/\((b:Int)=-1\/(0<=(b:Int)/\(b:Int)<(m:Int)/\nth sn (b:Int).toNat=true/\rk (b:Int).toNat<f'))):=
      ⟨hj,by rw[oB,bh],.inr ⟨by omega,by omega,by rw[bT];exact v3,by rw[bT];omega⟩⟩
     clear kV kk2 kA kN k17 eN hj hA bc h1 h2 h3 h4 dv v1 v2 v3
     repeat' first|(with_reducible first|apply ai|apply aF|apply au|apply af|refine aQ (id:=32) 13 mixed (by decide +kernel) ?_|apply al|refine And.intro ?_ ?_|intro _)|(simp[*,cm,b6,c7,bh,hb,d8,d7,aq,cl,d6])
     all_goals first
      |omega
      |assumption
      |(refine nx ((b:Int),o.set a (nth o b),f') ?_ ?_;(· exact kj);(refine aD ?_ ?_<;>first|trivial|(simp[*];done)))
  .clear kJ kV kk2 kA kN
   repeat' first|(with_reducible first|intro _)|(simp[*])
   all_goals first
    |(simp[dC,eX,gz,oneOf];exact kF)
theorem ze6{fk:Fk}{a b c:St}(h:Lek fk a b)(k:Lek fk b c):Lek fk a c:=λB w0 x w m hs=>let ⟨m',h'⟩:=h B w0 x w m hs;k B w0 x w m' h'
def zc0(L:List (List Int))(n m:Nat)(s:Hs):PV:=.ip [.sl n (l9 L),.sl n (ints s.u),.sl m (ints s.v),.sl m (ints s.ow),.undef] 0
theorem ze7(L:List (List Int))(n c m:Nat)(hm:m=c+n)(hL:L.length=n)(hh:∀i,i<n->(nth L i).length=m)(hp:Hp (λi j=>nth (nth L i) j) n c):aC Tz.prog 79 [.sl n (l9 L),.int .i64 m] (zc0 L n m (qc (λi j=>nth (nth L i) j) n m n)) false:=by
 have hA:=λr (hr:r<=n)=>zcj hp r hr
 have eA:∀r,qc (λi j=>nth (nth L i) j) n m (r+1)=tz (λi j=>nth (nth L i) j) m (qc (λi j=>nth (nth L i) j) n m r) r:=λ_=>rfl
 have e0:qc (λi j=>nth (nth L i) j) n m 0=⟨List.replicate n 0,List.replicate m 0,List.replicate m (-1)⟩:=rfl
 have hw:=λr (hr:r<n) (s:Hs) mi p0 K=>zgi L n c m hm hL hh hp r hr s mi p0 K
 rw[<-hm] at hA;generalize qc (λi j=>nth (nth L i) j) n m=A at *
 have hx:m<17:=by have:=hp.nn;have:=hp.cc;omega
 have ba:n<9:=by have:=hp.nn;omega
 have r1:=LO (-1) m (by omega);have i1:inI .i64 (n:Int):=aG (by omega) (by omega);have i2:inI .i64 (m:Int):=aG (by omega) (by omega)
 have i3:(n:Int)<=1000000000:=by omega
 have i4:(m:Int)<=1000000000:=by omega
 have kk:=keep (And.intro hA (And.intro eA (And.intro hw (And.intro hx ba))))
 have f1:iA (A 0).u=List.replicate n (.w false false (.int .i64 0)):=by rw[e0];simp[iA,ints]
 have f2:iA (A 0).v=List.replicate m (.w false false (.int .i64 0)):=by rw[e0];simp[iA,ints]
 have f3:(A 0).ow=List.replicate m (-1):=by rw[e0]
 clear hA eA hw hx ba e0 hp hh;unfold zc0;have kL:=keep hL;have km:=keep hm;clear hL hm;refine rcK Tz.func79 ?_;simp only[Tryz.results79,Tryz.ntmps79]
 repeat' first|(with_reducible first|apply ai|apply af|refine aQ (id:=1) 12 mixed (by decide +kernel) ?_|refine cwM (r1) ?_|intro _)|(simp[*,i1,i2,i3,i4])
 all_goals try first|omega|assumption
 clear r1;refine df 5 (λ(r:Nat)=>r<=n) [5,19] (λ(r:Nat)=>[(20,.w false false (.int .i64 r))]) [] (λ(r:Nat)=>[(4,[.w false false (.sl n (l9 L)),.msl 0 n 1 0 n,.msl 1 m 1 0 m,.msl 3 m 1 0 m,.w false false .undef]),(0,iA (A r).u),(1,iA (A r).v),(3,iA (A r).ow)]) (λ(r:Nat)=>n-r) (λ(_u:Unit)=>True) [5] (λ(_u:Unit)=>[]) [] (λ(_u:Unit)=>[(4,[.w false false (.sl n (l9 L)),.msl 0 n 1 0 n,.msl 1 m 1 0 m,.msl 3 m 1 0 m,.w false false .undef]),(0,iA (A n).u),(1,iA (A n).v),(3,iA (A n).ow)]) (0) (aK _) (aO [] (by simp[f1,f2,f3]) (by simp[f1,f2,f3])) (λr hk=>?_) (λ_u hf=>?_)
 .clear f1 f2 f3;by_cases h8:r<n
  .obtain⟨hA,eA,hw,hx,ba⟩:=kk;have aa:=hA r hk;have hs:=hw r h8 (A r) aa .undef;rw[<-eA r] at hs;have a6:inI .i64 ((r:Int)+1):=aG (by omega) (by omega)
   have hz:r+1<=n:=by omega
   unfold zcz at hs;have khs:=keep hs;clear hA eA hw hx ba aa hs
   repeat' first|(with_reducible first|refine rD (id:=5) 2 Tz.func117 (by kernel_rfl) (show Tryz.f117.body=some (Tryz.f117.body.getD .skip) from rfl) (by decide) rfl ?_|apply ai|apply aF|apply au|apply af|apply al|intro _)|(simp[*,h8,a6])
   all_goals try first|omega|assumption
   refine Bv (by decide) (by simp) rfl ?_;refine khs _ (λah dw=>?_);clear khs
   repeat' first|(with_reducible first|apply af|intro _)|(simp[*,h8,a6])
   refine wT _ _ _ _ _ (r+1) _ hz (by omega) (ze6 (b:=⟨[(20,.w false false (.int .i64 ((r:Int)+1))),(5,.ptr 4 5 0),(19,.w false false (.int .i64 n))],[(4,[.w false false (.sl n (l9 L)),.msl 0 n 1 0 n,.msl 1 m 1 0 m,.msl 3 m 1 0 m,.w false false (.sl m (ints ah))]),(0,iA (A (r+1)).u),(1,iA (A (r+1)).v),(3,iA (A (r+1)).ow)],5,28⟩) (aO [9] ?_ ?_) (aO [] ?_ ?_))
   all_goals first|trivial|(simp[*];done)
  .have a9:r=n:=by omega
   subst a9
   repeat' first|(with_reducible first|apply ai|apply aL|apply af|apply al|intro _)|(simp[*,h8])
   all_goals first
    |omega
    |(refine aZ () ?_ ?_;(· trivial);(refine aD ?_ ?_<;>first|trivial|(simp[*];done)))
 .clear f1 f2 f3;have aa:=kk.1 n (aE n);have c8:m=c+n:=km;have l1:=aa.lu
  have l2:(A n).v.length=m:=by rw[c8];exact aa.lv
  have l3:(A n).ow.length=m:=by rw[c8];exact aa.lo
  clear kk aa c8 km
  repeat' first|(with_reducible first|apply ai|apply az|apply af|intro _)|(simp[*,l1,l2,l3])
theorem ze8(x:Rd)(ok:b9 x):aC Tz.prog 80 [x.pv] (.sl x.os.length (l9 (lp x x.os.length))) true:=by
 have b3:=λi hi=>D4 x ok i hi
 have lo:=ok.lo;have lc:=ok.lc;have lw:=ok.lw;have lf:=ok.lf;have fr:=ok.fr;have wr:=ok.wr
 have eE:∀i j,tw x i j=if j<x.ab.length/\nth (nth x.fit i) j=true then nth (nth x.wt i) j else if j=x.ab.length+i then bw (prio x i) else 1000000000000000:=λ_ _=>rfl
 have eR:∀i,sO x i=(List.range (x.ab.length+x.os.length)).map (tw x i):=λ_=>rfl
 have eS:∀k,dS (lp x (k+1))=dS (lp x k)++[.w true false (.sl (x.ab.length+x.os.length) (ints (sO x k)))]:=λk=>zez x k
 have eL:∀k,(dS (lp x k)).length=k:=λk=>by simp
 have eSl:=zda x x.os.length
 have eRl:∀i,(sO x i).length=x.ab.length+x.os.length:=λi=>by simp
 have e0:dS (lp x 0)=[]:=rfl;generalize lp x=S at *;generalize sO x=R at *;generalize tw x=E at *;generalize prio x=pr at *;clear ok;obtain⟨ab,os,wt,zs,fit⟩:=x;unfold Rd.pv;simp only[] at *;have kk:=keep (And.intro b3 (And.intro lo (And.intro lc (And.intro lw (And.intro lf (And.intro fr (And.intro wr (And.intro eE (And.intro eR (And.intro eS eRl))))))))));clear b3 lo lc lw lf fr wr eE eR eS eRl;refine rcK Tz.func80 ?_;simp only[Tryz.results80,Tryz.ntmps80]
 repeat' first|(with_reducible first|apply ai|apply af|intro _)|(simp[*])
 refine df 1 (λ(k:Nat)=>k<=os.length) [0,3,19,20] (λ(k:Nat)=>[(4,.msl 0 k 1 0 k),(21,.w false false (.int .i64 k))]) [] (λ(k:Nat)=>[(0,dS (S k))]) (λ(k:Nat)=>os.length-k) (λ(_u:Unit)=>True) [] (λ(_u:Unit)=>[(4,.msl 0 os.length 1 0 os.length)]) [] (λ(_u:Unit)=>[(0,dS (S os.length))]) (0) (aK _) (aO [] (by simp[e0]) (by simp[e0])) (λk hk=>?_) (λ_u hf=>?_)
 .by_cases h8:k<os.length
  .obtain⟨b3,lo,lc,lw,lf,fr,wr,eE,eR,eS,eRl⟩:=kk;have h1:=b3 k h8
   have cx:k<fit.length:=by omega
   have cy:k<wt.length:=by omega
   have aw:=fr k h8;have ay:=wr k h8;have h6:(nth os k).2.2.2=((pr k:Nat):Int):=h1.2.symm;have eE2:=eE k;have eR2:=eR k;have eS2:=eS k;have eRl2:=eRl k;have c1:=sw (pr k) h1.1;generalize bw (pr k)=pp at *;have a8:inI .i64 ((k:Int)+1):=aG (by omega) (by omega)
   have hz:k+1<=os.length:=by omega
   obtain⟨nn,ao⟩:∃nn,nn=ab.length+os.length:=⟨_,rfl⟩
   have b7:(ab.length:Int)+(os.length:Int)=(nn:Int):=by omega
   have hin:inI .i64 (nn:Int):=aG (by omega) (by omega)
   have ba:(nn:Int)<=1000000000:=by omega
   rw[<-ao] at eR2 eS2 eRl2
   have eA:eZ (E k) 0 nn nn=R k:=by rw[zc9,eR2]
   have k1:=keep (And.intro lo (And.intro lc (And.intro aw (And.intro ay (And.intro eE2 (And.intro ao a8))))));clear b3 lo lc lw lf fr wr h1 eE eE2 eR eR2 eRl eS aw ay ao a8;have e00:=zc8 (E k) 0 nn
   repeat' first|(with_reducible first|apply ai|apply aF|apply au|apply af|apply al|refine And.intro ?_ ?_|intro _)|(simp[*,h8,b7,hin,Tw.cg])
   all_goals try first
    |omega
    |assumption
   refine df 3 (λ(j:Nat)=>j<=nn) [0,3,4,5,6,7,19,20,21,36] (λ(j:Nat)=>[(37,.w false false (.int .i64 j))]) [0,1] (λ(j:Nat)=>[(2,iA (eZ (E k) 0 nn j))]) (λ(j:Nat)=>nn-j) (λ(_u:Unit)=>True) [0,3,4,7,19,20,21] (λ(_u:Unit)=>[]) [0,1] (λ(_u:Unit)=>[(2,iA (R k))]) (0) (aK _) (aO [] (by simp[e00]) (by simp[e00])) (λj hk=>?_) (λ_u hf=>?_)
   .clear e00;by_cases b4:j<nn
    .obtain⟨lo,lc,aw,ay,eE2,ao,a8⟩:=k1;have es:=zc7 (E k) 0 nn j b4;have el:=zcc (E k) 0 nn j hk;have bg:inI .i64 ((j:Int)+1):=aG (by omega) (by omega);have c4:inI .i64 ((ab.length:Int)+k):=aG (by omega) (by omega)
     have bv:j+1<=nn:=by omega
     have eEj:=eE2 j;rw[eEj] at es;generalize eZ (E k) 0 nn j=Lj at *;by_cases ax:j<ab.length
     .have cu:j<(nth fit k).length:=by omega
      have cv:j<(nth wt k).length:=by omega
      have c5:¬(j:Int)=(ab.length:Int)+k:=by omega
      have a7:¬j=ab.length+k:=by omega
      cases hb:nth (nth fit k) j with
      |true=>
       rw[aB ⟨ax,hb⟩] at es;clear lo lc aw ay eE2 ao a8 eEj eA eS2 c1
       repeat' first|(with_reducible first|apply ai|apply aF|apply au|apply af|apply al|intro _)|(simp[*,b4,ax,cx,cy,cu,cv,hb,h8,el,bg])
       all_goals first
        |omega
        |assumption
        |(refine nx (j+1) ?_ ?_;(· exact bv);(refine aD ?_ ?_<;>first|trivial|(simp[*,es];done)))
      |false=>
       rw[ar (by rw[hb];simp),ar a7] at es;clear lo lc aw ay eE2 ao a8 eEj eA eS2 c1
       repeat' first|(with_reducible first|apply ai|apply aF|apply au|apply af|apply al|intro _)|(simp[*,b4,ax,cx,cy,cu,cv,hb,h8,el,bg,c4,c5])
       all_goals first
        |omega
        |assumption
        |(refine nx (j+1) ?_ ?_;(· exact bv);(refine aD ?_ ?_<;>first|trivial|(simp[*,es];done)))
     .by_cases a7:j=ab.length+k
      .have d9:(ab.length:Int)+k=(j:Int):=by omega
       have dz:inI .i64 (j:Int):=aG (by omega) (by omega);rw[ar (by intro h;exact ax h.1),aB a7] at es;clear lo lc aw ay eE2 ao a8 eEj eA eS2 c4 a7
       repeat' first|(with_reducible first|apply ai|apply aF|apply au|apply af|apply al|refine And.intro ?_ ?_|refine cw (c1) ?_|intro _)|(simp[*,b4,ax,h8,el,bg,d9,Tw.cg,h6])|(refine ae (c1) ?_ ?_;(· (simp[*];done)))
       all_goals first
        |omega
        |assumption
        |(refine nx (j+1) ?_ ?_;(· exact bv);(refine aD ?_ ?_<;>first|trivial|(simp[*,es];done)))
      .have c5:¬(j:Int)=(ab.length:Int)+k:=by omega
       rw[ar (by intro h;exact ax h.1),ar a7] at es;clear lo lc aw ay eE2 ao a8 eEj eA eS2 c1
       repeat' first|(with_reducible first|apply ai|apply aF|apply au|apply af|apply al|intro _)|(simp[*,b4,ax,h8,el,bg,c4,c5])
       all_goals first
        |omega
        |assumption
        |(refine nx (j+1) ?_ ?_;(· exact bv);(refine aD ?_ ?_<;>first|trivial|(simp[*,es];done)))
    .have a9:j=nn:=by omega
     subst a9;clear k1
     repeat' first|(with_reducible first|apply ai|apply aL|apply af|apply al|intro _)|(simp[*,b4])
     all_goals first
      |omega
      |(refine aZ () ?_ ?_;(· trivial);(refine aD ?_ ?_<;>first|trivial|(simp[*,eA];done)))
   .clear e00 eA;have a8:inI .i64 ((k:Int)+1):=k1.2.2.2.2.2.2;clear k1
    repeat' first|(with_reducible first|apply af|refine And.intro ?_ ?_|intro _)|(simp[*,h8,a8,eRl2])
    all_goals first
     |omega
     |assumption
     |(refine nx (k+1) ?_ ?_;(· exact hz);(refine aO [2] ?_ ?_<;>first|trivial|(simp[*,eS2,eRl2];done)))
  .have a9:k=os.length:=by omega
   subst a9
   repeat' first|(with_reducible first|apply ai|apply aL|apply af|apply al|intro _)|(simp[*,h8])
   all_goals first
    |omega
    |(refine aZ () ?_ ?_;(· trivial);(refine aD ?_ ?_<;>first|trivial|(simp[*];done)))
 .clear e0 eL
  repeat' first|(with_reducible first|apply ai|apply az|apply af|intro _)|(simp[*,eSl])
end Go.Proofs.YthpkmilhiganjaaGreat
namespace Go.Proofs.YthpkmilhiganjaaGreat
open Go Go.Fi
theorem ze9(x:Rd)(plan:List Int)(h:(dh x plan).2=0):PlanIn x plan:=by
 unfold dh at h;split at h
 .exact absurd h (show (10:Int)≠0 by decide)
 .rename_i hl
  have hz:=λj hj=>D8 h j hj
  refine⟨by have:=oz.1 hl;omega,λk hk=>?_⟩;have h1:=hz k hk;simp only[cY] at h1;unfold ji at h1;by_cases hn:nth plan k=-1
  .exact .inl hn
  .rw[ar hn] at h1;split at h1
   .rename_i h2;exact absurd h1 h2
   .rename_i h2;have:=mO.1 (nU (by decide) (oz.1 h2));exact .inr ⟨this.1,by omega⟩
noncomputable instance instLD23:av:=LD
noncomputable instance instLD37:av:=LD
def C9(x:Rd)(i j:Nat):Int:=nth (nth (lp x x.os.length) i) j
theorem C3{α:Type}[Inhabited α](f:Nat->α)(n j:Nat)(h:j<n):nth ((List.range n).map f) j=f j:=by
 simp[nth,bS,h]
theorem EO(x:Rd)(i j:Nat)(hi:i<x.os.length)(hj:j<x.ab.length+x.os.length):C9 x i j=tw x i j:=by
 unfold C9 lp;rw[C3 _ _ _ hi];unfold sO;rw[C3 _ _ _ hj]
theorem EX(x:Rd)(ok:b9 x):Hp (C9 x) x.os.length x.ab.length:=by
 refine⟨ok.lo,ok.lc,λi hi=>?_,λi l hi hl dr=>?_,λi j hi hj=>?_⟩
 .rw[EO x i _ hi (by omega)];unfold tw;rw[ar (by omega),aB rfl];have:=nz (prio x i) (D4 x ok i hi).1;omega
 .rw[EO x i _ hi (by omega)];unfold tw;rw[ar (by omega),ar (by omega)]
 .rw[EO x i _ hi (by omega)];unfold tw;by_cases hf:nth (nth x.fit i) j=true
  .rw[aB ⟨hj,hf⟩];have:=ok.wn i hi j hj;omega
  .rw[ar (λh=>hf h.2),ar (by omega)];exact .inl rfl
noncomputable def fh(x:Rd):Hs:=qc (C9 x) x.os.length (x.ab.length+x.os.length) x.os.length
noncomputable def bl(x:Rd):List Int:=kQ (fh x).ow x.os.length x.ab.length
noncomputable def bO(x:Rd):List Int:=(List.range x.ab.length).map λk=>-(nth (fh x).v k)
noncomputable def cq(x:Rd):List Int:=(List.range x.os.length).map λi=>ft x i (bO x)
theorem LP(x:Rd)(ok:b9 x):MI (C9 x) x.os.length x.ab.length x.os.length (fh x).u (fh x).v (fh x).ow:=zcj (EX x ok) _ (aE _)
theorem zdm(x:Rd)(ok:b9 x)(k:Nat)(hk:k<x.ab.length):0<=nth (bO x) k/\nth (bO x) k<=1000000000000:=by
 have m:=LP x ok;unfold bO;rw[C3 _ _ _ hk];have h1:=m.hv k (by omega);have h2:=m.vb (EX x ok) (aE _) (j:=k) (by omega);omega
theorem zdn(tk:List Int)(n:Nat):∀c,(∀k,k<c->nth tk k<(n:Int))->∀i,nth (kQ tk n c) i=-1\/(0<=nth (kQ tk n c) i/\nth (kQ tk n c) i<(c:Int))\/n<=i
 |0,_,i=>by
  by_cases h:i<n
  .left;exact C1 _ _ _ h
  .exact .inr (.inr (by omega))
 |c+1,h,i=>by
  have ih:=zdn tk n c (λk hk=>h k (by omega)) i;have hc:=h c (by omega);unfold kQ;by_cases h0:0<=nth tk c
  .rw[aB h0,ku _ _ _ _ (by rw[z7];omega)];split
   .right;left;omega
   .rcases ih with h1|h1|h1
    .exact .inl h1
    .right;left;omega
    .exact .inr (.inr h1)
  .rw[ar h0]
   rcases ih with h1|h1|h1
   .exact .inl h1
   .right;left;omega
   .exact .inr (.inr h1)
theorem zdo(x:Rd)(ok:b9 x):PlanIn x (bl x):=by
 have m:=LP x ok;refine⟨z7 _ _ _,λk hk=>?_⟩
 have e2:k<x.os.length:=by rw[<-z7 (fh x).ow x.os.length x.ab.length];exact hk
 rcases zdn (fh x).ow x.os.length x.ab.length (λk hk=>by rcases m.how k (by omega) with h|h<;>omega) k with h|h|h
 .exact .inl h
 .exact .inr h
 .omega
noncomputable def zc1(x:Rd):PV:=.agg [.sl x.os.length (ints (bl x)),.int .i64 (kx x (bl x)),.sl x.os.length (ints (cq x)),.sl x.ab.length (ints (bO x))]
def zc2:PV:=.agg [.sl 0 [],.int .i64 0,.sl 0 [],.sl 0 []]
theorem zfa(r:Tw.RND)(h:ceR r≠0):aC Tz.prog 25 [Tw.aM r] (.tup [zc2,.int .i64 (ceR r)]) false:=by
 have c1:=dI r;rw[k8 r h] at c1;unfold zc2;generalize ceR r=e at *;unfold Tw.aM at *;generalize r.cz=p1 at *;generalize r.osP=p2 at *;generalize r.cT=p3 at *;generalize r.zsP=p4 at *;refine rcK Tz.func25 ?_;simp only[Tryz.results25,Tryz.ntmps25]
 repeat' first|(with_reducible first|apply ai|apply az|apply af|apply al|refine And.intro ?_ ?_|refine cw (c1) ?_|intro _)|(simp[*])|(refine ae (c1) ?_ ?_;(· (simp[*];done)))
def mC(f:Nat->Int):Nat->Int
 |0=>0
 |k+1=>mC f k+f k
theorem LR{f g:Nat->Int}:∀n,(∀k,k<n->f k<=g k)->mC f n<=mC g n
 |0,_=>mZ _
 |n+1,h=>by
  have:=LR n (λk hk=>h k (by omega));have:=h n (by omega);unfold mC;omega
theorem zcl{f g:Nat->Int}(n:Nat)(h:∀k,k<n->f k=g k):mC f n=mC g n:=
 Dj (LR n λk hk=>Int.le_of_eq (h k hk)) (LR n λk hk=>Int.le_of_eq (h k hk).symm)
theorem zdp{f g:Nat->Int}{c:Nat}{v:Int}:∀n,c<n->(∀k,k<n->k≠c->g k=f k)->g c=f c+v->mC g n=mC f n+v
 |n+1,hc,h,hv=>by
  unfold mC;by_cases e:c=n
  .subst e;have:=zcl (f:=g) (g:=f) c (λk hk=>h k (by omega) (by omega));omega
  .have:=zdp n (by omega) (λk hk hn=>h k (by omega) hn) hv;have:=h n (by omega) (λe'=>e e'.symm);omega
theorem zcm(l:List Int):∀n,bW l n=mC (nth l) n
 |0=>rfl
 |n+1=>by unfold bW mC;rw[zcm l n]
def mH(pc plan:List Int):Nat->Int
 |0=>0
 |k+1=>if nth plan k=-1 then mH pc plan k else mH pc plan k+nth pc (nth plan k).toNat
structure Bm(x:Rd)(plan:List Int):Prop extends PlanIn x plan where
 fit:∀k,k<plan.length->nth plan k≠-1->nth (nth x.fit k) (nth plan k).toNat=true
 once:∀k,k<plan.length->nth plan k≠-1->∀j,j<k->nth plan j≠nth plan k
theorem zfb{p:Int->Bool}{l:List Int}{k:Nat}(h:(l.take k).any p=false){j:Nat}(hj:j<k)(hl:j<l.length):p (nth l j)=false:=by
 have:=mY.1 h (nth l j) (by
  rw[yk];refine⟨j,by omega,?_⟩
  simp[nth,bS,da hl])
 simpa using this
theorem zfc(x:Rd)(plan:List Int)(h:(dh x plan).2=0):Bm x plan:=by
 have hin:=ze9 x plan h
 have hz:∀k,k<plan.length->nth plan k≠-1->nth (nth x.fit k) (nth plan k).toNat=true/\((plan.take k).any λy=>decide (nth plan k=y))=false:=λk hk hn=>by
  unfold dh at h;split at h
  .exact absurd h (show (10:Int)≠0 by decide)
  .have h1:=D8 h k hk;simp only[cY] at h1;unfold ji at h1;rw[ar hn] at h1;split at h1
   .rename_i h2;exact absurd h1 h2
   .obtain⟨h3,h4⟩:=lV h1;obtain⟨h5,_⟩:=lV h4;exact⟨nU (by decide) h3,not_true (nU (by decide) h5)⟩
 exact⟨hin,λk hk hn=>(hz k hk hn).1,λk hk hn j hj e=>by
  have:=zfb (hz k hk hn).2 hj (by omega);rw[e] at this
  simp at this⟩
theorem zcn(x:Rd)(pc plan:List Int)(h:Bm x plan):∀k,k<=plan.length->mH pc plan k=mC (λc=>if (plan.take k).contains (c:Int) then nth pc c else 0) x.ab.length
 |0,_=>by
  have:∀n,mC (λc=>if (plan.take 0).contains (c:Int) then nth pc c else 0) n=0:=λn=>by
   induction n with
   |zero=>rfl
   |succ n ih=>unfold mC;rw[ih];simp
  rw[this];rfl
 |k+1,hk=>by
  have ih:=zcn x pc plan h k (by omega)
  have ht:plan.take (k+1)=plan.take k++[nth plan k]:=by
   rw[sV (by omega)];simp[nth,bS,da (show k<plan.length by omega)]
  unfold mH;by_cases hn:nth plan k=-1
  .rw[aB hn,ih]
   refine zcl _ λc hc=>?_
   rw[ht,hn]
   have:((c:Int) == -1)=false:=by first|(simp;done)|(simp;omega)
   simp[List.contains_append,this]
  .rw[ar hn,ih];have hr:=(h.at_ k (by omega)).resolve_left hn;have cf:=h.once k (by omega) hn;refine (zdp (c:=(nth plan k).toNat) _ (by omega) (λc hc dr=>?_) ?_).symm
   .rw[ht]
    have c9:¬(c:Int)=nth plan k:=by omega
    simp[c9]
   .have e:(((nth plan k).toNat:Nat):Int)=nth plan k:=by omega
    rw[e,ht]
    have dt:¬nth plan k∈plan.take k:=by
     intro hc;rw[yk] at hc;obtain⟨j,hj,e⟩:=hc;exact cf j (by omega) (by rw[<-e];simp[nth,bS,da (show j<plan.length by omega)])
    simp[dt]
theorem zfd(x:Rd)(pc plan:List Int)(h:Bm x plan)(hp:∀c,c<x.ab.length->0<=nth pc c):mH pc plan plan.length<=bW pc x.ab.length:=by
 rw[zcn x pc plan h _ (aE _),zcm]
 refine LR _ λc hc=>?_
 have:=hp c hc
 split<;>omega
theorem zc3(row:List Bool)(w p:List Int)(m0:Int):∀n,mK row w p m0 n<=m0/\∀k,k<n->nth row k=true->mK row w p m0 n<=nth w k+nth p k
 |0=>⟨mZ _,λk hk=>absurd hk (by omega)⟩
 |n+1=>by
  obtain⟨h1,h2⟩:=zc3 row w p m0 n;unfold mK;refine⟨?_,λk hk hr=>?_⟩
  .split
   .split<;>omega
   .exact h1
  .by_cases e:k=n
   .subst e;rw[aB hr]
    split<;>omega
   .have:=h2 k (by omega) hr;split
    .split<;>omega
    .exact this
theorem zdq{x:Rd}{pc:List Int}:∀{l:List Int}{k:Nat},Bd x pc l k=false->∀j,j<l.length->nth l j<=ft x (k+j) pc
 |[],_,_,j,hj=>absurd hj (by simp)
 |n::r,k,h,j,hj=>by
  unfold Bd at h;rw[Bool.or_eq_false_iff] at h
  cases j with
  |zero=>
   have:=h.1;simp at this;simpa[nth] using this
  |succ j=>
   have:=zdq h.2 j (by simpa using hj);rw[show k+1+j=k+(j+1) by omega] at this;simpa[nth] using this
theorem zdr(x:Rd)(ok:b9 x)(po pc plan:List Int)(h:Bm x plan)(hl:po.length=x.os.length)(ho:∀i,i<po.length->nth po i<=ft x i pc):∀k,k<=plan.length->ic x x.os.length-ic x k+bW po k-mH pc plan k<=eB x plan k
 |0,_=>by unfold eB mH;simp
 |k+1,hk=>by
  have ih:=zdr x ok po pc plan h hl ho k (by omega)
  have c6:k<x.os.length:=by have:=h.len;omega
  have h1:=ho k (by omega);have h2:=zc3 (nth x.fit k) (nth x.wt k) pc (bw (nth x.os k).2.2.2.toNat) (nth x.fit k).length;unfold ft at h1
  rw[show eB x plan (k+1)=if nth plan k=-1 then eB x plan k else eB x plan k+(sZ x k (nth plan k)-bw (prio x k)) from rfl,show mH pc plan (k+1)=if nth plan k=-1 then mH pc plan k else mH pc plan k+nth pc (nth plan k).toNat from rfl,
   show ic x (k+1)=ic x k+bw (prio x k) from rfl,show bW po (k+1)=bW po k+nth po k from rfl]
  unfold sZ prio;by_cases hn:nth plan k=-1
  .rw[aB hn,aB hn];have:=h2.1;omega
  .rw[ar hn,ar hn];have hr:=(h.at_ k (by omega)).resolve_left hn;have h3:=h2.2 (nth plan k).toNat (by rw[ok.fr k c6];omega) (h.fit k (by omega) hn);omega
theorem zfe(x:Rd)(ok:b9 x)(po pc plan:List Int)(h:(dh x plan).2=0)(hl:po.length=x.os.length)(hc:pc.length=x.ab.length)(hp:(C8 x po pc).2=0):(C8 x po pc).1<=kx x plan:=by
 have hk:=zfc x plan h;unfold C8 at hp ⊢;split at hp
 .exact absurd hp (show (2:Int)≠0 by decide)
 rename_i g1;split at hp
 .exact absurd hp (show (2:Int)≠0 by decide)
 rename_i g2;split at hp
 .exact absurd hp (show (20:Int)≠0 by decide)
 rename_i g3;rw[ar g1,ar g2,ar g3]
 have h0:∀c,c<x.ab.length->0<=nth pc c:=λc dx=>by
  have:=mY.1 (by simpa using g2:pc.any n5=false) (nth pc c) (by
   rw[nth,bS,da (by omega)];exact Dh _)
  simp only[n5,Bool.not_eq_true,ym] at this;exact (mO.1 this).1
 have h1:=zdr x ok po pc plan hk hl (λi hi=>by have:=zdq (by simpa using g3) i hi;rwa [cY] at this) plan.length (aE _);have h2:=zfd x pc plan hk h0;have e1:plan.length=x.os.length:=hk.len;unfold kx;rw[e1] at h1 ⊢;rw[hl,hc];rw[e1] at h2;simp only[];omega
end Go.Proofs.YthpkmilhiganjaaGreat
