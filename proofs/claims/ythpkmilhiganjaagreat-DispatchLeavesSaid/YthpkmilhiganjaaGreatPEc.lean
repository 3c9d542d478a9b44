/- Lemmas. -/
import Derived.Test.YthpkmilhiganjaaGreatPEb
import Derived.Test.YthpkmilhiganjaaGreatPLd
import Derived.Test.YthpkmilhiganjaaGreatPEa
set_option linter.all false
set_option maxHeartbeats 32000000
set_option maxRecDepth 100000
namespace Go.Proofs.YthpkmilhiganjaaGreat
open Go Go.Fi
variable[av]
def zdg(L:List (List Int))(n m:Nat)(u v ow ah:List Int):ak:=
 [(3,iA ow),(4,[.w false false (.sl n (m6 L)),.msl 0 n 1 0 n,.msl 1 m 1 0 m,.msl 3 m 1 0 m,.msl 9 m 1 0 m]),(9,iA ah),(0,iA u),(1,iA v)]
theorem zg8(L:List (List Int))(n c m:Nat)(hm:m=c+n)(hL:L.length=n)(h9:∀i,i<n->(nth L i).length=m)(hp:Hp (λi j=>nth (nth L i) j) n c)(row:Nat)(hr:row<n)(s:Hs)(mi:MI (λi j=>nth (nth L i) j) n c row s.u s.v s.ow)(p0:PV)(K:AV->ak->Nat->Prop)(hK:∀ah,ah.length=m->K (.tup []) (zdg L n m (tE (λi j=>nth (nth L i) j) m s row).u (tE (λi j=>nth (nth L i) j) m s row).v (tE (λi j=>nth (nth L i) j) m s row).ow ah) 10):bm ⟨5,none⟩ Tz.prog (Tryz.f117.body.getD .skip) ⟨dR 0 ([.ptr 4 5 0,.w false false (.int .i64 row)]),[(4,[.w false false (.sl n (m6 L)),.msl 0 n 1 0 n,.msl 1 m 1 0 m,.msl 3 m 1 0 m,.w false false p0]),(0,iA s.u),(1,iA s.v),(3,iA s.ow)],5,Tryz.f117.ntmps⟩ (fp Tz.prog Tryz.f117.results.toList K):=by
 have d:=zdx hp hr mi;have g0:=zdw (c:=c) (row:=row) mi
 have eG:∀f w,rE (λi j=>nth (nth L i) j) m s.ow row (f+1) w=if nth s.ow (bo (λi j=>nth (nth L i) j) m w).next.toNat<0 then dX (λi j=>nth (nth L i) j) m s.ow row w else rE (λi j=>nth (nth L i) j) m s.ow row f (dX (λi j=>nth (nth L i) j) m s.ow row w):=λ_ _=>rfl
 have hS:tE (λi j=>nth (nth L i) j) m s row=⟨(pw (λi j=>nth (nth L i) j) m s row).u,(pw (λi j=>nth (nth L i) j) m s row).v,hH (pw (λi j=>nth (nth L i) j) m s row).ah row (m+1) (pw (λi j=>nth (nth L i) j) m s row).at_ s.ow⟩:=rfl;rw[hS] at hK;clear hS
 have hW:rE (λi j=>nth (nth L i) j) m s.ow row (cM (ws0 m s row).sn+1) (ws0 m s row)=pw (λi j=>nth (nth L i) j) m s row:=by
  rw[show cM (ws0 m s row).sn=m from zdr m];rfl
 have hh:m<17:=by have:=hp.nn;have:=hp.cc;omega
 have hC:(λi j=>nth (nth L i) j)=λi j=>nth (nth L i) j:=rfl
 have bq:∀w,GI (λi j=>nth (nth L i) j) n c row s.ow w->zdf (λi j=>nth (nth L i) j) n m row s.ow w:=λw g=>by rw[hm];exact zfu hp hr g
 have hgo:∀w,GI (λi j=>nth (nth L i) j) n c row s.ow w->¬nth s.ow (bo (λi j=>nth (nth L i) j) m w).next.toNat<0->GI (λi j=>nth (nth L i) j) n c row s.ow (dX (λi j=>nth (nth L i) j) m s.ow row w):=λw g h=>by rw[hm] at h ⊢;exact zdu hp hr g h
 have a4:∀w,GI (λi j=>nth (nth L i) j) n c row s.ow w->cM (dX (λi j=>nth (nth L i) j) m s.ow row w).sn+1=cM w.sn:=λw g=>by rw[hm];exact zcq hp hr g
 rw[<-hm] at d g0;have lu:=mi.lu
 have lv:s.v.length=m:=by rw[hm];exact mi.lv
 have lo:s.ow.length=m:=by rw[hm];exact mi.lo
 clear hC hp mi
 obtain⟨C,hC⟩:∃C:Nat->Nat->Int,C=λi j=>nth (nth L i) j:=⟨_,rfl⟩
 have hCe:∀i j,C i j=nth (nth L i) j:=λi j=>by rw[hC]
 rw[<-hC] at d g0 eG hK hW bq hgo a4;clear hC;generalize pw C m s row=W at d hK hW;have r1:=WK 10000000000000000 m (by omega);have r2:=WK (-1) m (by omega);have a9:inI .i64 (m:Int):=aG (by omega) (by omega)
 have dg:(m:Int)<=1000000000:=by omega
 have kd:=keep d;have kG:=keep eG;have kK:=keep hK;have kr:=keep h9;have kb:=keep bq;have kgo:=keep hgo;have kun:=keep a4;have kC:=keep hCe;have kg:=keep g0;have kW:=keep hW;have km:=keep hm;have k17:=keep hh;clear d eG hK h9 bq hgo a4 hCe g0 hW hm hh;have hb:Tryz.f117.body=some _:=rfl;rw[hb];clear hb;simp only[gk,Tryz.ntmps117,Tryz.results117]
 repeat' first|(with_reducible first|apply GZ|apply G0|apply ai|apply af|refine aQ (id:=1) 7 mixed (by decide +kernel) ?_|refine cwM (r1) ?_|refine cwM (r2) ?_|intro _)|(simp[*,lv,a9,dg])
 clear r1 r2;refine df 10 (λ(w:Ws)=>GI C n c row s.ow w/\rE C m s.ow row (cM w.sn+1) w=W) [0,1,4,5,6] (λ(w:Ws)=>[(7,.w false false (.int .i64 w.at_)),(8,.w false false (.int .i64 w.i))]) [4,3] (λ(w:Ws)=>[(7,bA w.sn),(6,iA w.sl),(9,iA w.ah),(0,iA w.u),(1,iA w.v)]) (λ(w:Ws)=>cM w.sn) (λ(_u:Unit)=>True) [0,1] (λ(_u:Unit)=>[(7,.w false false (.int .i64 W.at_))]) [4,3] (λ(_u:Unit)=>[(9,iA W.ah),(0,iA W.u),(1,iA W.v)]) (ws0 m s row) ⟨kg,kW⟩ (aO [] (by simp[ws0,zdz]) (by simp[ws0,zdz])) (λw hk=>?_) (λ_u hf=>?_)
 .obtain⟨hg,hx⟩:=hk;have hb:zdf C n m row s.ow w:=kb w hg;have h8:¬nth s.ow (bo C m w).next.toNat<0->GI C n c row s.ow (dX C m s.ow row w):=kgo w hg;have a4:cM (dX C m s.ow row w).sn+1=cM w.sn:=kun w hg
  have co:rE C m s.ow row (cM w.sn+1) w=if nth s.ow (bo C m w).next.toNat<0 then dX C m s.ow row w else rE C m s.ow row (cM w.sn) (dX C m s.ow row w):=kG _ w
  rw[co,<-a4] at hx;have hCe:∀i j,C i j=nth (nth L i) j:=kC;have d2:∀i,i<n->(nth L i).length=m:=kr;have aa:m<17:=k17;clear kd kG kK kb kgo kun kg kW kr k17 co hg;obtain⟨u,v,sl,ah,sn,at_,i⟩:=w;have hin:=hb.hin;have wu:=hb.lu;have wv:=hb.lv;have wl:=hb.ls;have wa:=hb.la;have wn:=hb.ln;have bnv:=hb.nv;have bsk:=hb.sk;have bur:=hb.ur;have btk:=hb.tk;have bts:=hb.ts;have btf:=hb.tf;have bnx:=hb.nx;dsimp only at hin wu wv wl wa wn bnv bsk bur btk bts btf bnx h8 a4 hx ⊢;have eS0:bB C u v sn i at_ sl ah 0=⟨sl,ah,10000000000000000,-1⟩:=rfl
  have eSs:∀k,bB C u v sn i at_ sl ah (k+1)=if nth sn k=true then bB C u v sn i at_ sl ah k else
   if nth (if nvS C u v i k<nth (bB C u v sn i at_ sl ah k).sl k then (⟨(bB C u v sn i at_ sl ah k).sl.set k (nvS C u v i k),(bB C u v sn i at_ sl ah k).ah.set k at_,(bB C u v sn i at_ sl ah k).least,(bB C u v sn i at_ sl ah k).next⟩:ScS) else bB C u v sn i at_ sl ah k).sl k <
    (if nvS C u v i k<nth (bB C u v sn i at_ sl ah k).sl k then (⟨(bB C u v sn i at_ sl ah k).sl.set k (nvS C u v i k),(bB C u v sn i at_ sl ah k).ah.set k at_,(bB C u v sn i at_ sl ah k).least,(bB C u v sn i at_ sl ah k).next⟩:ScS) else bB C u v sn i at_ sl ah k).least
   then ⟨(if nvS C u v i k<nth (bB C u v sn i at_ sl ah k).sl k then (⟨(bB C u v sn i at_ sl ah k).sl.set k (nvS C u v i k),(bB C u v sn i at_ sl ah k).ah.set k at_,(bB C u v sn i at_ sl ah k).least,(bB C u v sn i at_ sl ah k).next⟩:ScS) else bB C u v sn i at_ sl ah k).sl,
    (if nvS C u v i k<nth (bB C u v sn i at_ sl ah k).sl k then (⟨(bB C u v sn i at_ sl ah k).sl.set k (nvS C u v i k),(bB C u v sn i at_ sl ah k).ah.set k at_,(bB C u v sn i at_ sl ah k).least,(bB C u v sn i at_ sl ah k).next⟩:ScS) else bB C u v sn i at_ sl ah k).ah,
    nth (if nvS C u v i k<nth (bB C u v sn i at_ sl ah k).sl k then (⟨(bB C u v sn i at_ sl ah k).sl.set k (nvS C u v i k),(bB C u v sn i at_ sl ah k).ah.set k at_,(bB C u v sn i at_ sl ah k).least,(bB C u v sn i at_ sl ah k).next⟩:ScS) else bB C u v sn i at_ sl ah k).sl k,k⟩
   else (if nvS C u v i k<nth (bB C u v sn i at_ sl ah k).sl k then (⟨(bB C u v sn i at_ sl ah k).sl.set k (nvS C u v i k),(bB C u v sn i at_ sl ah k).ah.set k at_,(bB C u v sn i at_ sl ah k).least,(bB C u v sn i at_ sl ah k).next⟩:ScS) else bB C u v sn i at_ sl ah k):=λ_=>rfl
  have eW:bo C m ⟨u,v,sl,ah,sn,at_,i⟩=bB C u v sn i at_ sl ah m:=rfl
  have eR:dX C m s.ow row ⟨u,v,sl,ah,sn,at_,i⟩=⟨(dS sn s.ow (bB C u v sn i at_ sl ah m).least (u.set row (nth u row+(bB C u v sn i at_ sl ah m).least)) v (bB C u v sn i at_ sl ah m).sl m).1,(dS sn s.ow (bB C u v sn i at_ sl ah m).least (u.set row (nth u row+(bB C u v sn i at_ sl ah m).least)) v (bB C u v sn i at_ sl ah m).sl m).2.1,
   (dS sn s.ow (bB C u v sn i at_ sl ah m).least (u.set row (nth u row+(bB C u v sn i at_ sl ah m).least)) v (bB C u v sn i at_ sl ah m).sl m).2.2,(bB C u v sn i at_ sl ah m).ah,sn.set (bB C u v sn i at_ sl ah m).next.toNat true,(bB C u v sn i at_ sl ah m).next,(nth s.ow (bB C u v sn i at_ sl ah m).next.toNat).toNat⟩:=rfl
  rw[eW] at bur btk bts btf bnx h8 hx;generalize dX C m s.ow row ⟨u,v,sl,ah,sn,at_,i⟩=w' at eR h8 a4 hx;clear eW hb;generalize bB C u v sn i at_ sl ah=S at *;have kS:=keep eSs;have knv:=keep bnv;have ksk:=keep bsk;have kC2:=keep hCe;have kur:=keep bur;have ktk:=keep btk;have kts:=keep bts;have ktf:=keep btf;have knx:=keep bnx;have kcon:=keep h8;have kun:=keep a4;have kgw:=keep hx;have kR:=keep eR;have krw:=keep d2;have k17:=keep aa;clear eSs bnv bsk hCe bur btk bts btf bnx h8 a4 hx eR d2 aa
  repeat' first|(with_reducible first|apply ai|apply aF|apply af|intro _)|(simp[*])
  refine df 10 (λ(k:Nat)=>k<=m) [0,1,4,5,6,7,8,32] (λ(k:Nat)=>[(9,.w false false (.int .i64 (S k).least)),(10,.w false false (.int .i64 (S k).next)),(33,.w false false (.int .i64 k))]) [7,0,1,4,3] (λ(k:Nat)=>[(6,iA (S k).sl),(9,iA (S k).ah)]) (λ(k:Nat)=>m-k) (λ(_u:Unit)=>True) [0,1,4,5,6] (λ(_u:Unit)=>[(9,.w false false (.int .i64 (S m).least)),(10,.w false false (.int .i64 (S m).next))]) [7,0,1,4,3] (λ(_u:Unit)=>[(6,iA (S m).sl),(9,iA (S m).ah)]) (0) (aK _) (aO [] (by simp[eS0]) (by simp[eS0])) (λk hk=>?_) (λ_u hf=>?_)
  .clear eS0 kur ktk kts ktf knx kcon kun kgw kR;by_cases h5:k<m
   .have a5:inI .i64 ((k:Int)+1):=aG (by have:=k17;unfold aN at this;omega) (by have:=k17;unfold aN at this;omega)
    have hz:k+1<=m:=by omega
    have hCe:∀i j,C i j=nth (nth L i) j:=kC2;have bi:(nth L i).length=m:=krw i hin;obtain⟨l1,l2⟩:(S k).sl.length=m/\(S k).ah.length=m:=ksk k hk;obtain⟨n1,n2⟩:inI .i64 (C i k-nth u i)/\inI .i64 (C i k-nth u i-nth v k):=knv k h5;have eSk:S (k+1)=_:=kS k
    have cz:nvS C u v i k=nth (nth L i) k-nth u i-nth v k:=by unfold nvS;rw[hCe]
    rw[cz] at eSk;rw[hCe] at n1 n2
    have ag:k<sn.length:=by omega
    have hkL:k<(nth L i).length:=by omega
    have hiL:i<L.length:=by omega
    have bf:i<u.length:=by omega
    have b4:k<v.length:=by omega
    clear kS knv ksk kC2 krw k17 hCe cz;generalize S k=sk at *;obtain⟨sl1,ah1,le1,nx1⟩:=sk;dsimp only at l1 l2 eSk ⊢
    cases hy:nth sn k with
    |true=>
     rw[aB hy] at eSk
     repeat' first|(with_reducible first|apply ai|apply aF|apply au|apply aL|apply af|apply al|intro _)|(simp[*,h5,a5,hy,ag,wn])
     all_goals first
      |omega
      |assumption
      |(refine nx (k+1) ?_ ?_;(· exact hz);(refine aD ?_ ?_<;>first|trivial|(simp[*,eSk];done)))
    |false=>
     rw[ar (by rw[hy];decide)] at eSk;have hq:∃q,nth (nth L i) k-nth u i-nth v k=q:=⟨_,rfl⟩;obtain⟨q,hq⟩:=hq;rw[hq] at eSk n2
     have b7:k<sl1.length:=by omega
     have bg:k<ah1.length:=by omega
     by_cases c1:q<nth sl1 k
     .rw[aB c1] at eSk;dsimp only at eSk
      have e1:nth (sl1.set k q) k=q:=by rw[fb _ _ _ _ b7,aB rfl]
      rw[e1] at eSk
      have l3:(sl1.set k q).length=m:=by simpa using l1
      by_cases c2:q<le1
      .rw[aB c2] at eSk
       repeat' first|(with_reducible first|apply ai|apply aF|apply au|apply af|refine aQ (id:=9) 27 mixed (by decide +kernel) ?_|apply al|intro _)|(simp[*,h5,a5,hy,ag,wn,hin,hiL,hkL,bf,b4,bi,wu,wv,hq,n1,n2,c1,c2,b7,bg,l1,l2,e1,l3])
       all_goals first
        |omega
        |assumption
        |(refine nx (k+1) ?_ ?_;(· exact hz);(refine aD ?_ ?_<;>first|trivial|(simp[*,eSk];done)))
      .rw[ar c2] at eSk
       repeat' first|(with_reducible first|apply ai|apply aF|apply au|apply af|refine aQ (id:=9) 27 mixed (by decide +kernel) ?_|apply al|intro _)|(simp[*,h5,a5,hy,ag,wn,hin,hiL,hkL,bf,b4,bi,wu,wv,hq,n1,n2,c1,c2,b7,bg,l1,l2,e1,l3])
       all_goals first
        |omega
        |assumption
        |(refine nx (k+1) ?_ ?_;(· exact hz);(refine aD ?_ ?_<;>first|trivial|(simp[*,eSk];done)))
     .rw[ar c1] at eSk;dsimp only at eSk;by_cases c2:nth sl1 k<le1
      .rw[aB c2] at eSk
       repeat' first|(with_reducible first|apply ai|apply aF|apply au|apply af|refine aQ (id:=9) 27 mixed (by decide +kernel) ?_|apply al|intro _)|(simp[*,h5,a5,hy,ag,wn,hin,hiL,hkL,bf,b4,bi,wu,wv,hq,n1,n2,c1,c2,b7,bg,l1,l2])
       all_goals first
        |omega
        |assumption
        |(refine nx (k+1) ?_ ?_;(· exact hz);(refine aD ?_ ?_<;>first|trivial|(simp[*,eSk];done)))
      .rw[ar c2] at eSk
       repeat' first|(with_reducible first|apply ai|apply aF|apply au|apply af|refine aQ (id:=9) 27 mixed (by decide +kernel) ?_|apply al|intro _)|(simp[*,h5,a5,hy,ag,wn,hin,hiL,hkL,bf,b4,bi,wu,wv,hq,n1,n2,c1,c2,b7,bg,l1,l2])
       all_goals first
        |omega
        |assumption
        |(refine nx (k+1) ?_ ?_;(· exact hz);(refine aD ?_ ?_<;>first|trivial|(simp[*,eSk];done)))
   .have a8:k=m:=by omega
    subst a8
    repeat' first|(with_reducible first|apply ai|apply aL|apply af|apply al|intro _)|(simp[*,h5])
    all_goals first
     |omega
     |(refine aZ () ?_ ?_;(· trivial);(refine aD ?_ ?_<;>first|trivial|(simp[*];done)))
  .have cm:(S m).sl.length=m/\(S m).ah.length=m:=ksk m (aE m);obtain⟨a,cy,ao⟩:=knx;have bl:inI .i64 (nth u row+(S m).least):=kur;have aa:m<17:=k17;clear eS0 kS knv ksk kC2 krw kur kC k17;generalize S m=sm at *;obtain⟨sl1,ah1,d,nx⟩:=sm;dsimp only at cm cy bl ⊢;subst cy;obtain⟨d',dh⟩:=cm
   have c9:row<u.length:=by omega
   have eT0:dS sn s.ow d (u.set row (nth u row+d)) v sl1 0=(u.set row (nth u row+d),v,sl1):=rfl
   have eTs:∀k,dS sn s.ow d (u.set row (nth u row+d)) v sl1 (k+1)=if nth sn k=true then
    ((dS sn s.ow d (u.set row (nth u row+d)) v sl1 k).1.set (nth s.ow k).toNat (nth (dS sn s.ow d (u.set row (nth u row+d)) v sl1 k).1 (nth s.ow k).toNat+d),(dS sn s.ow d (u.set row (nth u row+d)) v sl1 k).2.1.set k (nth (dS sn s.ow d (u.set row (nth u row+d)) v sl1 k).2.1 k-d),(dS sn s.ow d (u.set row (nth u row+d)) v sl1 k).2.2)
    else ((dS sn s.ow d (u.set row (nth u row+d)) v sl1 k).1,(dS sn s.ow d (u.set row (nth u row+d)) v sl1 k).2.1,(dS sn s.ow d (u.set row (nth u row+d)) v sl1 k).2.2.set k (nth (dS sn s.ow d (u.set row (nth u row+d)) v sl1 k).2.2 k-d)):=λ_=>rfl
   dsimp only at ktk kts ktf kcon kgw kR;generalize dS sn s.ow d (u.set row (nth u row+d)) v sl1=T at *;have kT:=keep eTs;clear eTs
   repeat' first|(with_reducible first|apply ai|apply af|refine And.intro ?_ ?_|intro _)|(simp[*,hr,c9,wu,bl])
   all_goals try first|omega|assumption
   refine df 10 (λ(k:Nat)=>k<=m) [0,1,4,5,6,9,10,105] (λ(k:Nat)=>[(106,.w false false (.int .i64 k))]) [7,9,4,3] (λ(k:Nat)=>[(0,iA (T k).1),(1,iA (T k).2.1),(6,iA (T k).2.2)]) (λ(k:Nat)=>m-k) (λ(_u:Unit)=>True) [0,1,4,5,6,10] (λ(_u:Unit)=>[]) [7,9,4,3] (λ(_u:Unit)=>[(0,iA (T m).1),(1,iA (T m).2.1),(6,iA (T m).2.2)]) (0) (aK _) (aO [] (by simp[eT0]) (by simp[eT0])) (λk hk=>?_) (λ_u hf=>?_)
   .clear eT0 kcon kun kgw kR;by_cases h5:k<m
    .have a5:inI .i64 ((k:Int)+1):=aG (by omega) (by omega)
     have hz:k+1<=m:=by omega
     obtain⟨t1,t2,t3⟩:(T k).1.length=n/\(T k).2.1.length=m/\(T k).2.2.length=m:=ktk k hk;have bk:nth sn k=true->∃l:Nat,nth s.ow k=l/\l<n/\inI .i64 (nth (T k).1 l+d)/\inI .i64 (nth (T k).2.1 k-d):=kts k h5;have bj:nth sn k=false->inI .i64 (nth (T k).2.2 k-d):=ktf k h5;have eTk:T (k+1)=_:=kT k
     have ag:k<sn.length:=by omega
     have c4:k<s.ow.length:=by omega
     clear ktk kts ktf kT aa bl c9;generalize T k=tk at *;obtain⟨tu,tv,tl⟩:=tk;dsimp only at t1 t2 t3 bk bj eTk ⊢
     have b4:k<tv.length:=by omega
     have d8:k<tl.length:=by omega
     cases hy:nth sn k with
     |true=>
      rw[aB hy] at eTk;obtain⟨l,bh,db,b1,b2⟩:=bk hy;rw[bh] at eTk;simp only[bT] at eTk
      have dc:l<tu.length:=by omega
      clear bk bj
      repeat' first|(with_reducible first|apply ai|apply aF|apply au|apply af|refine aQ (id:=20) 16 mixed (by decide +kernel) ?_|apply al|refine And.intro ?_ ?_|intro _)|(simp[*,h5,a5,hy,ag,wn,bh,db,dc,b4,t1,t2,b1,b2,c4,lo])
      all_goals first
       |omega
       |assumption
       |(refine nx (k+1) ?_ ?_;(· exact hz);(refine aD ?_ ?_<;>first|trivial|(simp[*,eTk];done)))
     |false=>
      rw[ar (by rw[hy];decide)] at eTk;have b1:=bj hy;clear bk bj
      repeat' first|(with_reducible first|apply ai|apply aF|apply au|apply af|apply al|intro _)|(simp[*,h5,a5,hy,ag,wn,d8,t3,b1])
      all_goals first
       |omega
       |assumption
       |(refine nx (k+1) ?_ ?_;(· exact hz);(refine aD ?_ ?_<;>first|trivial|(simp[*,eTk];done)))
    .have a8:k=m:=by omega
     subst a8
     repeat' first|(with_reducible first|apply ai|apply aL|apply af|apply al|intro _)|(simp[*,h5])
     all_goals first
      |omega
      |(refine aZ () ?_ ?_;(· trivial);(refine aD ?_ ?_<;>first|trivial|(simp[*];done)))
   .clear eT0 kT kts ktf;have hR:w'=_:=kR;have hx:(if nth s.ow ((a:Nat):Int).toNat<0 then w' else rE C m s.ow row (cM w'.sn+1) w')=W:=kgw;have h8:¬nth s.ow ((a:Nat):Int).toNat<0->GI C n c row s.ow w':=kcon;have a4:cM w'.sn+1=cM sn:=kun
    have cl:a<sn.length:=by omega
    have b5:a<s.ow.length:=by omega
    clear kR kgw kcon kun ktk d' dh c9 bl aa;rw[bT] at hx h8 hR;generalize T m=tm at *;obtain⟨tu,tv,tl⟩:=tm;dsimp only at hR ⊢;by_cases ho:nth s.ow a<0
    .rw[aB ho] at hx;rw[hx] at hR;subst hR;clear h8 a4 hx w'
     repeat' first|(with_reducible first|apply ai|apply aL|apply af|apply al|refine And.intro ?_ ?_|intro _)|(simp[*,wn,cl,lo,b5,ao,ho])
     all_goals first
      |omega
      |assumption
      |(refine aZ () ?_ ?_;(· trivial);(refine aO [] ?_ ?_<;>first|trivial|(simp[*];done)))
    .rw[ar ho] at hx;have hg:=h8 ho;have kg:=keep (And.intro hg hx);obtain⟨l,bh⟩:∃l:Nat,nth s.ow a=l:=⟨(nth s.ow a).toNat,by omega⟩
     have d9:¬((l:Nat):Int)<0:=by omega
     rw[bh,bT] at hR
     have dx:cM w'.sn<cM sn:=by omega
     clear h8 a4 hx hg ho
     repeat' first|(with_reducible first|apply ai|apply au|apply af|apply al|refine And.intro ?_ ?_|intro _)|(simp[*,wn,cl,lo,b5,ao,bh,d9])
     all_goals first
      |omega
      |assumption
      |(refine wT _ _ _ _ _ w' _ ?_ (by first|omega|(dsimp only;omega)|(simp;omega)) ?_;(· exact kg);(refine aO [] ?_ ?_<;>first|trivial|(simp[*,hR];done)))
 .have d:PE C n c row s.ow W:=kd;have hm:m=c+n:=km;have aa:m<17:=k17;have hKK:=kK;unfold aN zdg at hKK;dsimp only at hKK
  have c5:W.ah.length=m:=by rw[hm];exact d.la
  have kF:=keep (hKK W.ah c5);clear kG kK kr kb kgo kun kC kg kW k17 hKK;obtain⟨rk,r1,r2,r3⟩:=d.rk
  have bc:∀j,j<m->nth W.sn j=true->(nth W.ah j=-1\/(0<=nth W.ah j/\nth W.ah j<(m:Int)/\nth W.sn (nth W.ah j).toNat=true)):=λj hj hn=>by
   rcases d.pth j (by omega) hn with ⟨h1,_⟩|⟨h1,h2,h3,_⟩
   .exact .inl h1
   .exact .inr ⟨h1,by rw[hm];exact h2,h3⟩
  have bb:∀j,j<m->nth W.sn j=true->0<=nth W.ah j->rk (nth W.ah j).toNat<rk j:=λj hj=>r2 j (by omega)
  have eA:∀f a (o:List Int),hH W.ah row (f+1) ((a:Nat):Int) o=hH W.ah row f (nth W.ah a) (o.set a (if nth W.ah a<0 then (row:Int) else nth o (nth W.ah a).toNat)):=λf a o=>by
   conv=>lhs;unfold hH
   rw[ar (by omega),bT]
  have eN:∀f (o:List Int),hH W.ah row f (-1) o=o:=λf o=>by
   cases f with
   |zero=>rfl
   |succ f=>unfold hH;rw[aB (by omega)]
  have a0:=d.a0;have a1:=d.a1;have a3:=d.a3;have d3:=r1 W.at_.toNat (by omega) a3;generalize hOW:hH W.ah row (m+1) W.at_ s.ow=OW at kF;generalize W.at_=at0 at *;generalize W.ah=ah at *;generalize W.sn=sn at *
  have kJ:aN (hH ah row (m+1) at0 s.ow=OW/\s.ow.length=m/\(at0=-1\/(0<=at0/\at0<(m:Int)/\nth sn at0.toNat=true/\rk at0.toNat<m+1))):=
   ⟨hOW,lo,.inr ⟨a0,by rw[hm];exact a1,a3,by omega⟩⟩
  have kV:=keep bc;have kk2:=keep bb;have kA:=keep eA;have kN:=keep eN;have k17:=keep aa;clear bc bb eA eN hOW a0 a1 a3 d3 r1 r2 r3 d kd aa hm km
  repeat' first|(with_reducible first|intro _)|(simp[*])
  refine df 10 (λ(y:Int×List Int×Nat)=>hH ah row y.2.2 y.1 y.2.1=OW/\y.2.1.length=m/\(y.1=-1\/(0<=y.1/\y.1<(m:Int)/\nth sn y.1.toNat=true/\rk y.1.toNat<y.2.2))) [0,1] (λ(y:Int×List Int×Nat)=>[(7,.w false false (.int .i64 y.1))]) [4,9,0,1] (λ(y:Int×List Int×Nat)=>[(3,iA y.2.1)]) (λ(y:Int×List Int×Nat)=>y.2.2) (λ(_u:Unit)=>True) [] (λ(_u:Unit)=>[]) [4,9,0,1] (λ(_u:Unit)=>[(3,iA OW)]) ((at0,s.ow,m+1)) kJ (aO [] (by simp) (by simp)) (λy hk=>?_) (λ_u hf=>?_)
  .clear kJ kF;obtain⟨a',o,f⟩:=y;obtain⟨hj,b9,ha⟩:=hk;dsimp only at hj b9 ha ⊢;have eN:∀f (o:List Int),hH ah row f (-1) o=o:=kN
   rcases ha with ha|⟨h1,h2,h3,h4⟩
   .subst ha;rw[eN] at hj;clear kV kk2 kA kN k17 eN
    repeat' first|(with_reducible first|apply ai|apply aL|apply af|apply al|intro _)|(simp[*])
    all_goals first
     |omega
     |(refine aZ () ?_ ?_;(· trivial);(refine aD ?_ ?_<;>first|trivial|(simp[*,hj];done)))
   .obtain⟨a,rfl⟩:∃a:Nat,a'=a:=⟨a'.toNat,by omega⟩;rw[bT] at h3 h4
    have ao:a<m:=by omega
    obtain⟨f',rfl⟩:∃f',f=f'+1:=⟨f-1,by omega⟩;have hA:hH ah row (f'+1) ((a:Nat):Int) o=_:=kA f' a o;rw[hA] at hj
    have cj:a<ah.length:=by omega
    have b5:a<o.length:=by omega
    have cf:(0:Int)<=a:=by omega
    have hv:nth ah a=-1\/(0<=nth ah a/\nth ah a<(m:Int)/\nth sn (nth ah a).toNat=true):=kV a ao h3;have ba:0<=nth ah a->rk (nth ah a).toNat<rk a:=kk2 a ao h3;have dt:f'<f'+1:=yh _
    rcases hv with hv|⟨v1,v2,v3⟩
    .rw[hv,aB (by omega)] at hj;have kj:aN (hH ah row f' (-1) (o.set a (row:Int))=OW/\(o.set a (row:Int)).length=m/\((-1:Int)=-1\/(0<=(-1:Int)/\(-1:Int)<(m:Int)/\nth sn (-1:Int).toNat=true/\rk (-1:Int).toNat<f'))):=⟨hj,by rw[oB,b9],.inl rfl⟩;clear kV kk2 kA kN k17 eN hj hA ba h1 h2 h3 h4
     repeat' first|(with_reducible first|apply ai|apply aF|apply au|apply af|apply al|refine And.intro ?_ ?_|intro _)|(simp[*,cj,b5,c5,b9,hv,ao,cf])
     all_goals first
      |omega
      |assumption
      |(refine nx (-1,o.set a (row:Int),f') ?_ ?_;(· exact kj);(refine aD ?_ ?_<;>first|trivial|(simp[*];done)))
    .obtain⟨b,hb⟩:∃b:Nat,nth ah a=b:=⟨(nth ah a).toNat,by omega⟩;rw[hb,ar (by omega)] at hj;rw[hb] at v1 v2 v3 ba;rw[bT] at hj v3 ba
     have d6:b<o.length:=by omega
     have d5:b<m:=by omega
     have d4:¬((b:Nat):Int)<0:=by omega
     have dl:=ba (by omega)
     have kj:aN (hH ah row f' (b:Int) (o.set a (nth o b))=OW/\(o.set a (nth o b)).length=m/\((b:Int)=-1\/(0<=(b:Int)/\(b:Int)<(m:Int)/\nth sn (b:Int).toNat=true/\rk (b:Int).toNat<f'))):=
      ⟨hj,by rw[oB,b9],.inr ⟨by omega,by omega,by rw[bT];exact v3,by rw[bT];omega⟩⟩
     clear kV kk2 kA kN k17 eN hj hA ba h1 h2 h3 h4 dl v1 v2 v3
     repeat' first|(with_reducible first|apply ai|apply aF|apply au|apply af|refine aQ (id:=32) 13 mixed (by decide +kernel) ?_|apply al|refine And.intro ?_ ?_|intro _)|(simp[*,cj,b5,c5,b9,hb,d6,d5,ao,cf,d4])
     all_goals first
      |omega
      |assumption
      |(refine nx ((b:Int),o.set a (nth o b),f') ?_ ?_;(· exact kj);(refine aD ?_ ?_<;>first|trivial|(simp[*];done)))
  .clear kJ kV kk2 kA kN
   repeat' first|(with_reducible first|intro _)|(simp[*])
   all_goals first
    |(simp[dC,eX,gz,oneOf];exact kF)
theorem zfx{fk:Fk}{a b c:St}(h:Lek fk a b)(k:Lek fk b c):Lek fk a c:=λB w0 x w m hs=>let ⟨m',h'⟩:=h B w0 x w m hs;k B w0 x w m' h'
def zdh(L:List (List Int))(n m:Nat)(s:Hs):PV:=.ip [.sl n (m6 L),.sl n (ints s.u),.sl m (ints s.v),.sl m (ints s.ow),.undef] 0
theorem zfy(L:List (List Int))(n c m:Nat)(hm:m=c+n)(hL:L.length=n)(h9:∀i,i<n->(nth L i).length=m)(hp:Hp (λi j=>nth (nth L i) j) n c):aC Tz.prog 79 [.sl n (m6 L),.int .i64 m] (zdh L n m (qc (λi j=>nth (nth L i) j) n m n)) false:=by
 have hA:=λr (hr:r<=n)=>zcr hp r hr
 have eA:∀r,qc (λi j=>nth (nth L i) j) n m (r+1)=tE (λi j=>nth (nth L i) j) m (qc (λi j=>nth (nth L i) j) n m r) r:=λ_=>rfl
 have e0:qc (λi j=>nth (nth L i) j) n m 0=⟨List.replicate n 0,List.replicate m 0,List.replicate m (-1)⟩:=rfl
 have hw:=λr (hr:r<n) (s:Hs) mi p0 K=>zg8 L n c m hm hL h9 hp r hr s mi p0 K
 rw[<-hm] at hA;generalize qc (λi j=>nth (nth L i) j) n m=A at *
 have hh:m<17:=by have:=hp.nn;have:=hp.cc;omega
 have b':n<9:=by have:=hp.nn;omega
 have r1:=WK (-1) m (by omega);have i1:inI .i64 (n:Int):=aG (by omega) (by omega);have i2:inI .i64 (m:Int):=aG (by omega) (by omega)
 have i3:(n:Int)<=1000000000:=by omega
 have i4:(m:Int)<=1000000000:=by omega
 have kk:=keep (And.intro hA (And.intro eA (And.intro hw (And.intro hh b'))))
 have f1:iA (A 0).u=List.replicate n (.w false false (.int .i64 0)):=by rw[e0];simp[iA,ints]
 have f2:iA (A 0).v=List.replicate m (.w false false (.int .i64 0)):=by rw[e0];simp[iA,ints]
 have f3:(A 0).ow=List.replicate m (-1):=by rw[e0]
 clear hA eA hw hh b' e0 hp h9;unfold zdh;have kL:=keep hL;have km:=keep hm;clear hL hm;refine rcK Tz.func79 ?_;simp only[Tryz.results79,Tryz.ntmps79]
 repeat' first|(with_reducible first|apply ai|apply af|refine aQ (id:=1) 12 mixed (by decide +kernel) ?_|refine cwM (r1) ?_|intro _)|(simp[*,i1,i2,i3,i4])
 all_goals try first|omega|assumption
 clear r1;refine df 5 (λ(r:Nat)=>r<=n) [5,19] (λ(r:Nat)=>[(20,.w false false (.int .i64 r))]) [] (λ(r:Nat)=>[(4,[.w false false (.sl n (m6 L)),.msl 0 n 1 0 n,.msl 1 m 1 0 m,.msl 3 m 1 0 m,.w false false .undef]),(0,iA (A r).u),(1,iA (A r).v),(3,iA (A r).ow)]) (λ(r:Nat)=>n-r) (λ(_u:Unit)=>True) [5] (λ(_u:Unit)=>[]) [] (λ(_u:Unit)=>[(4,[.w false false (.sl n (m6 L)),.msl 0 n 1 0 n,.msl 1 m 1 0 m,.msl 3 m 1 0 m,.w false false .undef]),(0,iA (A n).u),(1,iA (A n).v),(3,iA (A n).ow)]) (0) (aK _) (aO [] (by simp[f1,f2,f3]) (by simp[f1,f2,f3])) (λr hk=>?_) (λ_u hf=>?_)
 .clear f1 f2 f3;by_cases h5:r<n
  .obtain⟨hA,eA,hw,hh,b'⟩:=kk;have a9:=hA r hk;have hs:=hw r h5 (A r) a9 .undef;rw[<-eA r] at hs;have a5:inI .i64 ((r:Int)+1):=aG (by omega) (by omega)
   have hz:r+1<=n:=by omega
   unfold zdg at hs;have khs:=keep hs;clear hA eA hw hh b' a9 hs
   repeat' first|(with_reducible first|refine rD (id:=5) 2 Tz.func117 (by kernel_rfl) (show Tryz.f117.body=some (Tryz.f117.body.getD .skip) from rfl) (by decide) rfl ?_|apply ai|apply aF|apply au|apply af|apply al|intro _)|(simp[*,h5,a5])
   all_goals try first|omega|assumption
   refine Bv (by decide) (by simp) rfl ?_;refine khs _ (λah dr=>?_);clear khs
   repeat' first|(with_reducible first|apply af|intro _)|(simp[*,h5,a5])
   refine wT _ _ _ _ _ (r+1) _ hz (by omega) (zfx (b:=⟨[(20,.w false false (.int .i64 ((r:Int)+1))),(5,.ptr 4 5 0),(19,.w false false (.int .i64 n))],[(4,[.w false false (.sl n (m6 L)),.msl 0 n 1 0 n,.msl 1 m 1 0 m,.msl 3 m 1 0 m,.w false false (.sl m (ints ah))]),(0,iA (A (r+1)).u),(1,iA (A (r+1)).v),(3,iA (A (r+1)).ow)],5,28⟩) (aO [9] ?_ ?_) (aO [] ?_ ?_))
   all_goals first|trivial|(simp[*];done)
  .have a8:r=n:=by omega
   subst a8
   repeat' first|(with_reducible first|apply ai|apply aL|apply af|apply al|intro _)|(simp[*,h5])
   all_goals first
    |omega
    |(refine aZ () ?_ ?_;(· trivial);(refine aD ?_ ?_<;>first|trivial|(simp[*];done)))
 .clear f1 f2 f3;have a9:=kk.1 n (aE n);have c6:m=c+n:=km;have l1:=a9.lu
  have l2:(A n).v.length=m:=by rw[c6];exact a9.lv
  have l3:(A n).ow.length=m:=by rw[c6];exact a9.lo
  clear kk a9 c6 km
  repeat' first|(with_reducible first|apply ai|apply az|apply af|intro _)|(simp[*,l1,l2,l3])
theorem zfz(x:Rd)(ok:ku x):aC Tz.prog 80 [x.pv] (.sl x.os.length (m6 (ft x x.os.length))) true:=by
 have b3:=λi hi=>D4 x ok i hi
 have lo:=ok.lo;have lc:=ok.lc;have lw:=ok.lw;have lf:=ok.lf;have fr:=ok.fr;have wr:=ok.wr
 have eE:∀i j,sf x i j=if j<x.ab.length/\nth (nth x.fit i) j=true then nth (nth x.wt i) j else if j=x.ab.length+i then bw (prio x i) else 1000000000000000:=λ_ _=>rfl
 have eR:∀i,ql x i=(List.range (x.ab.length+x.os.length)).map (sf x i):=λ_=>rfl
 have eS:∀k,cN (ft x (k+1))=cN (ft x k)++[.w true false (.sl (x.ab.length+x.os.length) (ints (ql x k)))]:=λk=>zfq x k
 have eL:∀k,(cN (ft x k)).length=k:=λk=>by simp
 have eSl:=zdq x x.os.length
 have eRl:∀i,(ql x i).length=x.ab.length+x.os.length:=λi=>by simp
 have e0:cN (ft x 0)=[]:=rfl;generalize ft x=S at *;generalize ql x=R at *;generalize sf x=E at *;generalize prio x=pr at *;clear ok;obtain⟨ab,os,wt,zs,fit⟩:=x;unfold Rd.pv;simp only[] at *;have kk:=keep (And.intro b3 (And.intro lo (And.intro lc (And.intro lw (And.intro lf (And.intro fr (And.intro wr (And.intro eE (And.intro eR (And.intro eS eRl))))))))));clear b3 lo lc lw lf fr wr eE eR eS eRl;refine rcK Tz.func80 ?_;simp only[Tryz.results80,Tryz.ntmps80]
 repeat' first|(with_reducible first|apply ai|apply af|intro _)|(simp[*])
 refine df 1 (λ(k:Nat)=>k<=os.length) [0,3,19,20] (λ(k:Nat)=>[(4,.msl 0 k 1 0 k),(21,.w false false (.int .i64 k))]) [] (λ(k:Nat)=>[(0,cN (S k))]) (λ(k:Nat)=>os.length-k) (λ(_u:Unit)=>True) [] (λ(_u:Unit)=>[(4,.msl 0 os.length 1 0 os.length)]) [] (λ(_u:Unit)=>[(0,cN (S os.length))]) (0) (aK _) (aO [] (by simp[e0]) (by simp[e0])) (λk hk=>?_) (λ_u hf=>?_)
 .by_cases h5:k<os.length
  .obtain⟨b3,lo,lc,lw,lf,fr,wr,eE,eR,eS,eRl⟩:=kk;have h1:=b3 k h5
   have cv:k<fit.length:=by omega
   have cx:k<wt.length:=by omega
   have aq:=fr k h5;have ax:=wr k h5;have h6:(nth os k).2.2.2=((pr k:Nat):Int):=h1.2.symm;have eE2:=eE k;have eR2:=eR k;have eS2:=eS k;have eRl2:=eRl k;have c1:=sw (pr k) h1.1;generalize bw (pr k)=pp at *;have a7:inI .i64 ((k:Int)+1):=aG (by omega) (by omega)
   have hz:k+1<=os.length:=by omega
   obtain⟨nn,aj⟩:∃nn,nn=ab.length+os.length:=⟨_,rfl⟩
   have b6:(ab.length:Int)+(os.length:Int)=(nn:Int):=by omega
   have hin:inI .i64 (nn:Int):=aG (by omega) (by omega)
   have b':(nn:Int)<=1000000000:=by omega
   rw[<-aj] at eR2 eS2 eRl2
   have eA:eB (E k) 0 nn nn=R k:=by rw[zdp,eR2]
   have k1:=keep (And.intro lo (And.intro lc (And.intro aq (And.intro ax (And.intro eE2 (And.intro aj a7))))));clear b3 lo lc lw lf fr wr h1 eE eE2 eR eR2 eRl eS aq ax aj a7;have e00:=zdo (E k) 0 nn
   repeat' first|(with_reducible first|apply ai|apply aF|apply au|apply af|apply al|refine And.intro ?_ ?_|intro _)|(simp[*,h5,b6,hin,Tw.cg])
   all_goals try first
    |omega
    |assumption
   refine df 3 (λ(j:Nat)=>j<=nn) [0,3,4,5,6,7,19,20,21,36] (λ(j:Nat)=>[(37,.w false false (.int .i64 j))]) [0,1] (λ(j:Nat)=>[(2,iA (eB (E k) 0 nn j))]) (λ(j:Nat)=>nn-j) (λ(_u:Unit)=>True) [0,3,4,7,19,20,21] (λ(_u:Unit)=>[]) [0,1] (λ(_u:Unit)=>[(2,iA (R k))]) (0) (aK _) (aO [] (by simp[e00]) (by simp[e00])) (λj hk=>?_) (λ_u hf=>?_)
   .clear e00;by_cases ay:j<nn
    .obtain⟨lo,lc,aq,ax,eE2,aj,a7⟩:=k1;have es:=zdn (E k) 0 nn j ay;have el:=zck (E k) 0 nn j hk;have bd:inI .i64 ((j:Int)+1):=aG (by omega) (by omega);have bv:inI .i64 ((ab.length:Int)+k):=aG (by omega) (by omega)
     have bp:j+1<=nn:=by omega
     have eEj:=eE2 j;rw[eEj] at es;generalize eB (E k) 0 nn j=Lj at *;by_cases aw:j<ab.length
     .have ct:j<(nth fit k).length:=by omega
      have cu:j<(nth wt k).length:=by omega
      have c3:¬(j:Int)=(ab.length:Int)+k:=by omega
      have a6:¬j=ab.length+k:=by omega
      cases hb:nth (nth fit k) j with
      |true=>
       rw[aB ⟨aw,hb⟩] at es;clear lo lc aq ax eE2 aj a7 eEj eA eS2 c1
       repeat' first|(with_reducible first|apply ai|apply aF|apply au|apply af|apply al|intro _)|(simp[*,ay,aw,cv,cx,ct,cu,hb,h5,el,bd])
       all_goals first
        |omega
        |assumption
        |(refine nx (j+1) ?_ ?_;(· exact bp);(refine aD ?_ ?_<;>first|trivial|(simp[*,es];done)))
      |false=>
       rw[ar (by rw[hb];simp),ar a6] at es;clear lo lc aq ax eE2 aj a7 eEj eA eS2 c1
       repeat' first|(with_reducible first|apply ai|apply aF|apply au|apply af|apply al|intro _)|(simp[*,ay,aw,cv,cx,ct,cu,hb,h5,el,bd,bv,c3])
       all_goals first
        |omega
        |assumption
        |(refine nx (j+1) ?_ ?_;(· exact bp);(refine aD ?_ ?_<;>first|trivial|(simp[*,es];done)))
     .by_cases a6:j=ab.length+k
      .have d7:(ab.length:Int)+k=(j:Int):=by omega
       have dv:inI .i64 (j:Int):=aG (by omega) (by omega);rw[ar (by intro h;exact aw h.1),aB a6] at es;clear lo lc aq ax eE2 aj a7 eEj eA eS2 bv a6
       repeat' first|(with_reducible first|apply ai|apply aF|apply au|apply af|apply al|refine And.intro ?_ ?_|refine cw (c1) ?_|intro _)|(simp[*,ay,aw,h5,el,bd,d7,Tw.cg,h6])|(refine ae (c1) ?_ ?_;(· (simp[*];done)))
       all_goals first
        |omega
        |assumption
        |(refine nx (j+1) ?_ ?_;(· exact bp);(refine aD ?_ ?_<;>first|trivial|(simp[*,es];done)))
      .have c3:¬(j:Int)=(ab.length:Int)+k:=by omega
       rw[ar (by intro h;exact aw h.1),ar a6] at es;clear lo lc aq ax eE2 aj a7 eEj eA eS2 c1
       repeat' first|(with_reducible first|apply ai|apply aF|apply au|apply af|apply al|intro _)|(simp[*,ay,aw,h5,el,bd,bv,c3])
       all_goals first
        |omega
        |assumption
        |(refine nx (j+1) ?_ ?_;(· exact bp);(refine aD ?_ ?_<;>first|trivial|(simp[*,es];done)))
    .have a8:j=nn:=by omega
     subst a8;clear k1
     repeat' first|(with_reducible first|apply ai|apply aL|apply af|apply al|intro _)|(simp[*,ay])
     all_goals first
      |omega
      |(refine aZ () ?_ ?_;(· trivial);(refine aD ?_ ?_<;>first|trivial|(simp[*,eA];done)))
   .clear e00 eA;have a7:inI .i64 ((k:Int)+1):=k1.2.2.2.2.2.2;clear k1
    repeat' first|(with_reducible first|apply af|refine And.intro ?_ ?_|intro _)|(simp[*,h5,a7,eRl2])
    all_goals first
     |omega
     |assumption
     |(refine nx (k+1) ?_ ?_;(· exact hz);(refine aO [2] ?_ ?_<;>first|trivial|(simp[*,eS2,eRl2];done)))
  .have a8:k=os.length:=by omega
   subst a8
   repeat' first|(with_reducible first|apply ai|apply aL|apply af|apply al|intro _)|(simp[*,h5])
   all_goals first
    |omega
    |(refine aZ () ?_ ?_;(· trivial);(refine aD ?_ ?_<;>first|trivial|(simp[*];done)))
 .clear e0 eL
  repeat' first|(with_reducible first|apply ai|apply az|apply af|intro _)|(simp[*,eSl])
end Go.Proofs.YthpkmilhiganjaaGreat
namespace Go.Proofs.YthpkmilhiganjaaGreat
open Go Go.Fi
noncomputable instance instLD23:av:=LD
noncomputable instance instLD37:av:=LD
def D3(x:Rd)(i j:Nat):Int:=nth (nth (ft x x.os.length) i) j
theorem CN{α:Type}[Inhabited α](f:Nat->α)(n j:Nat)(h:j<n):nth ((List.range n).map f) j=f j:=by
 simp[nth,bS,h]
theorem D9(x:Rd)(i j:Nat)(hi:i<x.os.length)(hj:j<x.ab.length+x.os.length):D3 x i j=sf x i j:=by
 unfold D3 ft;rw[CN _ _ _ hi];unfold ql;rw[CN _ _ _ hj]
theorem EO(x:Rd)(ok:ku x):Hp (D3 x) x.os.length x.ab.length:=by
 refine⟨ok.lo,ok.lc,λi hi=>?_,λi l hi hl dj=>?_,λi j hi hj=>?_⟩
 .rw[D9 x i _ hi (by omega)];unfold sf;rw[ar (by omega),aB rfl];have:=nz (prio x i) (D4 x ok i hi).1;omega
 .rw[D9 x i _ hi (by omega)];unfold sf;rw[ar (by omega),ar (by omega)]
 .rw[D9 x i _ hi (by omega)];unfold sf;by_cases hf:nth (nth x.fit i) j=true
  .rw[aB ⟨hj,hf⟩];have:=ok.wn i hi j hj;omega
  .rw[ar (λh=>hf h.2),ar (by omega)];exact .inl rfl
noncomputable def cp(x:Rd):Hs:=qc (D3 x) x.os.length (x.ab.length+x.os.length) x.os.length
noncomputable def bF(x:Rd):List Int:=fh (cp x).ow x.os.length x.ab.length
noncomputable def cH(x:Rd):List Int:=(List.range x.ab.length).map λk=>-(nth (cp x).v k)
noncomputable def rL(x:Rd):List Int:=(List.range x.os.length).map λi=>kH x i (cH x)
theorem WS(x:Rd)(ok:ku x):MI (D3 x) x.os.length x.ab.length x.os.length (cp x).u (cp x).v (cp x).ow:=zcr (EO x ok) _ (aE _)
theorem zd2(x:Rd)(ok:ku x)(k:Nat)(hk:k<x.ab.length):0<=nth (cH x) k/\nth (cH x) k<=1000000000000:=by
 have m:=WS x ok;unfold cH;rw[CN _ _ _ hk];have h1:=m.hv k (by omega);have h2:=m.vb (EO x ok) (aE _) (j:=k) (by omega);omega
theorem zd3(tk:List Int)(n:Nat):∀c,(∀k,k<c->nth tk k<(n:Int))->∀i,nth (fh tk n c) i=-1\/(0<=nth (fh tk n c) i/\nth (fh tk n c) i<(c:Int))\/n<=i
 |0,_,i=>by
  by_cases h:i<n
  .left;exact C7 _ _ _ h
  .exact .inr (.inr (by omega))
 |c+1,h,i=>by
  have ih:=zd3 tk n c (λk hk=>h k (by omega)) i;have hc:=h c (by omega);unfold fh;by_cases h0:0<=nth tk c
  .rw[aB h0,fb _ _ _ _ (by rw[Ak];omega)];split
   .right;left;omega
   .rcases ih with h1|h1|h1
    .exact .inl h1
    .right;left;omega
    .exact .inr (.inr h1)
  .rw[ar h0]
   rcases ih with h1|h1|h1
   .exact .inl h1
   .right;left;omega
   .exact .inr (.inr h1)
theorem zd4(x:Rd)(ok:ku x):zce x (bF x):=by
 have m:=WS x ok;refine⟨Ak _ _ _,λk hk=>?_⟩
 have dw:k<x.os.length:=by rw[<-Ak (cp x).ow x.os.length x.ab.length];exact hk
 rcases zd3 (cp x).ow x.os.length x.ab.length (λk hk=>by rcases m.how k (by omega) with h|h<;>omega) k with h|h|h
 .exact .inl h
 .exact .inr h
 .omega
noncomputable def zdi(x:Rd):PV:=.agg [.sl x.os.length (ints (bF x)),.int .i64 (eQ x (bF x)),.sl x.os.length (ints (rL x)),.sl x.ab.length (ints (cH x))]
def cq(f:Nat->Int):Nat->Int
 |0=>0
 |k+1=>cq f k+f k
theorem EX{f g:Nat->Int}:∀n,(∀k,k<n->f k<=g k)->cq f n<=cq g n
 |0,_=>mZ _
 |n+1,h=>by
  have:=EX n (λk hk=>h k (by omega));have:=h n (by omega);unfold cq;omega
theorem C8{f g:Nat->Int}(n:Nat)(h:∀k,k<n->f k=g k):cq f n=cq g n:=
 Dj (EX n λk hk=>Int.le_of_eq (h k hk)) (EX n λk hk=>Int.le_of_eq (h k hk).symm)
theorem zd5{f g:Nat->Int}{c:Nat}{v:Int}:∀n,c<n->(∀k,k<n->k≠c->g k=f k)->g c=f c+v->cq g n=cq f n+v
 |n+1,hc,h,hv=>by
  unfold cq;by_cases e:c=n
  .subst e;have:=C8 (f:=g) (g:=f) c (λk hk=>h k (by omega) (by omega));omega
  .have:=zd5 n (by omega) (λk hk hn=>h k (by omega) hn) hv;have:=h n (by omega) (λe'=>e e'.symm);omega
theorem E1(l:List Int):∀n,lp l n=cq (nth l) n
 |0=>rfl
 |n+1=>by unfold lp cq;rw[E1 l n]
def l9(pc plan:List Int):Nat->Int
 |0=>0
 |k+1=>if nth plan k=-1 then l9 pc plan k else l9 pc plan k+nth pc (nth plan k).toNat
structure PO(x:Rd)(plan:List Int):Prop extends zce x plan where
 fit:∀k,k<plan.length->nth plan k≠-1->nth (nth x.fit k) (nth plan k).toNat=true
 once:∀k,k<plan.length->nth plan k≠-1->∀j,j<k->nth plan j≠nth plan k
theorem zct(x:Rd)(pc plan:List Int)(h:PO x plan):∀k,k<=plan.length->l9 pc plan k=cq (λc=>if (plan.take k).contains (c:Int) then nth pc c else 0) x.ab.length
 |0,_=>by
  have:∀n,cq (λc=>if (plan.take 0).contains (c:Int) then nth pc c else 0) n=0:=λn=>by
   induction n with
   |zero=>rfl
   |succ n ih=>unfold cq;rw[ih];simp
  rw[this];rfl
 |k+1,hk=>by
  have ih:=zct x pc plan h k (by omega)
  have ht:plan.take (k+1)=plan.take k++[nth plan k]:=by
   rw[sV (by omega)];simp[nth,bS,da (show k<plan.length by omega)]
  unfold l9;by_cases hn:nth plan k=-1
  .rw[aB hn,ih]
   refine C8 _ λc hc=>?_
   rw[ht,hn]
   have:((c:Int) == -1)=false:=by first|(simp;done)|(simp;omega)
   simp[List.contains_append,this]
  .rw[ar hn,ih];have hr:=(h.at_ k (by omega)).resolve_left hn;have c8:=h.once k (by omega) hn;refine (zd5 (c:=(nth plan k).toNat) _ (by omega) (λc hc dj=>?_) ?_).symm
   .rw[ht]
    have c7:¬(c:Int)=nth plan k:=by omega
    simp[c7]
   .have e:(((nth plan k).toNat:Nat):Int)=nth plan k:=by omega
    rw[e,ht]
    have dk:¬nth plan k∈plan.take k:=by
     intro hc;rw[yk] at hc;obtain⟨j,hj,e⟩:=hc;exact c8 j (by omega) (by rw[<-e];simp[nth,bS,da (show j<plan.length by omega)])
    simp[dk]
theorem zf0(x:Rd)(pc plan:List Int)(h:PO x plan)(hp:∀c,c<x.ab.length->0<=nth pc c):l9 pc plan plan.length<=lp pc x.ab.length:=by
 rw[zct x pc plan h _ (aE _),E1]
 refine EX _ λc hc=>?_
 have:=hp c hc
 split<;>omega
theorem zdj(row:List Bool)(w p:List Int)(m0:Int):∀n,mK row w p m0 n<=m0/\∀k,k<n->nth row k=true->mK row w p m0 n<=nth w k+nth p k
 |0=>⟨mZ _,λk hk=>absurd hk (by omega)⟩
 |n+1=>by
  obtain⟨h1,h2⟩:=zdj row w p m0 n;unfold mK;refine⟨?_,λk hk hr=>?_⟩
  .split
   .split<;>omega
   .exact h1
  .by_cases e:k=n
   .subst e;rw[aB hr]
    split<;>omega
   .have:=h2 k (by omega) hr;split
    .split<;>omega
    .exact this
theorem zd6(x:Rd)(ok:ku x)(po pc plan:List Int)(h:PO x plan)(hl:po.length=x.os.length)(ho:∀i,i<po.length->nth po i<=kH x i pc):∀k,k<=plan.length->kx x x.os.length-kx x k+lp po k-l9 pc plan k<=eM x plan k
 |0,_=>by unfold eM l9;simp
 |k+1,hk=>by
  have ih:=zd6 x ok po pc plan h hl ho k (by omega)
  have c4:k<x.os.length:=by have:=h.len;omega
  have h1:=ho k (by omega);have h2:=zdj (nth x.fit k) (nth x.wt k) pc (bw (nth x.os k).2.2.2.toNat) (nth x.fit k).length;unfold kH at h1
  rw[show eM x plan (k+1)=if nth plan k=-1 then eM x plan k else eM x plan k+(C5 x k (nth plan k)-bw (prio x k)) from rfl,show l9 pc plan (k+1)=if nth plan k=-1 then l9 pc plan k else l9 pc plan k+nth pc (nth plan k).toNat from rfl,
   show kx x (k+1)=kx x k+bw (prio x k) from rfl,show lp po (k+1)=lp po k+nth po k from rfl]
  unfold C5 prio;by_cases hn:nth plan k=-1
  .rw[aB hn,aB hn];have:=h2.1;omega
  .rw[ar hn,ar hn];have hr:=(h.at_ k (by omega)).resolve_left hn;have h3:=h2.2 (nth plan k).toNat (by rw[ok.fr k c4];omega) (h.fit k (by omega) hn);omega
end Go.Proofs.YthpkmilhiganjaaGreat
