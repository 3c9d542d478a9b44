/- Lemmas. -/
import Derived.Test.YthpkmilhiganjaaGreatPEb
import Derived.Test.YthpkmilhiganjaaGreatPLd
import Derived.Test.YthpkmilhiganjaaGreatPEa
set_option linter.all false
set_option maxHeartbeats 32000000
set_option maxRecDepth 100000
namespace Go.Proofs.YthpkmilhiganjaaGreat
open Go Go.Fi
variable[bJ]
def zdz(L:List (List Int))(n m:Nat)(u v ow ah:List Int):bD:=
 [(3,iA ow),(4,[.w false false (.sl n (n5 L)),.msl 0 n 1 0 n,.msl 1 m 1 0 m,.msl 3 m 1 0 m,.msl 9 m 1 0 m]),(9,iA ah),(0,iA u),(1,iA v)]
theorem zim(L:List (List Int))(n c m:Nat)(hm:m=c+n)(hL:L.length=n)(h9:∀i,i<n->(nth L i).length=m)(hp:Hp (λi j=>nth (nth L i) j) n c)(row:Nat)(hr:row<n)(s:Hs)(mi:MI (λi j=>nth (nth L i) j) n c row s.u s.v s.ow)(p0:PV)(K:AV->bD->Nat->Prop)(hK:∀ah,ah.length=m->K (.tup []) (zdz L n m (C3 (λi j=>nth (nth L i) j) m s row).u (C3 (λi j=>nth (nth L i) j) m s row).v (C3 (λi j=>nth (nth L i) j) m s row).ow ah) 10):cX ⟨5,none⟩ Tz.prog (Tryz.f117.body.getD .skip) ⟨gh 0 ([.ptr 4 5 0,.w false false (.int .i64 row)]),[(4,[.w false false (.sl n (n5 L)),.msl 0 n 1 0 n,.msl 1 m 1 0 m,.msl 3 m 1 0 m,.w false false p0]),(0,iA s.u),(1,iA s.v),(3,iA s.ow)],5,Tryz.f117.ntmps⟩ (ir Tz.prog Tryz.f117.results.toList K):=by
 have d:=zej hp hr mi;have g0:=zei (c:=c) (row:=row) mi
 have eG:∀f w,Ak (λi j=>nth (nth L i) j) m s.ow row (f+1) w=if nth s.ow (bj (λi j=>nth (nth L i) j) m w).next.toNat<0 then cH (λi j=>nth (nth L i) j) m s.ow row w else Ak (λi j=>nth (nth L i) j) m s.ow row f (cH (λi j=>nth (nth L i) j) m s.ow row w):=λ_ _=>rfl
 have hS:C3 (λi j=>nth (nth L i) j) m s row=⟨(qi (λi j=>nth (nth L i) j) m s row).u,(qi (λi j=>nth (nth L i) j) m s row).v,kB (qi (λi j=>nth (nth L i) j) m s row).ah row (m+1) (qi (λi j=>nth (nth L i) j) m s row).at_ s.ow⟩:=rfl;rw[hS] at hK;clear hS
 have hW:Ak (λi j=>nth (nth L i) j) m s.ow row (bL (ws0 m s row).sn+1) (ws0 m s row)=qi (λi j=>nth (nth L i) j) m s row:=by
  rw[show bL (ws0 m s row).sn=m from zed m];rfl
 have hh:m<17:=by have:=hp.nn;have:=hp.cc;omega
 have hC:(λi j=>nth (nth L i) j)=λi j=>nth (nth L i) j:=rfl
 have bt:∀w,GI (λi j=>nth (nth L i) j) n c row s.ow w->zdy (λi j=>nth (nth L i) j) n m row s.ow w:=λw g=>by rw[hm];exact zgs hp hr g
 have hgo:∀w,GI (λi j=>nth (nth L i) j) n c row s.ow w->¬nth s.ow (bj (λi j=>nth (nth L i) j) m w).next.toNat<0->GI (λi j=>nth (nth L i) j) n c row s.ow (cH (λi j=>nth (nth L i) j) m s.ow row w):=λw g h=>by rw[hm] at h ⊢;exact zeg hp hr g h
 have a4:∀w,GI (λi j=>nth (nth L i) j) n c row s.ow w->bL (cH (λi j=>nth (nth L i) j) m s.ow row w).sn+1=bL w.sn:=λw g=>by rw[hm];exact zc4 hp hr g
 rw[<-hm] at d g0;have lu:=mi.lu
 have lv:s.v.length=m:=by rw[hm];exact mi.lv
 have lo:s.ow.length=m:=by rw[hm];exact mi.lo
 clear hC hp mi
 obtain⟨C,hC⟩:∃C:Nat->Nat->Int,C=λi j=>nth (nth L i) j:=⟨_,rfl⟩
 have hCe:∀i j,C i j=nth (nth L i) j:=λi j=>by rw[hC]
 rw[<-hC] at d g0 eG hK hW bt hgo a4;clear hC;generalize qi C m s row=W at d hK hW;have r1:=zci 10000000000000000 m ab;have r2:=zci (-1) m ab;have ag:inI .i64 (m:Int):=cu ab ab
 have dk:(m:Int)<=1000000000:=ab
 have kd:=keep d;have kG:=keep eG;have kK:=keep hK;have kr:=keep h9;have kb:=keep bt;have kgo:=keep hgo;have kun:=keep a4;have kC:=keep hCe;have kg:=keep g0;have kW:=keep hW;have km:=keep hm;have k17:=keep hh;clear d eG hK h9 bt hgo a4 hCe g0 hW hm hh;have hb:Tryz.f117.body=some _:=rfl;rw[hb];clear hb;simp only[oL,Tryz.ntmps117,Tryz.results117]
 repeat' first|(with_reducible first|apply GZ|apply G0|apply bG|apply bE|refine cT (id:=1) 7 mixed ai ?_|refine cwM (r1) ?_|refine cwM (r2) ?_|intro _)|simp[*,lv,ag,dk]
 clear r1 r2;refine fI 10 (λ(w:Ws)=>GI C n c row s.ow w/\Ak C m s.ow row (bL w.sn+1) w=W) [0,1,4,5,6] (λ(w:Ws)=>[(7,.w false false (.int .i64 w.at_)),(8,.w false false (.int .i64 w.i))]) [4,3] (λ(w:Ws)=>[(7,bA w.sn),(6,iA w.sl),(9,iA w.ah),(0,iA w.u),(1,iA w.v)]) (λ(w:Ws)=>bL w.sn) (λ(_u:Unit)=>True) [0,1] (λ(_u:Unit)=>[(7,.w false false (.int .i64 W.at_))]) [4,3] (λ(_u:Unit)=>[(9,iA W.ah),(0,iA W.u),(1,iA W.v)]) (ws0 m s row) ⟨kg,kW⟩ (de [] (by simp[ws0,zel]) (by simp[ws0,zel])) (λw hk=>?_) (λ_u hf=>?_)
 .obtain⟨hg,hx⟩:=hk;have hb:zdy C n m row s.ow w:=kb w hg;have h8:¬nth s.ow (bj C m w).next.toNat<0->GI C n c row s.ow (cH C m s.ow row w):=kgo w hg;have a4:bL (cH C m s.ow row w).sn+1=bL w.sn:=kun w hg
  have co:Ak C m s.ow row (bL w.sn+1) w=if nth s.ow (bj C m w).next.toNat<0 then cH C m s.ow row w else Ak C m s.ow row (bL w.sn) (cH C m s.ow row w):=kG _ w
  rw[co,<-a4] at hx;have hCe:∀i j,C i j=nth (nth L i) j:=kC;have cy:∀i,i<n->(nth L i).length=m:=kr;have ao:m<17:=k17;clear kd kG kK kb kgo kun kg kW kr k17 co hg;obtain⟨u,v,sl,ah,sn,at_,i⟩:=w;have hin:=hb.hin;have wu:=hb.lu;have wv:=hb.lv;have wl:=hb.ls;have wa:=hb.la;have wn:=hb.ln;have bnv:=hb.nv;have bsk:=hb.sk;have bur:=hb.ur;have btk:=hb.tk;have bts:=hb.ts;have btf:=hb.tf;have bnx:=hb.nx;dsimp only at hin wu wv wl wa wn bnv bsk bur btk bts btf bnx h8 a4 hx ⊢;have eS0:bm C u v sn i at_ sl ah 0=⟨sl,ah,10000000000000000,-1⟩:=rfl
  have eSs:∀k,bm C u v sn i at_ sl ah (k+1)=if nth sn k=true then bm C u v sn i at_ sl ah k else
   if nth (if nvS C u v i k<nth (bm C u v sn i at_ sl ah k).sl k then (⟨(bm C u v sn i at_ sl ah k).sl.set k (nvS C u v i k),(bm C u v sn i at_ sl ah k).ah.set k at_,(bm C u v sn i at_ sl ah k).least,(bm C u v sn i at_ sl ah k).next⟩:ScS) else bm C u v sn i at_ sl ah k).sl k <
    (if nvS C u v i k<nth (bm C u v sn i at_ sl ah k).sl k then (⟨(bm C u v sn i at_ sl ah k).sl.set k (nvS C u v i k),(bm C u v sn i at_ sl ah k).ah.set k at_,(bm C u v sn i at_ sl ah k).least,(bm C u v sn i at_ sl ah k).next⟩:ScS) else bm C u v sn i at_ sl ah k).least
   then ⟨(if nvS C u v i k<nth (bm C u v sn i at_ sl ah k).sl k then (⟨(bm C u v sn i at_ sl ah k).sl.set k (nvS C u v i k),(bm C u v sn i at_ sl ah k).ah.set k at_,(bm C u v sn i at_ sl ah k).least,(bm C u v sn i at_ sl ah k).next⟩:ScS) else bm C u v sn i at_ sl ah k).sl,
    (if nvS C u v i k<nth (bm C u v sn i at_ sl ah k).sl k then (⟨(bm C u v sn i at_ sl ah k).sl.set k (nvS C u v i k),(bm C u v sn i at_ sl ah k).ah.set k at_,(bm C u v sn i at_ sl ah k).least,(bm C u v sn i at_ sl ah k).next⟩:ScS) else bm C u v sn i at_ sl ah k).ah,
    nth (if nvS C u v i k<nth (bm C u v sn i at_ sl ah k).sl k then (⟨(bm C u v sn i at_ sl ah k).sl.set k (nvS C u v i k),(bm C u v sn i at_ sl ah k).ah.set k at_,(bm C u v sn i at_ sl ah k).least,(bm C u v sn i at_ sl ah k).next⟩:ScS) else bm C u v sn i at_ sl ah k).sl k,k⟩
   else (if nvS C u v i k<nth (bm C u v sn i at_ sl ah k).sl k then (⟨(bm C u v sn i at_ sl ah k).sl.set k (nvS C u v i k),(bm C u v sn i at_ sl ah k).ah.set k at_,(bm C u v sn i at_ sl ah k).least,(bm C u v sn i at_ sl ah k).next⟩:ScS) else bm C u v sn i at_ sl ah k):=λ_=>rfl
  have eW:bj C m ⟨u,v,sl,ah,sn,at_,i⟩=bm C u v sn i at_ sl ah m:=rfl
  have eR:cH C m s.ow row ⟨u,v,sl,ah,sn,at_,i⟩=⟨(cC sn s.ow (bm C u v sn i at_ sl ah m).least (u.set row (nth u row+(bm C u v sn i at_ sl ah m).least)) v (bm C u v sn i at_ sl ah m).sl m).1,(cC sn s.ow (bm C u v sn i at_ sl ah m).least (u.set row (nth u row+(bm C u v sn i at_ sl ah m).least)) v (bm C u v sn i at_ sl ah m).sl m).2.1,
   (cC sn s.ow (bm C u v sn i at_ sl ah m).least (u.set row (nth u row+(bm C u v sn i at_ sl ah m).least)) v (bm C u v sn i at_ sl ah m).sl m).2.2,(bm C u v sn i at_ sl ah m).ah,sn.set (bm C u v sn i at_ sl ah m).next.toNat true,(bm C u v sn i at_ sl ah m).next,(nth s.ow (bm C u v sn i at_ sl ah m).next.toNat).toNat⟩:=rfl
  rw[eW] at bur btk bts btf bnx h8 hx;generalize cH C m s.ow row ⟨u,v,sl,ah,sn,at_,i⟩=w' at eR h8 a4 hx;clear eW hb;generalize bm C u v sn i at_ sl ah=S at *;have kS:=keep eSs;have knv:=keep bnv;have ksk:=keep bsk;have kC2:=keep hCe;have kur:=keep bur;have ktk:=keep btk;have kts:=keep bts;have ktf:=keep btf;have knx:=keep bnx;have kcon:=keep h8;have kun:=keep a4;have kgw:=keep hx;have kR:=keep eR;have krw:=keep cy;have k17:=keep ao;clear eSs bnv bsk hCe bur btk bts btf bnx h8 a4 hx eR cy ao
  repeat' first|(with_reducible first|apply bG|apply cj|apply bE|intro _)|simp[*]
  refine fI 10 (λ(k:Nat)=>k<=m) [0,1,4,5,6,7,8,32] (λ(k:Nat)=>[(9,.w false false (.int .i64 (S k).least)),(10,.w false false (.int .i64 (S k).next)),(33,.w false false (.int .i64 k))]) [7,0,1,4,3] (λ(k:Nat)=>[(6,iA (S k).sl),(9,iA (S k).ah)]) (λ(k:Nat)=>m-k) (λ(_u:Unit)=>True) [0,1,4,5,6] (λ(_u:Unit)=>[(9,.w false false (.int .i64 (S m).least)),(10,.w false false (.int .i64 (S m).next))]) [7,0,1,4,3] (λ(_u:Unit)=>[(6,iA (S m).sl),(9,iA (S m).ah)]) (0) (cG _) (de [] (by simp[eS0]) (by simp[eS0])) (λk hk=>?_) (λ_u hf=>?_)
  .clear eS0 kur ktk kts ktf knx kcon kun kgw kR;by_cases h5:k<m
   .have a5:inI .i64 ((k:Int)+1):=cu (by have:=k17;omega) (by have:=k17;omega)
    have hz:k+1<=m:=ab
    have hCe:∀i j,C i j=nth (nth L i) j:=kC2;have bn:(nth L i).length=m:=krw i hin;obtain⟨l1,l2⟩:(S k).sl.length=m/\(S k).ah.length=m:=ksk k hk;obtain⟨n1,n2⟩:inI .i64 (C i k-nth u i)/\inI .i64 (C i k-nth u i-nth v k):=knv k h5;have eSk:S (k+1)=_:=kS k
    have cx:nvS C u v i k=nth (nth L i) k-nth u i-nth v k:=by unfold nvS;rw[hCe]
    rw[cx] at eSk;rw[hCe] at n1 n2
    have aq:k<sn.length:=ab
    have hkL:k<(nth L i).length:=ab
    have hiL:i<L.length:=ab
    have bk:i<u.length:=ab
    have b6:k<v.length:=ab
    clear kS knv ksk kC2 krw k17 hCe cx;generalize S k=sk at *;obtain⟨sl1,ah1,le1,nx1⟩:=sk;dsimp only at l1 l2 eSk ⊢
    cases hy:nth sn k with
    |true=>
     rw[bX hy] at eSk
     repeat' first|(with_reducible first|apply bG|apply cj|apply bS|apply cK|apply bE|apply bP|intro _)|simp[*,h5,a5,hy,aq,wn]
     all_goals first
      |omega
      |assumption
      |(refine dJ _ _ _ _ _ (k+1) _ ?_ ab ?_;(· exact hz);(refine cg ?_ ?_<;>first|trivial|(simp[*,eSk];done)))
    |false=>
     rw[bH (by rw[hy];decide)] at eSk;have hq:∃q,nth (nth L i) k-nth u i-nth v k=q:=⟨_,rfl⟩;obtain⟨q,hq⟩:=hq;rw[hq] at eSk n2
     have b':k<sl1.length:=ab
     have bl:k<ah1.length:=ab
     by_cases c1:q<nth sl1 k
     .rw[bX c1] at eSk;dsimp only at eSk
      have e1:nth (sl1.set k q) k=q:=by rw[ku _ _ _ _ b',bX rfl]
      rw[e1] at eSk
      have l3:(sl1.set k q).length=m:=ak
      by_cases c2:q<le1
      .rw[bX c2] at eSk
       repeat' first|(with_reducible first|apply bG|apply cj|apply bS|apply bE|refine cT (id:=9) 27 mixed ai ?_|apply bP|intro _)|simp[*,h5,a5,hy,aq,wn,hin,hiL,hkL,bk,b6,bn,wu,wv,hq,n1,n2,c1,c2,b',bl,l1,l2,e1,l3]
       all_goals first
        |omega
        |assumption
        |(refine dJ _ _ _ _ _ (k+1) _ ?_ ab ?_;(· exact hz);(refine cg ?_ ?_<;>first|trivial|(simp[*,eSk];done)))
      .rw[bH c2] at eSk
       repeat' first|(with_reducible first|apply bG|apply cj|apply bS|apply bE|refine cT (id:=9) 27 mixed ai ?_|apply bP|intro _)|simp[*,h5,a5,hy,aq,wn,hin,hiL,hkL,bk,b6,bn,wu,wv,hq,n1,n2,c1,c2,b',bl,l1,l2,e1,l3]
       all_goals first
        |omega
        |assumption
        |(refine dJ _ _ _ _ _ (k+1) _ ?_ ab ?_;(· exact hz);(refine cg ?_ ?_<;>first|trivial|(simp[*,eSk];done)))
     .rw[bH c1] at eSk;dsimp only at eSk;by_cases c2:nth sl1 k<le1
      .rw[bX c2] at eSk
       repeat' first|(with_reducible first|apply bG|apply cj|apply bS|apply bE|refine cT (id:=9) 27 mixed ai ?_|apply bP|intro _)|simp[*,h5,a5,hy,aq,wn,hin,hiL,hkL,bk,b6,bn,wu,wv,hq,n1,n2,c1,c2,b',bl,l1,l2]
       all_goals first
        |omega
        |assumption
        |(refine dJ _ _ _ _ _ (k+1) _ ?_ ab ?_;(· exact hz);(refine cg ?_ ?_<;>first|trivial|(simp[*,eSk];done)))
      .rw[bH c2] at eSk
       repeat' first|(with_reducible first|apply bG|apply cj|apply bS|apply bE|refine cT (id:=9) 27 mixed ai ?_|apply bP|intro _)|simp[*,h5,a5,hy,aq,wn,hin,hiL,hkL,bk,b6,bn,wu,wv,hq,n1,n2,c1,c2,b',bl,l1,l2]
       all_goals first
        |omega
        |assumption
        |(refine dJ _ _ _ _ _ (k+1) _ ?_ ab ?_;(· exact hz);(refine cg ?_ ?_<;>first|trivial|(simp[*,eSk];done)))
   .have aa:k=m:=ab
    subst aa
    repeat' first|(with_reducible first|apply bG|apply cK|apply bE|apply bP|intro _)|simp[*,h5]
    all_goals first
     |omega
     |(refine dp () ?_ ?_;(· trivial);(refine cg ?_ ?_<;>first|trivial|(simp[*];done)))
  .have cl:(S m).sl.length=m/\(S m).ah.length=m:=ksk m (bV m);obtain⟨a,cw,ax⟩:=knx;have bq:inI .i64 (nth u row+(S m).least):=kur;have ao:m<17:=k17;clear eS0 kS knv ksk kC2 krw kur kC k17;generalize S m=sm at *;obtain⟨sl1,ah1,d,nx⟩:=sm;dsimp only at cl cw bq ⊢;subst cw;obtain⟨d8,d9⟩:=cl
   have c8:row<u.length:=ab
   have eT0:cC sn s.ow d (u.set row (nth u row+d)) v sl1 0=(u.set row (nth u row+d),v,sl1):=rfl
   have eTs:∀k,cC sn s.ow d (u.set row (nth u row+d)) v sl1 (k+1)=if nth sn k=true then
    ((cC sn s.ow d (u.set row (nth u row+d)) v sl1 k).1.set (nth s.ow k).toNat (nth (cC sn s.ow d (u.set row (nth u row+d)) v sl1 k).1 (nth s.ow k).toNat+d),(cC sn s.ow d (u.set row (nth u row+d)) v sl1 k).2.1.set k (nth (cC sn s.ow d (u.set row (nth u row+d)) v sl1 k).2.1 k-d),(cC sn s.ow d (u.set row (nth u row+d)) v sl1 k).2.2)
    else ((cC sn s.ow d (u.set row (nth u row+d)) v sl1 k).1,(cC sn s.ow d (u.set row (nth u row+d)) v sl1 k).2.1,(cC sn s.ow d (u.set row (nth u row+d)) v sl1 k).2.2.set k (nth (cC sn s.ow d (u.set row (nth u row+d)) v sl1 k).2.2 k-d)):=λ_=>rfl
   dsimp only at ktk kts ktf kcon kgw kR;generalize cC sn s.ow d (u.set row (nth u row+d)) v sl1=T at *;have kT:=keep eTs;clear eTs
   repeat' first|(with_reducible first|apply bG|apply bE|refine And.intro ?_ ?_|intro _)|simp[*,hr,c8,wu,bq]
   all_goals try first|omega|assumption
   refine fI 10 (λ(k:Nat)=>k<=m) [0,1,4,5,6,9,10,105] (λ(k:Nat)=>[(106,.w false false (.int .i64 k))]) [7,9,4,3] (λ(k:Nat)=>[(0,iA (T k).1),(1,iA (T k).2.1),(6,iA (T k).2.2)]) (λ(k:Nat)=>m-k) (λ(_u:Unit)=>True) [0,1,4,5,6,10] (λ(_u:Unit)=>[]) [7,9,4,3] (λ(_u:Unit)=>[(0,iA (T m).1),(1,iA (T m).2.1),(6,iA (T m).2.2)]) (0) (cG _) (de [] (by simp[eT0]) (by simp[eT0])) (λk hk=>?_) (λ_u hf=>?_)
   .clear eT0 kcon kun kgw kR;by_cases h5:k<m
    .have a5:inI .i64 ((k:Int)+1):=cu ab ab
     have hz:k+1<=m:=ab
     obtain⟨t1,t2,t3⟩:(T k).1.length=n/\(T k).2.1.length=m/\(T k).2.2.length=m:=ktk k hk;have bp:nth sn k=true->∃l:Nat,nth s.ow k=l/\l<n/\inI .i64 (nth (T k).1 l+d)/\inI .i64 (nth (T k).2.1 k-d):=kts k h5;have bo:nth sn k=false->inI .i64 (nth (T k).2.2 k-d):=ktf k h5;have eTk:T (k+1)=_:=kT k
     have aq:k<sn.length:=ab
     have c3:k<s.ow.length:=ab
     clear ktk kts ktf kT ao bq c8;generalize T k=tk at *;obtain⟨tu,tv,tl⟩:=tk;dsimp only at t1 t2 t3 bp bo eTk ⊢
     have b6:k<tv.length:=ab
     have d6:k<tl.length:=ab
     cases hy:nth sn k with
     |true=>
      rw[bX hy] at eTk;obtain⟨l,bc,d',b1,b2⟩:=bp hy;rw[bc] at eTk;simp only[fH] at eTk
      have dj:l<tu.length:=ab
      clear bp bo
      repeat' first|(with_reducible first|apply bG|apply cj|apply bS|apply bE|refine cT (id:=20) 16 mixed ai ?_|apply bP|refine And.intro ?_ ?_|intro _)|simp[*,h5,a5,hy,aq,wn,bc,d',dj,b6,t1,t2,b1,b2,c3,lo]
      all_goals first
       |omega
       |assumption
       |(refine dJ _ _ _ _ _ (k+1) _ ?_ ab ?_;(· exact hz);(refine cg ?_ ?_<;>first|trivial|(simp[*,eTk];done)))
     |false=>
      rw[bH (by rw[hy];decide)] at eTk;have b1:=bo hy;clear bp bo
      repeat' first|(with_reducible first|apply bG|apply cj|apply bS|apply bE|apply bP|intro _)|simp[*,h5,a5,hy,aq,wn,d6,t3,b1]
      all_goals first
       |omega
       |assumption
       |(refine dJ _ _ _ _ _ (k+1) _ ?_ ab ?_;(· exact hz);(refine cg ?_ ?_<;>first|trivial|(simp[*,eTk];done)))
    .have aa:k=m:=ab
     subst aa
     repeat' first|(with_reducible first|apply bG|apply cK|apply bE|apply bP|intro _)|simp[*,h5]
     all_goals first
      |omega
      |(refine dp () ?_ ?_;(· trivial);(refine cg ?_ ?_<;>first|trivial|(simp[*];done)))
   .clear eT0 kT kts ktf;have hR:w'=_:=kR;have hx:(if nth s.ow ((a:Nat):Int).toNat<0 then w' else Ak C m s.ow row (bL w'.sn+1) w')=W:=kgw;have h8:¬nth s.ow ((a:Nat):Int).toNat<0->GI C n c row s.ow w':=kcon;have a4:bL w'.sn+1=bL sn:=kun
    have ck:a<sn.length:=ab
    have b7:a<s.ow.length:=ab
    clear kR kgw kcon kun ktk d8 d9 c8 bq ao;rw[fH] at hx h8 hR;generalize T m=tm at *;obtain⟨tu,tv,tl⟩:=tm;dsimp only at hR ⊢;by_cases ho:nth s.ow a<0
    .rw[bX ho] at hx;rw[hx] at hR;subst hR;clear h8 a4 hx w'
     repeat' first|(with_reducible first|apply bG|apply cK|apply bE|apply bP|refine And.intro ?_ ?_|intro _)|simp[*,wn,ck,lo,b7,ax,ho]
     all_goals first
      |omega
      |assumption
      |(refine dp () ?_ ?_;(· trivial);(refine de [] ?_ ?_<;>first|trivial|(simp[*];done)))
    .rw[bH ho] at hx;have hg:=h8 ho;have kg:=keep (And.intro hg hx);obtain⟨l,bc⟩:∃l:Nat,nth s.ow a=l:=⟨(nth s.ow a).toNat,ab⟩
     have d7:¬((l:Nat):Int)<0:=ab
     rw[bc,fH] at hR
     have dy:bL w'.sn<bL sn:=ab
     clear h8 a4 hx hg ho
     repeat' first|(with_reducible first|apply bG|apply bS|apply bE|apply bP|refine And.intro ?_ ?_|intro _)|simp[*,wn,ck,lo,b7,ax,bc,d7]
     all_goals first
      |omega
      |assumption
      |(refine dJ _ _ _ _ _ w' _ ?_ aE ?_;(· exact kg);(refine de [] ?_ ?_<;>first|trivial|(simp[*,hR];done)))
 .have d:zcg C n c row s.ow W:=kd;have hm:m=c+n:=km;have ao:m<17:=k17;have hKK:=kK;unfold dh zdz at hKK;dsimp only at hKK
  have c4:W.ah.length=m:=by rw[hm];exact d.la
  have kF:=keep (hKK W.ah c4);clear kG kK kr kb kgo kun kC kg kW k17 hKK;obtain⟨rk,r1,r2,r3⟩:=d.rk
  have bg:∀j,j<m->nth W.sn j=true->(nth W.ah j=-1\/(0<=nth W.ah j/\nth W.ah j<(m:Int)/\nth W.sn (nth W.ah j).toNat=true)):=λj hj hn=>by
   rcases d.pth j ab hn with ⟨h1,_⟩|⟨h1,h2,h3,_⟩
   .exact .inl h1
   .exact .inr ⟨h1,by rw[hm];exact h2,h3⟩
  have bf:∀j,j<m->nth W.sn j=true->0<=nth W.ah j->rk (nth W.ah j).toNat<rk j:=λj hj=>r2 j ab
  have eA:∀f a (o:List Int),kB W.ah row (f+1) ((a:Nat):Int) o=kB W.ah row f (nth W.ah a) (o.set a (if nth W.ah a<0 then (row:Int) else nth o (nth W.ah a).toNat)):=λf a o=>by
   conv=>lhs;unfold kB
   rw[bH ab,fH]
  have eN:∀f (o:List Int),kB W.ah row f (-1) o=o:=λf o=>by
   cases f with
   |zero=>rfl
   |succ f=>unfold kB;rw[bX ab]
  have a0:=d.a0;have a1:=d.a1;have a3:=d.a3;have cz:=r1 W.at_.toNat ab a3;generalize hOW:kB W.ah row (m+1) W.at_ s.ow=OW at kF;generalize W.at_=at0 at *;generalize W.ah=ah at *;generalize W.sn=sn at *
  have kJ:dh (kB ah row (m+1) at0 s.ow=OW/\s.ow.length=m/\(at0=-1\/(0<=at0/\at0<(m:Int)/\nth sn at0.toNat=true/\rk at0.toNat<m+1))):=
   ⟨hOW,lo,.inr ⟨a0,by rw[hm];exact a1,a3,ab⟩⟩
  have kV:=keep bg;have kk2:=keep bf;have kA:=keep eA;have kN:=keep eN;have k17:=keep ao;clear bg bf eA eN hOW a0 a1 a3 cz r1 r2 r3 d kd ao hm km
  repeat' first|(with_reducible first|intro _)|simp[*]
  refine fI 10 (λ(y:Int×List Int×Nat)=>kB ah row y.2.2 y.1 y.2.1=OW/\y.2.1.length=m/\(y.1=-1\/(0<=y.1/\y.1<(m:Int)/\nth sn y.1.toNat=true/\rk y.1.toNat<y.2.2))) [0,1] (λ(y:Int×List Int×Nat)=>[(7,.w false false (.int .i64 y.1))]) [4,9,0,1] (λ(y:Int×List Int×Nat)=>[(3,iA y.2.1)]) (λ(y:Int×List Int×Nat)=>y.2.2) (λ(_u:Unit)=>True) [] (λ(_u:Unit)=>[]) [4,9,0,1] (λ(_u:Unit)=>[(3,iA OW)]) ((at0,s.ow,m+1)) kJ (de [] ae ae) (λy hk=>?_) (λ_u hf=>?_)
  .clear kJ kF;obtain⟨a',o,f⟩:=y;obtain⟨hj,bh,ha⟩:=hk;dsimp only at hj bh ha ⊢;have eN:∀f (o:List Int),kB ah row f (-1) o=o:=kN
   rcases ha with ha|⟨h1,h2,h3,h4⟩
   .subst ha;rw[eN] at hj;clear kV kk2 kA kN k17 eN
    repeat' first|(with_reducible first|apply bG|apply cK|apply bE|apply bP|intro _)|simp[*]
    all_goals first
     |omega
     |(refine dp () ?_ ?_;(· trivial);(refine cg ?_ ?_<;>first|trivial|(simp[*,hj];done)))
   .obtain⟨a,rfl⟩:∃a:Nat,a'=a:=⟨a'.toNat,ab⟩;rw[fH] at h3 h4
    have ax:a<m:=ab
    obtain⟨f',rfl⟩:∃f',f=f'+1:=⟨f-1,ab⟩;have hA:kB ah row (f'+1) ((a:Nat):Int) o=_:=kA f' a o;rw[hA] at hj
    have cf:a<ah.length:=ab
    have b7:a<o.length:=ab
    have c9:(0:Int)<=a:=ab
    have hv:nth ah a=-1\/(0<=nth ah a/\nth ah a<(m:Int)/\nth sn (nth ah a).toNat=true):=kV a ax h3;have bd:0<=nth ah a->rk (nth ah a).toNat<rk a:=kk2 a ax h3;have du:f'<f'+1:=yj _
    rcases hv with hv|⟨v1,v2,v3⟩
    .rw[hv,bX ab] at hj;have kj:dh (kB ah row f' (-1) (o.set a (row:Int))=OW/\(o.set a (row:Int)).length=m/\((-1:Int)=-1\/(0<=(-1:Int)/\(-1:Int)<(m:Int)/\nth sn (-1:Int).toNat=true/\rk (-1:Int).toNat<f'))):=⟨hj,by rw[oM,bh],.inl rfl⟩;clear kV kk2 kA kN k17 eN hj hA bd h1 h2 h3 h4
     repeat' first|(with_reducible first|apply bG|apply cj|apply bS|apply bE|apply bP|refine And.intro ?_ ?_|intro _)|simp[*,cf,b7,c4,bh,hv,ax,c9]
     all_goals first
      |omega
      |assumption
      |(refine nx (-1,o.set a (row:Int),f') ?_ ?_;(· exact kj);(refine cg ?_ ?_<;>first|trivial|(simp[*];done)))
    .obtain⟨b,hb⟩:∃b:Nat,nth ah a=b:=⟨(nth ah a).toNat,ab⟩;rw[hb,bH ab] at hj;rw[hb] at v1 v2 v3 bd;rw[fH] at hj v3 bd
     have d4:b<o.length:=ab
     have d3:b<m:=ab
     have d2:¬((b:Nat):Int)<0:=ab
     have dr:=bd ab
     have kj:dh (kB ah row f' (b:Int) (o.set a (nth o b))=OW/\(o.set a (nth o b)).length=m/\((b:Int)=-1\/(0<=(b:Int)/\(b:Int)<(m:Int)/\nth sn (b:Int).toNat=true/\rk (b:Int).toNat<f'))):=
      ⟨hj,by rw[oM,bh],.inr ⟨ab,ab,by rw[fH];exact v3,by rw[fH];omega⟩⟩
     clear kV kk2 kA kN k17 eN hj hA bd h1 h2 h3 h4 dr v1 v2 v3
     repeat' first|(with_reducible first|apply bG|apply cj|apply bS|apply bE|refine cT (id:=32) 13 mixed ai ?_|apply bP|refine And.intro ?_ ?_|intro _)|simp[*,cf,b7,c4,bh,hb,d4,d3,ax,c9,d2]
     all_goals first
      |omega
      |assumption
      |(refine nx ((b:Int),o.set a (nth o b),f') ?_ ?_;(· exact kj);(refine cg ?_ ?_<;>first|trivial|(simp[*];done)))
  trivial
theorem zgv{fk:Fk}{a b c:St}(h:Lek fk a b)(k:Lek fk b c):Lek fk a c:=λB w0 x w m hs=>let ⟨m',h'⟩:=h B w0 x w m hs;k B w0 x w m' h'
def zd0(L:List (List Int))(n m:Nat)(s:Hs):PV:=.ip [.sl n (n5 L),.sl n (ints s.u),.sl m (ints s.v),.sl m (ints s.ow),.undef] 0
theorem zgw(L:List (List Int))(n c m:Nat)(hm:m=c+n)(hL:L.length=n)(h9:∀i,i<n->(nth L i).length=m)(hp:Hp (λi j=>nth (nth L i) j) n c):bT Tz.prog 79 [.sl n (n5 L),.int .i64 m] (zd0 L n m (qk (λi j=>nth (nth L i) j) n m n)) false:=by
 have hA:=λr (hr:r<=n)=>zc5 hp r hr
 have eA:∀r,qk (λi j=>nth (nth L i) j) n m (r+1)=C3 (λi j=>nth (nth L i) j) m (qk (λi j=>nth (nth L i) j) n m r) r:=λ_=>rfl
 have e0:qk (λi j=>nth (nth L i) j) n m 0=⟨List.replicate n 0,List.replicate m 0,List.replicate m (-1)⟩:=rfl
 have hw:=λr (hr:r<n) (s:Hs) mi p0 K=>zim L n c m hm hL h9 hp r hr s mi p0 K
 rw[<-hm] at hA;generalize qk (λi j=>nth (nth L i) j) n m=A at *
 have hh:m<17:=by have:=hp.nn;have:=hp.cc;omega
 have bb:n<9:=by have:=hp.nn;omega
 have r1:=zci (-1) m ab;have i1:inI .i64 (n:Int):=cu ab ab;have i2:inI .i64 (m:Int):=cu ab ab
 have i3:(n:Int)<=1000000000:=ab
 have i4:(m:Int)<=1000000000:=ab
 have kk:=keep (And.intro hA (And.intro eA (And.intro hw (And.intro hh bb))))
 have f1:iA (A 0).u=List.replicate n (.w false false (.int .i64 0)):=by rw[e0];simp[iA,ints]
 have f2:iA (A 0).v=List.replicate m (.w false false (.int .i64 0)):=by rw[e0];simp[iA,ints]
 have f3:(A 0).ow=List.replicate m (-1):=by rw[e0]
 clear hA eA hw hh bb e0 hp h9;unfold zd0;have kL:=keep hL;have km:=keep hm;clear hL hm;refine rcK Tz.func79 ?_;simp only[Tryz.results79,Tryz.ntmps79]
 repeat' first|(with_reducible first|apply bG|apply bE|refine cT (id:=1) 12 mixed ai ?_|refine cwM (r1) ?_|intro _)|simp[*,i1,i2,i3,i4]
 all_goals try first|omega|assumption
 clear r1;refine fI 5 (λ(r:Nat)=>r<=n) [5,19] (λ(r:Nat)=>[(20,.w false false (.int .i64 r))]) [] (λ(r:Nat)=>[(4,[.w false false (.sl n (n5 L)),.msl 0 n 1 0 n,.msl 1 m 1 0 m,.msl 3 m 1 0 m,.w false false .undef]),(0,iA (A r).u),(1,iA (A r).v),(3,iA (A r).ow)]) (λ(r:Nat)=>n-r) (λ(_u:Unit)=>True) [5] (λ(_u:Unit)=>[]) [] (λ(_u:Unit)=>[(4,[.w false false (.sl n (n5 L)),.msl 0 n 1 0 n,.msl 1 m 1 0 m,.msl 3 m 1 0 m,.w false false .undef]),(0,iA (A n).u),(1,iA (A n).v),(3,iA (A n).ow)]) (0) (cG _) (de [] ae al) (λr hk=>?_) (λ_u hf=>?_)
 .clear f1 f2 f3;by_cases h5:r<n
  .obtain⟨hA,eA,hw,hh,bb⟩:=kk;have ag:=hA r hk;have hs:=hw r h5 (A r) ag .undef;rw[<-eA r] at hs;have a5:inI .i64 ((r:Int)+1):=cu ab ab
   have hz:r+1<=n:=ab
   unfold zdz at hs;have khs:=keep hs;clear hA eA hw hh bb ag hs
   repeat' first|(with_reducible first|refine rF (id:=5) 2 Tz.func117 aj (show Tryz.f117.body=some (Tryz.f117.body.getD .skip) from rfl) af rfl ?_|apply bG|apply cj|apply bS|apply bE|apply bP|intro _)|simp[*,h5,a5]
   all_goals try first|omega|assumption
   refine Bx af ae rfl ?_;refine khs _ (λah dt=>?_);clear khs
   repeat' first|(with_reducible first|apply bE|intro _)|simp[*,h5,a5]
   refine dJ _ _ _ _ _ (r+1) _ hz ab (zgv (b:=⟨[(20,.w false false (.int .i64 ((r:Int)+1))),(5,.ptr 4 5 0),(19,.w false false (.int .i64 n))],[(4,[.w false false (.sl n (n5 L)),.msl 0 n 1 0 n,.msl 1 m 1 0 m,.msl 3 m 1 0 m,.w false false (.sl m (ints ah))]),(0,iA (A (r+1)).u),(1,iA (A (r+1)).v),(3,iA (A (r+1)).ow)],5,28⟩) (de [9] ?_ ?_) (de [] ?_ ?_))
   all_goals first|trivial|(simp[*];done)
  .have aa:r=n:=ab
   subst aa
   repeat' first|(with_reducible first|apply bG|apply cK|apply bE|apply bP|intro _)|simp[*,h5]
   all_goals first
    |omega
    |(refine dp () ?_ ?_;(· trivial);(refine cg ?_ ?_<;>first|trivial|simp))
 .clear f1 f2 f3;have ag:=kk.1 n (bV n);have c5:m=c+n:=km;have l1:=ag.lu
  have l2:(A n).v.length=m:=by rw[c5];exact ag.lv
  have l3:(A n).ow.length=m:=by rw[c5];exact ag.lo
  clear kk ag c5 km
  repeat' first|(with_reducible first|apply bG|apply bU|apply bE|intro _)|simp[*,l1,l2,l3]
theorem zgx(x:Rd)(ok:ft x):bT Tz.prog 80 [x.pv] (.sl x.os.length (n5 (kz x x.os.length))) true:=by
 have b3:=λi hi=>P3 x ok i hi
 have lo:=ok.lo;have lc:=ok.lc;have lw:=ok.lw;have lf:=ok.lf;have fr:=ok.fr;have wr:=ok.wr
 have eE:∀i j,C1 x i j=if j<x.bz.length/\nth (nth x.fit i) j=true then nth (nth x.wt i) j else if j=x.bz.length+i then dR (prio x i) else 1000000000000000:=λ_ _=>rfl
 have eR:∀i,tS x i=(List.range (x.bz.length+x.os.length)).map (C1 x i):=λ_=>rfl
 have eS:∀k,cm (kz x (k+1))=cm (kz x k)++[.w true false (.sl (x.bz.length+x.os.length) (ints (tS x k)))]:=λk=>zgo x k
 have eL:∀k,(cm (kz x k)).length=k:=λk=>by simp
 have eSl:=zec x x.os.length
 have eRl:∀i,(tS x i).length=x.bz.length+x.os.length:=λi=>by simp
 have e0:cm (kz x 0)=[]:=rfl;generalize kz x=S at *;generalize tS x=R at *;generalize C1 x=E at *;generalize prio x=pr at *;clear ok;obtain⟨bz,os,wt,zs,fit⟩:=x;unfold Rd.pv;simp only[] at *;have kk:=keep (And.intro b3 (And.intro lo (And.intro lc (And.intro lw (And.intro lf (And.intro fr (And.intro wr (And.intro eE (And.intro eR (And.intro eS eRl))))))))));clear b3 lo lc lw lf fr wr eE eR eS eRl;refine rcK Tz.func80 ?_;simp only[Tryz.results80,Tryz.ntmps80]
 repeat' first|(with_reducible first|apply bG|apply bE|intro _)|simp[*]
 refine fI 1 (λ(k:Nat)=>k<=os.length) [0,3,19,20] (λ(k:Nat)=>[(4,.msl 0 k 1 0 k),(21,.w false false (.int .i64 k))]) [] (λ(k:Nat)=>[(0,cm (S k))]) (λ(k:Nat)=>os.length-k) (λ(_u:Unit)=>True) [] (λ(_u:Unit)=>[(4,.msl 0 os.length 1 0 os.length)]) [] (λ(_u:Unit)=>[(0,cm (S os.length))]) (0) (cG _) (de [] (by simp[e0]) (by simp[e0])) (λk hk=>?_) (λ_u hf=>?_)
 .by_cases h5:k<os.length
  .obtain⟨b3,lo,lc,lw,lf,fr,wr,eE,eR,eS,eRl⟩:=kk;have h1:=b3 k h5
   have ct:k<fit.length:=ab
   have cv:k<wt.length:=ab
   have ay:=fr k h5;have b4:=wr k h5;have h6:(nth os k).2.2.2=((pr k:Nat):Int):=h1.2.symm;have eE2:=eE k;have eR2:=eR k;have eS2:=eS k;have eRl2:=eRl k;have c1:=sD (pr k) h1.1;generalize dR (pr k)=pp at *;have a9:inI .i64 ((k:Int)+1):=cu ab ab
   have hz:k+1<=os.length:=ab
   obtain⟨nn,aw⟩:∃nn,nn=bz.length+os.length:=⟨_,rfl⟩
   have b8:(bz.length:Int)+(os.length:Int)=(nn:Int):=ab
   have hin:inI .i64 (nn:Int):=cu ab ab
   have bb:(nn:Int)<=1000000000:=ab
   rw[<-aw] at eR2 eS2 eRl2
   have eA:cN (E k) 0 nn nn=R k:=by rw[zeb,eR2]
   have k1:=keep (And.intro lo (And.intro lc (And.intro ay (And.intro b4 (And.intro eE2 (And.intro aw a9))))));clear b3 lo lc lw lf fr wr h1 eE eE2 eR eR2 eRl eS ay b4 aw a9;have e00:=zea (E k) 0 nn
   repeat' first|(with_reducible first|apply bG|apply cj|apply bS|apply bE|apply bP|refine And.intro ?_ ?_|intro _)|simp[*,h5,b8,hin,Tw.dW]
   all_goals try first
    |omega
    |assumption
   refine fI 3 (λ(j:Nat)=>j<=nn) [0,3,4,5,6,7,19,20,21,36] (λ(j:Nat)=>[(37,.w false false (.int .i64 j))]) [0,1] (λ(j:Nat)=>[(2,iA (cN (E k) 0 nn j))]) (λ(j:Nat)=>nn-j) (λ(_u:Unit)=>True) [0,3,4,7,19,20,21] (λ(_u:Unit)=>[]) [0,1] (λ(_u:Unit)=>[(2,iA (R k))]) (0) (cG _) (de [] (by simp[e00]) (by simp[e00])) (λj hk=>?_) (λ_u hf=>?_)
   .clear e00;by_cases b5:j<nn
    .obtain⟨lo,lc,ay,b4,eE2,aw,a9⟩:=k1;have es:=zd9 (E k) 0 nn j b5;have el:=zcy (E k) 0 nn j hk;have bi:inI .i64 ((j:Int)+1):=cu ab ab;have bu:inI .i64 ((bz.length:Int)+k):=cu ab ab
     have br:j+1<=nn:=ab
     have eEj:=eE2 j;rw[eEj] at es;generalize cN (E k) 0 nn j=Lj at *;by_cases b9:j<bz.length
     .have cp:j<(nth fit k).length:=ab
      have cq:j<(nth wt k).length:=ab
      have bv:¬(j:Int)=(bz.length:Int)+k:=ab
      have a6:¬j=bz.length+k:=ab
      cases hb:nth (nth fit k) j with
      |true=>
       rw[bX ⟨b9,hb⟩] at es;clear lo lc ay b4 eE2 aw a9 eEj eA eS2 c1
       repeat' first|(with_reducible first|apply bG|apply cj|apply bS|apply bE|apply bP|intro _)|simp[*,b5,b9,ct,cv,cp,cq,hb,h5,el,bi]
       all_goals first
        |omega
        |assumption
        |(refine dJ _ _ _ _ _ (j+1) _ ?_ ab ?_;(· exact br);(refine cg ?_ ?_<;>first|trivial|(simp[*,es];done)))
      |false=>
       rw[bH (by rw[hb];simp),bH a6] at es;clear lo lc ay b4 eE2 aw a9 eEj eA eS2 c1
       repeat' first|(with_reducible first|apply bG|apply cj|apply bS|apply bE|apply bP|intro _)|simp[*,b5,b9,ct,cv,cp,cq,hb,h5,el,bi,bu,bv]
       all_goals first
        |omega
        |assumption
        |(refine dJ _ _ _ _ _ (j+1) _ ?_ ab ?_;(· exact br);(refine cg ?_ ?_<;>first|trivial|(simp[*,es];done)))
     .by_cases a6:j=bz.length+k
      .have d5:(bz.length:Int)+k=(j:Int):=ab
       have dv:inI .i64 (j:Int):=cu ab ab;rw[bH ab,bX a6] at es;clear lo lc ay b4 eE2 aw a9 eEj eA eS2 bu a6
       repeat' first|(with_reducible first|apply bG|apply cj|apply bS|apply bE|apply bP|refine And.intro ?_ ?_|intro _)|simp[*,b5,b9,h5,el,bi,d5,Tw.dW,h6]|(refine bN (c1) ?_ ?_;· simp[*];done)
       all_goals first
        |omega
        |assumption
        |(refine dJ _ _ _ _ _ (j+1) _ ?_ ab ?_;(· exact br);(refine cg ?_ ?_<;>first|trivial|(simp[*,es];done)))
      .have bv:¬(j:Int)=(bz.length:Int)+k:=ab
       rw[bH ab,bH a6] at es;clear lo lc ay b4 eE2 aw a9 eEj eA eS2 c1
       repeat' first|(with_reducible first|apply bG|apply cj|apply bS|apply bE|apply bP|intro _)|simp[*,b5,b9,h5,el,bi,bu,bv]
       all_goals first
        |omega
        |assumption
        |(refine dJ _ _ _ _ _ (j+1) _ ?_ ab ?_;(· exact br);(refine cg ?_ ?_<;>first|trivial|(simp[*,es];done)))
    .have aa:j=nn:=ab
     subst aa;clear k1
     repeat' first|(with_reducible first|apply bG|apply cK|apply bE|apply bP|intro _)|simp[*,b5]
     all_goals first
      |omega
      |(refine dp () ?_ ?_;(· trivial);(refine cg ?_ ?_<;>first|trivial|(simp[*,eA];done)))
   .clear e00 eA;have a9:inI .i64 ((k:Int)+1):=k1.2.2.2.2.2.2;clear k1
    repeat' first|(with_reducible first|apply bE|refine And.intro ?_ ?_|intro _)|simp[*,h5,a9,eRl2]
    all_goals first
     |omega
     |assumption
     |(refine dJ _ _ _ _ _ (k+1) _ ?_ ab ?_;(· exact hz);(refine de [2] ?_ ?_<;>first|trivial|(simp[*,eS2,eRl2];done)))
  .have aa:k=os.length:=ab
   subst aa
   repeat' first|(with_reducible first|apply bG|apply cK|apply bE|apply bP|intro _)|simp[*,h5]
   all_goals first
    |omega
    |(refine dp () ?_ ?_;(· trivial);(refine cg ?_ ?_<;>first|trivial|simp))
 .clear e0 eL
  repeat' first|(with_reducible first|apply bG|apply bU|apply bE|intro _)|simp[*,eSl]
end Go.Proofs.YthpkmilhiganjaaGreat
namespace Go.Proofs.YthpkmilhiganjaaGreat
open Go Go.Fi
theorem zeo(x:Rd)(plan:List Int)(h:(gv x plan).2=0):PlanIn x plan:=by
 unfold gv at h;split at h
 .trivial
 .rename_i hl
  have hz:=λj hj=>P2 h j hj
  refine⟨by have:=pT.1 hl;omega,λk hk=>?_⟩;have h1:=hz k hk;simp only[eo] at h1;unfold kZ at h1;by_cases hn:nth plan k=-1
  .exact .inl hn
  .rw[bH hn] at h1;split at h1
   .trivial
   .rename_i h2;have:=kQ.1 (qc af (pT.1 h2));omega
noncomputable instance instLD23:bJ:=LD
noncomputable instance instLD37:bJ:=LD
def FL(x:Rd)(i j:Nat):Int:=nth (nth (kz x x.os.length) i) j
theorem C9{α:Type}[Inhabited α](f:Nat->α)(n j:Nat)(h:j<n):nth ((List.range n).map f) j=f j:=by
 simp[nth,eu,h]
theorem WK(x:Rd)(i j:Nat)(hi:i<x.os.length)(hj:j<x.bz.length+x.os.length):FL x i j=C1 x i j:=by
 unfold FL kz;rw[C9 _ _ _ hi];unfold tS;rw[C9 _ _ _ hj]
theorem zb7(x:Rd)(ok:ft x):Hp (FL x) x.os.length x.bz.length:=by
 refine⟨ok.lo,ok.lc,λi hi=>?_,λi l hi hl dl=>?_,λi j hi hj=>?_⟩
 .rw[WK x i _ hi ab];unfold C1;rw[bH ab,bX rfl];have:=rC (prio x i) (P3 x ok i hi).1;omega
 .rw[WK x i _ hi ab];unfold C1;rw[bH ab,bH ab]
 .rw[WK x i _ hi ab];unfold C1;by_cases hf:nth (nth x.fit i) j=true
  .rw[bX ⟨hj,hf⟩];have:=ok.wn i hi j hj;omega
  grind
noncomputable def cM(x:Rd):Hs:=qk (FL x) x.os.length (x.bz.length+x.os.length) x.os.length
noncomputable def ba(x:Rd):List Int:=kx (cM x).ow x.os.length x.bz.length
noncomputable def bK(x:Rd):List Int:=(List.range x.bz.length).map λk=>-(nth (cM x).v k)
noncomputable def Bd(x:Rd):List Int:=(List.range x.os.length).map λi=>kH x i (bK x)
theorem zcj(x:Rd)(ok:ft x):MI (FL x) x.os.length x.bz.length x.os.length (cM x).u (cM x).v (cM x).ow:=zc5 (zb7 x ok) _ (bV _)
theorem zep(x:Rd)(ok:ft x)(k:Nat)(hk:k<x.bz.length):0<=nth (bK x) k/\nth (bK x) k<=1000000000000:=by
 have m:=zcj x ok;unfold bK;rw[C9 _ _ _ hk];have h1:=m.hv k ab;have h2:=m.vb (zb7 x ok) (bV _) (j:=k) ab;omega
theorem zeq(tk:List Int)(n:Nat):∀c,(∀k,k<c->nth tk k<(n:Int))->∀i,nth (kx tk n c) i=-1\/(0<=nth (kx tk n c) i/\nth (kx tk n c) i<(c:Int))\/n<=i
 |0,_,i=>by
  by_cases h:i<n
  .left;exact D7 _ _ _ h
  omega
 |c+1,h,i=>by
  have ih:=zeq tk n c (λk hk=>h k ab) i;have hc:=h c ab;unfold kx;by_cases h0:0<=nth tk c
  .rw[bX h0,ku _ _ _ _ (by rw[C5];omega)];split
   .right;left;omega
   .rcases ih with h1|h1|h1
    .exact .inl h1
    .right;left;omega
    .exact .inr (.inr h1)
  grind
theorem zer(x:Rd)(ok:ft x):PlanIn x (ba x):=by
 have m:=zcj x ok;refine⟨C5 _ _ _,λk hk=>?_⟩
 have dx:k<x.os.length:=by rw[<-C5 (cM x).ow x.os.length x.bz.length];exact hk
 rcases zeq (cM x).ow x.os.length x.bz.length (λk hk=>by rcases m.how k ab with h|h<;>omega) k with h|h|h
 .exact .inl h
 .exact .inr h
 .omega
noncomputable def zcu(x:Rd):PV:=.agg [.sl x.os.length (ints (ba x)),.int .i64 (eF x (ba x)),.sl x.os.length (ints (Bd x)),.sl x.bz.length (ints (bK x))]
def bw(f:Nat->Int):Nat->Int
 |0=>0
 |k+1=>bw f k+f k
theorem Li{f g:Nat->Int}:∀n,(∀k,k<n->f k<=g k)->bw f n<=bw g n
 |0,_=>Int.le_refl _
 |n+1,h=>by
  have:=Li n (λk hk=>h k ab);have:=h n ab;unfold bw;omega
theorem zb8{f g:Nat->Int}(n:Nat)(h:∀k,k<n->f k=g k):bw f n=bw g n:=
 Int.le_antisymm (Li n λk hk=>Int.le_of_eq (h k hk)) (Li n λk hk=>Int.le_of_eq (h k hk).symm)
theorem zes{f g:Nat->Int}{c:Nat}{v:Int}:∀n,c<n->(∀k,k<n->k≠c->g k=f k)->g c=f c+v->bw g n=bw f n+v
 |n+1,hc,h,hv=>by
  unfold bw;by_cases e:c=n
  .subst e;have:=zb8 (f:=g) (g:=f) c (λk hk=>h k ab ab);omega
  .have:=zes n ab (λk hk hn=>h k ab hn) hv;have:=h n ab (λe'=>e e'.symm);omega
theorem zb9(l:List Int):∀n,mE l n=bw (nth l) n
 |0=>rfl
 |n+1=>by unfold mE bw;rw[zb9 l n]
def mF(pc plan:List Int):Nat->Int
 |0=>0
 |k+1=>if nth plan k=-1 then mF pc plan k else mF pc plan k+nth pc (nth plan k).toNat
structure PC(x:Rd)(plan:List Int):Prop extends PlanIn x plan where
 fit:∀k,k<plan.length->nth plan k≠-1->nth (nth x.fit k) (nth plan k).toNat=true
 once:∀k,k<plan.length->nth plan k≠-1->∀j,j<k->nth plan j≠nth plan k
theorem zc7(x:Rd)(pc plan:List Int)(h:PC x plan):∀k,k<=plan.length->mF pc plan k=bw (λc=>if (plan.take k).contains (c:Int) then nth pc c else 0) x.bz.length
 |0,_=>by
  have:∀n,bw (λc=>if (plan.take 0).contains (c:Int) then nth pc c else 0) n=0:=λn=>by
   induction n with
   |zero=>rfl
   |succ n ih=>unfold bw;rw[ih];simp
  rw[this];rfl
 |k+1,hk=>by
  have ih:=zc7 x pc plan h k ab
  have ht:plan.take (k+1)=plan.take k++[nth plan k]:=by
   rw[ym ab];simp[nth,eu,dY (show k<plan.length by omega)]
  unfold mF;by_cases hn:nth plan k=-1
  .rw[bX hn,ih];simp_all
  .rw[bH hn,ih];have hr:=(h.at_ k ab).resolve_left hn;have c7:=h.once k ab hn;refine (zes (c:=(nth plan k).toNat) _ ab (λc hc dl=>?_) ?_).symm
   .rw[ht]
    have c6:¬(c:Int)=nth plan k:=ab
    simp[c6]
   .have e:(((nth plan k).toNat:Nat):Int)=nth plan k:=ab
    rw[e,ht]
    have dm:¬nth plan k∈plan.take k:=by
     intro hc;rw[Dm] at hc;obtain⟨j,hj,e⟩:=hc;exact c7 j ab (by rw[<-e];simp[nth,eu,dY (show j<plan.length by omega)])
    simp[dm]
theorem zgy(x:Rd)(pc plan:List Int)(h:PC x plan)(hp:∀c,c<x.bz.length->0<=nth pc c):mF pc plan plan.length<=mE pc x.bz.length:=by
 rw[zc7 x pc plan h _ (bV _),zb9]
 refine Li _ λc hc=>?_
 have:=hp c hc
 split<;>omega
theorem zd1(row:List Bool)(w p:List Int)(m0:Int):∀n,mK row w p m0 n<=m0/\∀k,k<n->nth row k=true->mK row w p m0 n<=nth w k+nth p k
 |0=>⟨Int.le_refl _,λk hk=>absurd hk ab⟩
 |n+1=>by
  obtain⟨h1,h2⟩:=zd1 row w p m0 n;unfold mK
  grind
theorem zet(x:Rd)(ok:ft x)(po pc plan:List Int)(h:PC x plan)(hl:po.length=x.os.length)(ho:∀i,i<po.length->nth po i<=kH x i pc):∀k,k<=plan.length->eB x x.os.length-eB x k+mE po k-mF pc plan k<=cE x plan k
 |0,_=>by unfold cE mF;simp
 |k+1,hk=>by
  have ih:=zet x ok po pc plan h hl ho k ab
  have c3:k<x.os.length:=by have:=h.len;omega
  have h1:=ho k ab;have h2:=zd1 (nth x.fit k) (nth x.wt k) pc (dR (nth x.os k).2.2.2.toNat) (nth x.fit k).length;unfold kH at h1
  rw[show cE x plan (k+1)=if nth plan k=-1 then cE x plan k else cE x plan k+(CN x k (nth plan k)-dR (prio x k)) from rfl,show mF pc plan (k+1)=if nth plan k=-1 then mF pc plan k else mF pc plan k+nth pc (nth plan k).toNat from rfl,
   show eB x (k+1)=eB x k+dR (prio x k) from rfl,show mE po (k+1)=mE po k+nth po k from rfl]
  unfold CN prio;by_cases hn:nth plan k=-1
  .rw[bX hn,bX hn];have:=h2.1;omega
  .rw[bH hn,bH hn];have hr:=(h.at_ k ab).resolve_left hn;have h3:=h2.2 (nth plan k).toNat (by rw[ok.fr k c3];omega) (h.fit k ab hn);omega
end Go.Proofs.YthpkmilhiganjaaGreat
