/- Lemmas. -/
import Derived.Test.YthpkmilhiganjaaGreatPEb
import Derived.Test.YthpkmilhiganjaaGreatPLg
import Derived.Test.YthpkmilhiganjaaGreatPDb
set_option linter.all false
set_option maxHeartbeats 32000000
set_option maxRecDepth 100000
namespace Go.Proofs.YthpkmilhiganjaaGreat
open Go Go.Fi
def bf(tr:List Int):Bool:=tr.any λx=>!cj x 0 1000
def bn(r:Tw.RND)(tr:List Int)(b e:Int):Int:=
 eo [e,da (decide ((tr.length:Int)=(r.bD.length:Int))) 10,da (!bf tr&&cj b 0 100000) 2]
section
variable[bE]
theorem eP(x:Int):bX Tz.prog 94 [.int .i64 x] (.bool (!cj x 0 1000)) true:=by
 have c:=gL x 0 1000;refine rcK Tz.func94 ?_;simp only[Tryz.results94,Tryz.ntmps94]
 repeat' first|(with_reducible first|apply bI|apply bV|apply bH|refine And.intro ?_ ?_|intro _)|simp[*]|(refine bJ (c) ?_ ?_;· simp[*];done)
 all_goals first|omega
end
noncomputable instance zem:bE:=LD
theorem Av(r:Tw.RND)(h:ceR r≠0)(tr:List Int)(ht:tr.length<1000)(b:Int):bX Tz.prog 47 [Tw.dR r,.sl tr.length (ints tr),.int .i64 b] (.tup [bm,.int .i64 (ceR r)]) false:=by
 have c1:=qI r;rw[Pa r h] at c1;have c2:=w9 tr ab 94 [] (λx=>!cj x 0 1000) eP;have c3:=fC (decide ((tr.length:Int)=(r.bD.length:Int))) 10;have c4:=gL b 0 100000;have c5:=fC (!bf tr&&cj b 0 100000) 2;have c6:=rC [ceR r,da (decide ((tr.length:Int)=(r.bD.length:Int))) 10,da (!bf tr&&cj b 0 100000) 2] ae
 have e6:eo [ceR r,da (decide ((tr.length:Int)=(r.bD.length:Int))) 10,da (!bf tr&&cj b 0 100000) 2]=ceR r:=by simp[eo,h]
 rw[e6] at c6
 change bX Tz.prog _ _ (.bool (bf tr)) _ at c2
 have er:Tw.dR r=.agg [.sl r.bD.length (di r.bD),.sl r.os.length (dh r.os),.sl r.wt.length (dH r.wt),.sl r.zs.length (dc r.zs)]:=rfl;rw[er] at c1 ⊢;unfold bm;clear e6 er;generalize ceR r=e at *;generalize da (decide ((tr.length:Int)=(r.bD.length:Int))) 10=e1 at *;generalize da (!bf tr&&cj b 0 100000) 2=e2 at *;generalize bf tr=b1 at *;generalize cj b 0 100000=b2 at *;have c6:bX Tz.prog 70 [.sl 3 [.int .i64 e,.int .i64 e1,.int .i64 e2]] (.int .i64 e) true:=c6;refine rcK Tz.func47 ?_;simp only[Tryz.results47,Tryz.ntmps47]
 repeat' first|(with_reducible first|apply bI|apply bV|apply bH|apply bP|refine And.intro ?_ ?_|apply Bt|exact CH|intro _)|simp[*,h]|(refine bJ (c1) ?_ ?_;· simp[*];done)|(refine bJ (c2) ?_ ?_;· simp[*];done)|(refine bJ (c3) ?_ ?_;· simp[*];done)|(refine bJ (c4) ?_ ?_;· simp[*];done)|(refine bJ (c5) ?_ ?_;· simp[*];done)|(refine bJ (c6) ?_ ?_;· simp[*];done)
 all_goals first|omega
theorem Bd(r:Tw.RND)(h:ceR r=0)(tr:List Int)(ht:tr.length<1000)(b:Int)(he:bn r tr b 0≠0):bX Tz.prog 47 [Tw.dR r,.sl tr.length (ints tr),.int .i64 b] (.tup [bm,.int .i64 (bn r tr b 0)]) false:=by
 have c1:=qI r;rw[xc r h] at c1;have c2:=w9 tr ab 94 [] (λx=>!cj x 0 1000) eP;have c3:=fC (decide ((tr.length:Int)=(r.bD.length:Int))) 10;have c4:=gL b 0 100000;have c5:=fC (!bf tr&&cj b 0 100000) 2;have c6:=rC [0,da (decide ((tr.length:Int)=(r.bD.length:Int))) 10,da (!bf tr&&cj b 0 100000) 2] ae;have c6:bX Tz.prog 70 [.sl 3 [.int .i64 0,.int .i64 (da (decide ((tr.length:Int)=(r.bD.length:Int))) 10),.int .i64 (da (!bf tr&&cj b 0 100000) 2)]] (.int .i64 (bn r tr b 0)) true:=c6
 change bX Tz.prog _ _ (.bool (bf tr)) _ at c2
 have er:Tw.dR r=.agg [.sl r.bD.length (di r.bD),.sl r.os.length (dh r.os),.sl r.wt.length (dH r.wt),.sl r.zs.length (dc r.zs)]:=rfl;rw[er] at c1 ⊢;unfold bm;clear er h;generalize bn r tr b 0=e at *;generalize da (decide ((tr.length:Int)=(r.bD.length:Int))) 10=e1 at *;generalize da (!bf tr&&cj b 0 100000) 2=e2 at *;generalize bf tr=b1 at *;generalize cj b 0 100000=b2 at *;generalize ni r=x at *;unfold Rd.pv at *;refine rcK Tz.func47 ?_;simp only[Tryz.results47,Tryz.ntmps47]
 repeat' first|(with_reducible first|apply bI|apply bV|apply bH|apply bP|refine And.intro ?_ ?_|apply Bt|exact CH|intro _)|simp[*,he]|(refine bJ (c1) ?_ ?_;· simp[*];done)|(refine bJ (c2) ?_ ?_;· simp[*];done)|(refine bJ (c3) ?_ ?_;· simp[*];done)|(refine bJ (c4) ?_ ?_;· simp[*];done)|(refine bJ (c5) ?_ ?_;· simp[*];done)|(refine bJ (c6) ?_ ?_;· simp[*];done)
 all_goals first|omega
section
variable[bE]
theorem Bm{s:Nat}{h:bz}{d b:Nat}{ls:List Nat}(M:List (List Int))(hl:M.map List.length=ls)(hd:0<d)(hf:jN s h b (M.map iA)):(msS s b ls).mapM (frz h d)=some (dH M):=by
 have:=Hq (s:=s) (d:=d) hd (M.map ints) b (by rw[<-ej];exact hf);rw[qW] at this
 have e1:M.map (List.length ∘ ints)=ls:=by rw[<-hl];exact qV (λr _=>ae)
 rw[e1] at this;rw[this,qW];congr 1;exact qV (λr _=>by simp[Tw.uG];rfl)
theorem BC{s:Nat}{h:bz}{d b:Nat}{ls:List Nat}(M:List (List Int))(hl:M.map List.length=ls)(hf:jN s h b (M.map iA)):(msS s b ls).all (eh h (d+1))=true:=by
 have:=Hr (s:=s) (d:=d) (M.map ints) b (λc hc=>by obtain⟨r,_,rfl⟩:=ja.1 hc;exact eA r) (by rw[<-ej];exact hf);rw[qW] at this
 have e1:M.map (List.length ∘ ints)=ls:=by rw[<-hl];exact qV (λr _=>ae)
 rw[e1] at this;exact this
theorem l9(k:Nat):br [] (k+1)=bC (br [] k) k k:=by
 have:=ku [] k;rw[k7,cu rfl,cq] at this;exact this
end
noncomputable instance zen:bE:=LD
theorem cL{r:Tw.RND}{tr:List Int}{b:Int}(h:bn r tr b 0=0):tr.length=r.bD.length/\bf tr=false/\cj b 0 100000=true:=by
 unfold bn at h;obtain⟨h1,h⟩:=bF h;obtain⟨h2,h⟩:=bF h;obtain⟨h3,h⟩:=bF h
 have key:∀(b:Bool)(e:Int),e≠0->da b e=0->b=true:=λb e he hb=>by
  cases b with
  |true=>rfl
  |false=>exact absurd hb he
 have h2:=of_decide_eq_true (key _ _ af h2);have h3:=key _ _ af h3;simp only[fe,Dc] at h3;exact⟨ab,h3.1,h3.2⟩
theorem b9{tr:List Int}(h:bf tr=false):∀k,k<tr.length->cj (nth tr k) 0 1000=true:=λk hk=>by
 unfold bf at h;rw[ye] at h;have:=h _ (bt hk);simpa using this
theorem eQ(r:Tw.RND)(h:ceR r=0)(tr:List Int)(ht:tr.length<1000)(b:Int)(he:bn r tr b 0=0)(z:PV)(e:Int)(hR:cm r.bD r.os r.wt r.zs tr b z e):bX Tz.prog 47 [Tw.dR r,.sl tr.length (ints tr),.int .i64 b] (.tup [z,.int .i64 e]) false:=by
 have c1:=qI r;rw[xc r h] at c1;have c2:=w9 tr ab 94 [] (λx=>!cj x 0 1000) eP;have c3:=fC (decide ((tr.length:Int)=(r.bD.length:Int))) 10;have c4:=gL b 0 100000;have c5:=fC (!bf tr&&cj b 0 100000) 2;have c6:=rC [0,da (decide ((tr.length:Int)=(r.bD.length:Int))) 10,da (!bf tr&&cj b 0 100000) 2] ae;have c6:bX Tz.prog 70 [.sl 3 [.int .i64 0,.int .i64 (da (decide ((tr.length:Int)=(r.bD.length:Int))) 10),.int .i64 (da (!bf tr&&cj b 0 100000) 2)]] (.int .i64 (bn r tr b 0)) true:=c6;rw[he] at c6
 change bX Tz.prog _ _ (.bool (bf tr)) _ at c2
 have er:Tw.dR r=.agg [.sl r.bD.length (di r.bD),.sl r.os.length (dh r.os),.sl r.wt.length (dH r.wt),.sl r.zs.length (dc r.zs)]:=rfl;rw[er] at c1 ⊢;have rt:=(kW r).1 h;obtain⟨g1,g2,g3⟩:=cL he
 have h':=λi k h1 h2=>hR.big g1 (b9 g2) g3 i k h1 h2
 have a4:=hR.ok g1 (b9 g2) g3;have kt:=keep (λk hk=>bK.1 (b9 g2 k hk));have hb:=bK.1 g3;have kc:=keep (λk:Nat=>(show bX Tz.prog 123 [.sl 0 [],.int .i64 (k:Int)] (.bool false) true from rD [] ae k))
 have h8:∀i,i<r.wt.length->(nth r.wt i).length=r.bD.length:=λi hi=>(rt.wr _ (bt hi)).1
 have a':∀i k,i<r.wt.length->k<r.bD.length->0<=nth (nth r.wt i) k/\nth (nth r.wt i) k<=100000:=λi k hi hk=>bK.1 ((rt.wr _ (bt hi)).2 _ (bt (by rw[h8 i hi];exact hk)))
 have b8:∀k,k<r.zs.length->(0<=(nth r.zs k).1/\(nth r.zs k).1<r.os.length)/\(0<=(nth r.zs k).2/\(nth r.zs k).2<r.bD.length):=λk hk=>by
  have:=rt.zr _ (bt hk);have h1:=bK.1 this.1;have h2:=bK.1 this.2;omega
 have lc:=rt.lc;have lo:=rt.lo;have lw:=rt.lw;have lz:=rt.lz;clear er h he hR rt g2 g3;generalize da (decide ((tr.length:Int)=(r.bD.length:Int))) 10=e1 at *;generalize da (!bf tr&&cj b 0 100000) 2=e2 at *;generalize bf tr=b1 at *;generalize cj b 0 100000=b2 at *;replace c1:bX Tz.prog 69 [.agg [.sl r.bD.length (di r.bD),.sl r.os.length (dh r.os),.sl r.wt.length (dH r.wt),.sl r.zs.length (dc r.zs)]] (.tup [(Rd.mk r.bD r.os r.wt r.zs (ni r).fit).pv,.int .i64 0]) false:=c1;generalize (ni r).fit=fit at *;generalize r.bD=bD at *;generalize r.os=os at *;generalize r.wt=wt at *;generalize r.zs=zs at *;unfold Rd.pv at *;simp only[] at *;rw[lw] at h' a4 h8 a' c1 ⊢;have hM:∃M,bD.length=M:=⟨_,rfl⟩;have hN:∃N,os.length=N:=⟨_,rfl⟩;obtain⟨M,hM⟩:=hM;obtain⟨N,hN⟩:=hN;simp only[hM,hN] at c1 c3 h' a4 h8 a' b8 g1 lw lc lo ⊢;have kg1:=keep g1;have klw:=keep lw;clear g1 lw;have khM:=keep hM;have khN:=keep hN;have kbig:=keep h';have kok:=keep a4;have krow:=keep h8;have kbd:=keep a';have kzr:=keep b8;clear hM hN h' a4 h8 a' b8;refine rcK Tz.func47 ?_;simp only[Tryz.results47,Tryz.ntmps47]
 repeat' first|(with_reducible first|refine rG (id:=6) 1 Tz.func87 aj (show Tryz.f87.body=some (Tryz.f87.body.getD .skip) from rfl) af rfl ?_|apply bI|apply cg|apply bH|apply bP|refine And.intro ?_ ?_|apply Bt|exact CH|intro _)|simp[*]|(refine bJ (c1) ?_ ?_;· simp[*];done)|(refine bJ (c2) ?_ ?_;· simp[*];done)|(refine bJ (c3) ?_ ?_;· simp[*];done)|(refine bJ (c4) ?_ ?_;· simp[*];done)|(refine bJ (c5) ?_ ?_;· simp[*];done)|(refine bJ (c6) ?_ ?_;· simp[*];done)
 all_goals try first|omega|assumption
 refine Bu af ae rfl ?_;clear c1 c2 c3 c4 c5 c6;simp only[Tryz.f87,pP];have mt:=C8
 repeat' first|(with_reducible first|apply bI|apply bH|intro _)|simp[*,r4,mt]
 have e0:cA (di [])=[]:=rfl;have z0:br [] 0=[]:=rfl;refine Bf 8 (λ(k:Nat)=>k<=M) [0,1,2,6,7,8,9,31,32] (λ(k:Nat)=>[(33,.w false false (.int .i64 k))]) [0,1,3,5] (λ(k:Nat)=>[(6,mI (br [] k)),(7,cA (di (bD.take k))),(4,[.msl 7 (k*3) 3 0 k,.w true true (.sl 0 []),.w true true (.sl 0 []),.w true true (.sl 0 [])])]) (λ(k:Nat)=>M-k) (λ(_u:Unit)=>True) [0,1,6,7,8,9] (λ(_u:Unit)=>[]) [0,1,3,5] (λ(_u:Unit)=>[(6,mI (br [] M)),(7,cA (di bD)),(4,[.msl 7 (M*3) 3 0 M,.w true true (.sl 0 []),.w true true (.sl 0 []),.w true true (.sl 0 [])])]) (0) (cG _) (eJ [] (by simp[e0,z0]) (by simp[e0,z0])) (λk hk=>?_) (λ_u hf=>?_)
 .clear e0 z0;have hM:bD.length=M:=khM;by_cases h5:k<M
  .have bb:k<bD.length:=ab
   have e4:=sR (bD.take k) (nth bD k);rw[<-rF bD k bb] at e4
   have e5:(bD.take k).length=k:=by rw[jP];omega
   have ho:=kz (bD.take k);rw[e5] at ho;have e3:=l9 k;have c:=kc k;have ha:inI .i64 ((k:Int)+1):=db ab ab;have b5:inI .i64 (k:Int):=db ab ab
   have hz:k+1<=M:=ab
   have b7:k+1<=1000000000:=ab
   clear hM e5
   repeat' first|(with_reducible first|apply bI|apply dk|apply cg|apply bH|apply bP|refine And.intro ?_ ?_|intro _)|simp[*,h5,bb,ha,b5,cM mt,mt,Tw.fA,ho]|(refine bJ (c) ?_ ?_;· simp[*];done)
   all_goals first
    |omega
    |assumption
    |(refine nx (k+1) ?_ ?_;(· exact hz);(refine eJ [] ?_ ?_<;>first|trivial|(simp[*,e3,e4,eU];done)))
  .have hh:k=M:=ab
   subst hh;have e4:bD.take k=bD:=qX ab;clear hM
   repeat' first|(with_reducible first|apply bI|apply dg|apply bH|apply bP|intro _)|simp[*,h5]
   all_goals first
    |omega
    |(refine dQ () ?_ ?_;(· trivial);(refine cY ?_ ?_<;>first|trivial|(simp[*,e4];done)))
 .clear e0
  repeat' first|(with_reducible first|apply bI|apply bH|intro _)|simp[*,mt]
  have e0:cA (dh [])=[]:=rfl;refine oW (λ(k:Nat)=>k*3+10) (λ(_u:Unit)=>N*3+10) (λ(k:Nat)=>k<=N) [0,1,6,7,8,9,58,59] (λ(k:Nat)=>[(60,.w false false (.int .i64 k))]) [0,1,3,6,7] (λ(k:Nat)=>(5,mI (br [] k))::(8,cA (dh (os.take k)))::(9,msS 3 12 (List.replicate k M))::(4,[.msl 7 (M*3) 3 0 M,.msl 8 (k*4) 4 0 k,.msl 9 k 1 0 k,.w true true (.sl 0 [])])::Go.Fi.dI 3 [] 12 ((wt.take k).map iA)) (λ(k:Nat)=>N-k) (λ(_u:Unit)=>True) [0,6,7,8,9] (λ(_u:Unit)=>[]) [0,1,3,6,7] (λ(_u:Unit)=>(5,mI (br [] N))::(8,cA (dh os))::(9,msS 3 12 (List.replicate N M))::(4,[.msl 7 (M*3) 3 0 M,.msl 8 (N*4) 4 0 N,.msl 9 N 1 0 N,.w true true (.sl 0 [])])::Go.Fi.dI 3 [] 12 (wt.map iA)) (0) (cG _) (eJ [] (by simp[e0,z0]) (by simp[e0,z0])) (λk hk=>?_) (λ_u hf=>?_)
  .clear e0 z0;have hN:os.length=N:=khN;by_cases h5:k<N
   .have bc:k<os.length:=ab
    have h9:wt.length=N:=klw
    have hy:k<wt.length:=ab
    have e4:=sW (os.take k) (nth os k);rw[<-rF os k bc] at e4
    have e5:(os.take k).length=k:=by rw[jP];omega
    have ho:=kB (os.take k);rw[e5] at ho;have e3:=l9 k;have c:=kc k;have ha:inI .i64 ((k:Int)+1):=db ab ab;have b5:inI .i64 (k:Int):=db ab ab
    have hz:k+1<=N:=ab
    have b7:k+1<=1000000000:=ab
    have a5:min k wt.length=k:=JE ab;have ag:=krow k h5;have k1:=keep (eM iA wt k hy);have k2:dp (List.replicate (k+1) M=List.replicate k M++[M]):=List.replicate_succ';have klr:=keep ag;clear hN e5 h9 ag
    repeat' first|(with_reducible first|apply bI|apply dk|apply cg|apply bH|apply bP|refine And.intro ?_ ?_|intro _)|simp[*,h5,bc,hy,ha,b5,cM mt,mt,Tw.eH,ho,a5]|(refine bJ (c) ?_ ?_;· simp[*];done)
    all_goals try first|omega|assumption
    have e00:iA []=[]:=rfl;refine oW (λ(j:Nat)=>k*3+13) (λ(_u:Unit)=>k*3+13) (λ(j:Nat)=>j<=M) [0,1,6,7,8,9,58,59,60,86,87] (λ(j:Nat)=>[(14,.msl (k*3+12) j 1 0 j),(88,.w false false (.int .i64 j))]) [0,1,3,4,5,6,7,8,9] (λ(j:Nat)=>(k*3+12,iA ((nth wt k).take j))::Go.Fi.dI 3 [] 12 ((wt.take k).map iA)) (λ(j:Nat)=>M-j) (λ(_u:Unit)=>True) [0,1,6,7,8,9,58,59,60] (λ(_u:Unit)=>[(14,.msl (k*3+12) M 1 0 M)]) [0,1,3,4,5,6,7,8,9] (λ(_u:Unit)=>(k*3+12,iA (nth wt k))::Go.Fi.dI 3 [] 12 ((wt.take k).map iA)) (0) (cG _) (eJ [] (by simp[e00,a5]) (by simp[e00,a5])) (λj hk=>?_) (λ_u hf=>?_)
    .clear e00 k1 k2 e3 e4 c;have ag:(nth wt k).length=M:=klr;by_cases hq:j<M
     .have ao:j<(nth wt k).length:=ab
      have l1:bo (br [] M) (j:Int)=some (j:Int):=by rw[cp,cu ⟨ab,ab,rfl⟩,cq];rfl
      have b6:inI .i64 ((j:Int)+1):=db ab ab
      have bq:j+1<=M:=ab
      have bv:j+1<=1000000000:=ab
      have s1:=rF (nth wt k) j ao
      have s2:iA ((nth wt k).take (j+1))=iA ((nth wt k).take j)++[.w false false (.int .i64 (nth (nth wt k) j))]:=by rw[s1,<-rL];rfl
      have s3:(iA ((nth wt k).take j)).length=j:=by simp[iA,ints,jP];omega
      clear s1 ag ho b7 klr
      repeat' first|(with_reducible first|apply bI|apply dk|apply cg|apply bH|apply bP|intro _)|simp[*,hq,b6,cM mt,mt,hy,ao,l1,s3,a5]
      all_goals first
       |omega
       |assumption
       |(refine nx (j+1) ?_ ?_;(· exact bq);(refine eJ [] ?_ ?_<;>first|trivial|(simp[*,s2,a5];done)))
     .have hh:j=M:=ab
      subst hh
      have ao:¬j<(nth wt k).length:=ab
      have s4:(nth wt k).take j=nth wt k:=qX ab;clear ag
      repeat' first|(with_reducible first|apply bI|apply dg|apply bH|apply bP|intro _)|simp[*,hq,ao]
      all_goals first
       |omega
       |(refine dQ () ?_ ?_;(· trivial);(refine eJ [] ?_ ?_<;>first|trivial|(simp[*,s4,a5];done)))
    .clear e00 c
     repeat' first|(with_reducible first|apply bH|intro _)|simp[*,ha,mt,a5]
     all_goals first
      |omega
      |assumption
      |(refine nx (k+1) ?_ ?_;(· exact hz);(refine eJ [] ?_ ?_<;>first|trivial|(simp[*,e3,e4,a5,show List.take (k+1) (List.map iA wt)=_ from k1,show List.replicate (k+1) M=_ from k2,Go.Fi.Jc,Hm,eU];done)))
   .have hh:k=N:=ab
    subst hh;have e4:os.take k=os:=qX ab;have h9:wt.length=k:=klw;have e5:List.take k (List.map iA wt)=List.map iA wt:=qX ar;clear hN
    repeat' first|(with_reducible first|apply bI|apply dg|apply bH|apply bP|intro _)|simp[*,h5]
    all_goals first
     |omega
     |(refine dQ () ?_ ?_;(· trivial);(refine eJ [] ?_ ?_<;>first|trivial|(simp[*,e4,e5,h9];done)))
  .clear e0 z0;have h9:wt.length=N:=klw
   repeat' first|(with_reducible first|apply bI|apply bH|intro _)|simp[*,mt,h9]
   have e0:cA (dc [])=[]:=rfl;refine oW (λ(k:Nat)=>N*3+11) (λ(_u:Unit)=>N*3+11) (λ(k:Nat)=>k<=zs.length) [6,7,8,9,116,117] (λ(k:Nat)=>[(118,.w false false (.int .i64 k))]) [0,1,3,5,6,7,8,9] (λ(k:Nat)=>(N*3+10,cA (dc (zs.take k)))::(4,[.msl 7 (M*3) 3 0 M,.msl 8 (N*4) 4 0 N,.msl 9 N 1 0 N,.msl (N*3+10) (k*2) 2 0 k])::Go.Fi.dI 3 [] 12 (wt.map iA)) (λ(k:Nat)=>zs.length-k) (λ(_u:Unit)=>True) [6,7] (λ(_u:Unit)=>[]) [0,1,7,8,9] (λ(_u:Unit)=>(N*3+10,cA (dc zs))::(3,[.w true true (.sl 0 []),.w true true (.sl 0 []),.w true true (.sl 0 []),.w true true (.sl 0 [])])::(4,[.msl 7 (M*3) 3 0 M,.msl 8 (N*4) 4 0 N,.msl 9 N 1 0 N,.msl (N*3+10) (zs.length*2) 2 0 zs.length])::Go.Fi.dI 3 [] 12 (wt.map iA)) (0) (cG _) (eJ [] (by simp[e0,h9]) (by simp[e0,h9])) (λk hk=>?_) (λ_u hf=>?_)
   .clear e0;have hM:bD.length=M:=khM;have hN:os.length=N:=khN;by_cases h5:k<zs.length
    .have e4:=sZ (zs.take k) (nth zs k);rw[<-rF zs k h5] at e4
     have e5:(zs.take k).length=k:=by rw[jP];omega
     have ho:=kC (zs.take k);rw[e5] at ho;have hz:=kzr k h5;have ha:inI .i64 ((k:Int)+1):=db ab ab
     have bp:k+1<=zs.length:=ab
     have b7:k+1<=1000000000:=ab
     have l1:bo (br [] N) (nth zs k).1=some (nth zs k).1:=by rw[cp,cu ⟨ab,ab,rfl⟩,cq];congr 1;omega
     have l2:bo (br [] M) (nth zs k).2=some (nth zs k).2:=by rw[cp,cu ⟨ab,ab,rfl⟩,cq];congr 1;omega
     clear hM hN e5 hz
     repeat' first|(with_reducible first|apply bI|apply dk|apply cg|apply bH|apply bP|refine And.intro ?_ ?_|intro _)|simp[*,h5,ha,cM mt,mt,l1,l2,ho,Tw.eI,h9]
     all_goals first
      |omega
      |assumption
      |(refine nx (k+1) ?_ ?_;(· exact bp);(refine eJ [] ?_ ?_<;>first|trivial|(simp[*,e4,eU,h9];done)))
    .have hh:k=zs.length:=ab
     subst hh;have e4:zs.take zs.length=zs:=qX (bU _);clear hM hN
     repeat' first|(with_reducible first|apply bI|apply dg|apply bH|apply bP|intro _)|simp[*,h5]
     all_goals first
      |omega
      |(refine dQ () ?_ ?_;(· trivial);(refine eJ [] ?_ ?_<;>first|trivial|(simp[*,e4,h9];done)))
   .clear e0;have g1:tr.length=M:=kg1;clear kg1;subst g1
    repeat' first|(with_reducible first|apply bI|apply bV|apply bH|intro _)|simp[*,h9]
    all_goals try first|omega|assumption
    simp[gq,jg,h9]
    repeat' first|(with_reducible first|apply bI|apply bH|intro _)|simp[*,h9]
    all_goals try first|omega|assumption
    refine oW (λ(k:Nat)=>N*3+12) (λ(_u:Unit)=>N*3+12) (λ(k:Nat)=>k<=N/\(∀i,i<k->∀j,j<tr.length->¬bl wt tr b i j)) [1,2,6,11,46,47] (λ(k:Nat)=>[(48,.w false false (.int .i64 k))]) [1,7,8,9] (λ(k:Nat)=>(N*3+10,cA (dc zs))::(N*3+11,[.msl 7 (tr.length*3) 3 0 tr.length,.msl 8 (N*4) 4 0 N,.msl 9 N 1 0 N,.msl (N*3+10) (zs.length*2) 2 0 zs.length])::Go.Fi.dI 3 [] 12 ((a9 wt tr b k).map iA)) (λ(k:Nat)=>N-k) (λ(_u:Unit)=>∀i,i<N->∀j,j<tr.length->¬bl wt tr b i j) [6,11] (λ(_u:Unit)=>[]) [1,7,8,9] (λ(_u:Unit)=>(N*3+10,cA (dc zs))::(N*3+11,[.msl 7 (tr.length*3) 3 0 tr.length,.msl 8 (N*4) 4 0 N,.msl 9 N 1 0 N,.msl (N*3+10) (zs.length*2) 2 0 zs.length])::Go.Fi.dI 3 [] 12 ((a9 wt tr b N).map iA)) (0) ⟨cG _,λi hi=>absurd hi (oJ _)⟩ (eJ [] (by simp[show a9 wt tr b 0=wt from rfl,h9]) (by simp[show a9 wt tr b 0=wt from rfl,h9])) (λk hk=>?_) (λ_u hf=>?_)
    .obtain⟨hk,hj⟩:=hk;have kj:=keep hj;clear hj kok;by_cases h5:k<N
     .have hlI:(k:Int)<(N:Int):=ab
      have hy:k<wt.length:=ab
      have hi:inI .i64 ((k:Int)+1):=db ab ab;have z0:=lU wt tr b k hy;have lA:=bA wt tr b k;have lw2:wt.length=N:=h9
      repeat' first|(with_reducible first|apply bI|apply dk|apply cg|apply bH|apply bP|intro _)|simp[*,h5,hlI,lA,lw2]
      all_goals try first|omega|assumption
      refine oW (λ(j:Nat)=>N*3+12) (λ(_u:Unit)=>N*3+12) (λ(j:Nat)=>j<=tr.length/\(∀i,i<j->¬bl wt tr b k i)) [1,2,6,11,13,46,47,48,53] (λ(j:Nat)=>[(54,.w false false (.int .i64 j))]) [1,7,8,9] (λ(j:Nat)=>(N*3+10,cA (dc zs))::(N*3+11,[.msl 7 (tr.length*3) 3 0 tr.length,.msl 8 (N*4) 4 0 N,.msl 9 N 1 0 N,.msl (N*3+10) (zs.length*2) 2 0 zs.length])::Go.Fi.dI 3 [] 12 ((bj wt tr b k j).map iA)) (λ(j:Nat)=>tr.length-j) (λ(_u:Unit)=>∀i,i<tr.length->¬bl wt tr b k i) [1,2,6,11,46,47,48] (λ(_u:Unit)=>[]) [1,7,8,9] (λ(_u:Unit)=>(N*3+10,cA (dc zs))::(N*3+11,[.msl 7 (tr.length*3) 3 0 tr.length,.msl 8 (N*4) 4 0 N,.msl 9 N 1 0 N,.msl (N*3+10) (zs.length*2) 2 0 zs.length])::Go.Fi.dI 3 [] 12 ((bj wt tr b k tr.length).map iA)) (0) ⟨cG _,λi hi=>absurd hi (oJ _)⟩ (eJ [] (by simp[lA,z0,bB,lw2,h5]) (by simp[lA,z0,bB,lw2,h5])) (λj hk=>?_) (λ_u hf=>?_)
      .obtain⟨hj,bh⟩:=hk;have kb2:=keep bh;clear bh z0 lA hi;by_cases hq:j<tr.length
       .have hjI:(j:Int)<(tr.length:Int):=ab
        have b6:inI .i64 ((j:Int)+1):=db ab ab;have h8:=krow k h5;have a':=kbd k j h5 hq;have aw:=kt j hq;have bi:0<=b*nth tr j:=Int.mul_nonneg hb.1 aw.1;have bk:b*nth tr j<=100000*1000:=Jr hb.2 aw.2 aw.1 ab;have m1:inI .i64 (b*nth tr j):=db ab ab;have m2:inI .i64 (nth (nth wt k) j+b*nth tr j):=db ab ab
        have hB:(bj wt tr b k j).length=N:=by rw[bB];exact lw2
        have hBk:(nth (bj wt tr b k j) k).length=tr.length:=by rw[cH _ _ _ _ _ hy,bZ];exact h8
        have hBj:nth (nth (bj wt tr b k j) k) j=nth (nth wt k) j:=by rw[cH _ _ _ _ _ hy,lp _ _ _ _ ab,bN (Dj _)]
        have kn:=keep (lV wt tr b k j hy);have kc1:=keep (kbig k j h5 hq);clear krow kbd kt a' aw hb kbig bi bk klw lw2 h9;generalize bj wt tr b k j=B at *
        have n1:¬N*3=k*3+2:=ab
        have n2:¬N*3=k*3+1:=ab
        have hS:∀x,nth ((List.map iA B).set k x) k=x:=λx=>by rw[bW _ _ _ _ ar,cu rfl]
        have hV:∀v,nth ((nth B k).set j v) j=v:=λv=>by rw[bW _ _ _ _ ab,cu rfl]
        have hg:dp (bl wt tr b k j=(100000<nth (nth wt k) j+b*nth tr j)):=rfl;by_cases h':100000<nth (nth wt k) j+b*nth tr j
        .obtain⟨rfl,rfl⟩:=kc1 (by rw[show bl wt tr b k j=_ from hg];exact h');clear kn kb2 kj kc1 hg;unfold bm
         repeat' first|(with_reducible first|apply bI|apply dk|apply cg|apply bV|apply bH|refine dD (id:=13) 12 mixed ai ?_|apply bP|refine And.intro ?_ ?_|intro _)|simp[*,h5,hlI,hq,hjI,hB,hBk,hBj,h8,m1,m2,h',hS,hV,n1,n2]
         all_goals first|omega|assumption
        .have bg:¬bl wt tr b k j:=by rw[show bl wt tr b k j=_ from hg];exact h'
         have knb:=keep bg;clear kc1 hg bg kj
         repeat' first|(with_reducible first|apply bI|apply dk|apply cg|apply bH|refine dD (id:=13) 12 mixed ai ?_|apply bP|refine And.intro ?_ ?_|intro _)|simp[*,h5,hlI,hq,hjI,b6,hB,hBk,hBj,h8,m1,m2,h',hS,hV,n1,n2]
         all_goals first
          |omega
          |assumption
          |(refine nx (j+1) ?_ ?_;(· exact⟨ab,λi hi=>(yg.1 hi).elim (kb2 i) (λe=>e▸knb)⟩);(refine eJ [] ?_ ?_<;>first|trivial|(simp[*,show bj wt tr b k (j+1)=_ from kn,hB,hBk];done)))
       .have hh:j=tr.length:=ab
        subst hh
        have hB:(bj wt tr b k tr.length).length=N:=by rw[bB];exact lw2
        clear krow kbd kt hb kbig kj klw lw2 h9
        repeat' first|(with_reducible first|apply bI|apply dg|apply bH|apply bP|intro _)|simp[*,h5,hlI]
        all_goals first
         |(refine dQ () ?_ ?_;(· exact kb2);(refine eJ [] ?_ ?_<;>first|trivial|(simp[*,hB];done)))
      .have kf:=keep hf;have kn:dp (a9 wt tr b (k+1)=bj wt tr b k tr.length):=rfl
       have hB:(bj wt tr b k tr.length).length=N:=by rw[bB];exact lw2
       clear hf z0 krow kbd kt hb kbig klw lw2 h9 lA
       repeat' first|(with_reducible first|apply bH|intro _)|simp[*,h5,hlI,hi]
       all_goals first
        |omega
        |(refine nx (k+1) ?_ ?_;(· exact⟨ab,λi hi=>(yg.1 hi).elim (kj i) (λe=>e▸kf)⟩);(refine eJ [] ?_ ?_<;>first|trivial|(simp[*,show a9 wt tr b (k+1)=_ from kn,hB];done)))
     .have hh:k=N:=ab
      subst hh
      repeat' first|(with_reducible first|apply bI|apply dg|apply bH|apply bP|intro _)|simp[*]
      all_goals first
       |(refine dQ () ?_ ?_;(· exact kj);(refine eJ [] ?_ ?_<;>first|trivial|(simp[*,bA,h9];done)))
    .have kf:=keep (kok λi k h1 h2=>hf i h1 k h2);have ax:=cE wt tr b tr.length (λi hi=>krow i ab) N ab;rw[h9] at ax
     have fz:∀(H:bz)(d b':Nat),0<d->jN 3 H b' ((a9 wt tr b N).map iA)->(msS 3 b' (List.replicate N tr.length)).mapM (frz H d)=some (dH (a9 wt tr b N)):=λH d b' hd hf=>Bm _ ax hd hf
     have fr:∀(H:bz)(d b':Nat),jN 3 H b' ((a9 wt tr b N).map iA)->(msS 3 b' (List.replicate N tr.length)).all (eh H (d+1))=true:=λH d b' hf=>BC _ ax hf
     clear hf kok kbig krow kbd kt hb ax;obtain⟨rfl,rfl⟩:=kf;have h1:=kz bD;have h2:=kB os;have h3:=kC zs;have hM:bD.length=tr.length:=khM;have hN:os.length=N:=khN;have t1:bD.take tr.length=bD:=qX ab;have t2:os.take N=os:=qX ab;rw[hM] at h1;rw[hN] at h2;clear hM hN
     repeat' first|(with_reducible first|apply bI|apply bV|apply bH|intro _)|simp[*,bA,h9,h1,h2,h3,t1,t2]
     all_goals first
      |omega
      |(rename_i x hx;exact gm.1 (fr _ _ _ (by simp[bA,h9])) x hx)
section
variable[bE]
theorem BF(m:List (List Int))(hl:m.length<100000)(hr:∀w∈m,w.length<100000):bX Tz.prog 88 [.sl m.length (dH m),.sl m.length (dH m)] (.bool true) true:=by
 have c:=λk (hk:k<m.length)=>G0 (nth m k) (nth m k) (hr _ (bt hk))
 have kc:=keep c;clear hr c;refine rcK Tz.func88 ?_;simp only[Tryz.results88,Tryz.ntmps88]
 repeat' first|(with_reducible first|apply bI|apply cg|apply bH|apply bP|intro _)|simp[*]
 refine fH (λ(k:Nat)=>k<=m.length) [0,1] (λ(k:Nat)=>[(5,.w false false (.int .i64 k))]) [] (λ(k:Nat)=>[]) (λ(k:Nat)=>m.length-k) (λ(_u:Unit)=>True) [] (λ(_u:Unit)=>[]) [] (λ(_u:Unit)=>[]) (0) (cG _) ae ae (λk hk=>?_) (λ_u hf=>?_)
 .by_cases h5:k<m.length
  .have c1:=kc k h5;rw[Br,decide_eq_true rfl] at c1;have ha:inI .i64 ((k:Int)+1):=db ab ab
   have hz:k+1<=m.length:=ab
   repeat' first|(with_reducible first|apply bI|apply dk|apply cg|apply bH|refine dD (id:=6) 10 mixed ai ?_|apply bP|refine And.intro ?_ ?_|intro _)|simp[*,h5,ha]|(refine bJ (c1) ?_ ?_;· simp[*];done)
   all_goals first
    |omega
    |assumption
    |(refine nx (k+1) ?_ ?_;(· exact hz);(refine cY ?_ ?_<;>first|trivial|(simp[*];done)))
  .have hh:k=m.length:=ab
   subst hh;clear kc
   repeat' first|(with_reducible first|apply bI|apply dg|apply bH|apply bP|intro _)|simp[*,h5]
   all_goals first
    |omega
    |(refine dQ () ?_ ?_;(· trivial);(refine cY ?_ ?_<;>first|trivial|(simp[*];done)))
 .repeat' first|(with_reducible first|apply bI|apply bV|apply bH|intro _)|simp[*]
theorem ml(bD:List Car)(os:List Ord)(wt:List (List Int))(zs:List Par)(h1:bD.length<100000)(h2:os.length<100000)(h3:wt.length<100000)(h4:zs.length<100000)(hr:∀w∈wt,w.length<100000):bX Tz.prog 39 [.agg [.sl bD.length (di bD),.sl os.length (dh os),.sl wt.length (dH wt),.sl zs.length (dc zs)],.agg [.sl bD.length (di bD),.sl os.length (dh os),.sl wt.length (dH wt),.sl zs.length (dc zs)]] (.bool true) true:=by
 have c1:=BF wt h3 hr;clear hr h3;refine rcK Tz.func39 ?_;simp only[Tryz.results39,Tryz.ntmps39]
 repeat' first|(with_reducible first|apply bI|apply cg|apply bH|apply bP|refine And.intro ?_ ?_|intro _)|simp[*]|(refine bJ (c1) ?_ ?_;· simp[*];done)
 clear c1;refine fH (λ(k:Nat)=>k<=bD.length) [2,3] (λ(k:Nat)=>[(5,.w false false (.int .i64 k))]) [0,1] (λ(k:Nat)=>[]) (λ(k:Nat)=>bD.length-k) (λ(_u:Unit)=>True) [2,3] (λ(_u:Unit)=>[]) [0,1] (λ(_u:Unit)=>[]) (0) (cG _) ae ae (λk hk=>?_) (λ_u hf=>?_)
 .by_cases h5:k<bD.length
  .have ha:inI .i64 ((k:Int)+1):=db ab ab
   have hz:k+1<=bD.length:=ab
   repeat' first|(with_reducible first|apply bI|apply dk|apply cg|apply bH|refine dD (id:=6) 11 mixed ai ?_|apply bP|refine And.intro ?_ ?_|intro _)|simp[*,h5,ha,Tw.fA]
   all_goals first
    |omega
    |assumption
    |(refine nx (k+1) ?_ ?_;(· exact hz);(refine cY ?_ ?_<;>first|trivial|(simp[*];done)))
  .have hh:k=bD.length:=ab
   subst hh
   repeat' first|(with_reducible first|apply bI|apply dg|apply bH|apply bP|intro _)|simp[*,h5]
   all_goals first
    |omega
    |(refine dQ () ?_ ?_;(· trivial);(refine cY ?_ ?_<;>first|trivial|(simp[*];done)))
 repeat' first|(with_reducible first|apply bI|apply bH|intro _)|simp[*]
 refine fH (λ(k:Nat)=>k<=os.length) [2,3] (λ(k:Nat)=>[(6,.w false false (.int .i64 k))]) [0,1] (λ(k:Nat)=>[]) (λ(k:Nat)=>os.length-k) (λ(_u:Unit)=>True) [2,3] (λ(_u:Unit)=>[]) [0,1] (λ(_u:Unit)=>[]) (0) (cG _) ae ae (λk hk=>?_) (λ_u hf=>?_)
 .by_cases h5:k<os.length
  .have ha:inI .i64 ((k:Int)+1):=db ab ab
   have hz:k+1<=os.length:=ab
   repeat' first|(with_reducible first|apply bI|apply dk|apply cg|apply bH|refine dD (id:=11) 11 mixed ai ?_|apply bP|refine And.intro ?_ ?_|intro _)|simp[*,h5,ha,Tw.eH]
   all_goals first
    |omega
    |assumption
    |(refine nx (k+1) ?_ ?_;(· exact hz);(refine cY ?_ ?_<;>first|trivial|(simp[*];done)))
  .have hh:k=os.length:=ab
   subst hh
   repeat' first|(with_reducible first|apply bI|apply dg|apply bH|apply bP|intro _)|simp[*,h5]
   all_goals first
    |omega
    |(refine dQ () ?_ ?_;(· trivial);(refine cY ?_ ?_<;>first|trivial|(simp[*];done)))
 repeat' first|(with_reducible first|apply bI|apply bH|intro _)|simp[*]
 refine fH (λ(k:Nat)=>k<=zs.length) [2,3] (λ(k:Nat)=>[(7,.w false false (.int .i64 k))]) [0,1] (λ(k:Nat)=>[]) (λ(k:Nat)=>zs.length-k) (λ(_u:Unit)=>True) [] (λ(_u:Unit)=>[]) [0,1] (λ(_u:Unit)=>[]) (0) (cG _) ae ae (λk hk=>?_) (λ_u hf=>?_)
 .by_cases h5:k<zs.length
  .have ha:inI .i64 ((k:Int)+1):=db ab ab
   have hz:k+1<=zs.length:=ab
   repeat' first|(with_reducible first|apply bI|apply dk|apply cg|apply bH|refine dD (id:=16) 11 mixed ai ?_|apply bP|refine And.intro ?_ ?_|intro _)|simp[*,h5,ha,Tw.eI]
   all_goals first
    |omega
    |assumption
    |(refine nx (k+1) ?_ ?_;(· exact hz);(refine cY ?_ ?_<;>first|trivial|(simp[*];done)))
  .have hh:k=zs.length:=ab
   subst hh
   repeat' first|(with_reducible first|apply bI|apply dg|apply bH|apply bP|intro _)|simp[*,h5]
   all_goals first
    |omega
    |(refine dQ () ?_ ?_;(· trivial);(refine cY ?_ ?_<;>first|trivial|(simp[*];done)))
 .repeat' first|(with_reducible first|apply bI|apply bV|apply bH|intro _)|simp[*]
theorem mC(r:Tw.RND):bX Tz.prog 39 [Tw.dR r,Tw.dR r] (.bool true) true:=
 ml r.bD r.os r.wt r.zs r.fj.2.2.2.1 r.fj.2.2.2.2.1 r.fj.2.2.2.2.2.1 r.fj.2.2.2.2.2.2 r.fj.2.2.1
theorem BO:bX Tz.prog 39 [bm,bm] (.bool true) true:=ml [] [] [] [] af af af af ae
end
noncomputable instance zeo:bE:=LD
noncomputable instance zer:bE:=LD
theorem mE(row tr:List Int):∀k,bu row tr 0 k=row
 |0=>rfl
 |k+1=>by
  unfold bu;rw[mE row tr k];by_cases h:k<row.length
  .have e:nth row k+0*nth tr k=row[k]:=by simp[nth,dT,h]
   rw[e];simp
  .exact TT ab
theorem mF(wt:List (List Int))(tr:List Int):∀k,a9 wt tr 0 k=wt
 |0=>rfl
 |k+1=>by
  unfold a9;rw[mF wt tr k,mE];by_cases h:k<wt.length
  .have e:nth wt k=wt[k]:=by simp[nth,dT,h]
   rw[e];simp
  .exact TT ab
theorem BP(r:Tw.RND)(h:ceR r=0):ql r.wt r.bD.length:=by
 have rt:=(kW r).1 h
 have h8:∀i,i<r.wt.length->(nth r.wt i).length=r.bD.length:=λi hi=>(rt.wr _ (bt hi)).1
 exact⟨by have:=rt.lo;have:=rt.lw;omega,by have:=rt.lc;omega,h8,λi k hi hk=>bK.1 ((rt.wr _ (bt hi)).2 _ (bt (by rw[h8 i hi];exact hk)))⟩
def ez(r:Tw.RND)(tr:List Int)(b:Int):Tw.RND:=⟨r.bD,r.os,a9 r.wt tr b r.wt.length,r.zs,by
 obtain⟨f1,f2,f3,f4,f5,f6,f7⟩:=r.fj;refine⟨f1,f2,λw hw=>?_,f4,f5,by simpa using f6,f7⟩;obtain⟨i,hi,rfl⟩:=kD hw
 have b4:i<r.wt.length:=aM
 have e:=cC r.wt tr b r.wt.length (bU _) i
 have e2:nth (a9 r.wt tr b r.wt.length) i=(a9 r.wt tr b r.wt.length)[i]:=by simp[nth,dT,b4]
 rw[cu b4] at e;rw[<-e2,e,bZ]
 exact f3 _ (bt b4)⟩
theorem eR(r:Tw.RND)(tr:List Int)(b:Int):Tw.dR (ez r tr b)=.agg [.sl r.bD.length (di r.bD),.sl r.os.length (dh r.os),.sl r.wt.length (dH (a9 r.wt tr b r.wt.length)),.sl r.zs.length (dc r.zs)]:=by
 have e:(a9 r.wt tr b r.wt.length).length=r.wt.length:=bA _ _ _ _;rw[<-e];rw[e];show PV.agg [_,_,.sl (a9 r.wt tr b r.wt.length).length _,_]=_;rw[e];rfl
theorem CK{r:Tw.RND}{tr:List Int}{b:Int}(h:bn r tr b 0≠0):cm r.bD r.os r.wt r.zs tr b bm (bn r tr b 0):=by
 have k1:∀(d:Bool)(e:Int)(l:List Int),eo (0::da d e::l)=if d then eo (0::l) else if e=0 then eo l else e:=λd e l=>by
  cases d<;>simp[eo,da]
 have ev:bn r tr b 0=if (decide ((tr.length:Int)=(r.bD.length:Int))) then (if !bf tr&&cj b 0 100000 then 0 else 2) else 10:=by
  unfold bn
  cases decide ((tr.length:Int)=(r.bD.length:Int))<;>cases bf tr<;>cases cj b 0 100000<;>rfl
 have tb:∀k,k<tr.length->cj (nth tr k) 0 1000=false->bf tr=true:=λk hk hw=>by
  unfold bf;rw[List.any_eq_true];exact⟨_,bt hk,by simp[hw]⟩
 have tg:(∀k,k<tr.length->cj (nth tr k) 0 1000=true)->bf tr=false:=λhw=>by
  unfold bf;rw[ye];intro x hx;obtain⟨i,hi,rfl⟩:=kD hx;have:=hw i hi
  have e2:nth tr i=tr[i]:=by simp[nth,dT,hi]
  rw[e2] at this;simp[this]
 have d1:tr.length=r.bD.length->decide ((tr.length:Int)=(r.bD.length:Int))=true:=λe=>decide_eq_true ab
 refine⟨λe=>⟨rfl,?_⟩,λe k hk hw=>⟨rfl,?_⟩,λe hw hb=>⟨rfl,?_⟩,λe hw hb i k h1 h2 h3=>absurd ?_ h,λe hw hb _=>absurd ?_ h⟩
 .rw[ev,decide_eq_false ab];rfl
 .rw[ev,d1 e,tb k hk hw];rfl
 .rw[ev,d1 e,tg hw,hb];rfl
 .rw[ev,d1 e,tg hw,hb];rfl
 .rw[ev,d1 e,tg hw,hb];rfl
theorem mH{r:Tw.RND}{tr:List Int}{b:Int}(h:bn r tr b 0=0)(hb:∃i k,i<r.wt.length/\k<tr.length/\bl r.wt tr b i k):cm r.bD r.os r.wt r.zs tr b bm 8:=by
 obtain⟨g1,g2,g3⟩:=cL h;refine⟨λe=>absurd g1 e,λ_ k hk hw=>?_,λ_ hw hb=>?_,λ_ _ _ _ _ _ _ _=>⟨rfl,rfl⟩,λ_ _ _ hn=>?_⟩
 .rw[b9 g2 k hk] at hw;cases hw
 .rw[g3] at hb;cases hb
 .obtain⟨i,k,h1,h2,h3⟩:=hb;exact absurd h3 (hn i k h1 h2)
theorem mO{r:Tw.RND}{tr:List Int}{b:Int}(h:bn r tr b 0=0)(hb:∀i k,i<r.wt.length->k<tr.length->¬bl r.wt tr b i k):cm r.bD r.os r.wt r.zs tr b (Tw.dR (ez r tr b)) 0:=by
 obtain⟨g1,g2,g3⟩:=cL h;refine⟨λe=>absurd g1 e,λ_ k hk hw=>?_,λ_ hw hb=>?_,λ_ _ _ i k h1 h2 h3=>absurd h3 (hb i k h1 h2),λ_ _ _ _=>⟨eR r tr b,rfl⟩⟩
 .rw[b9 g2 k hk] at hw;cases hw
 .rw[g3] at hb;cases hb
theorem CN(bD:List Car)(os:List Ord)(wt:List (List Int))(zs:List Par)(tr:List Int)(b:Int):Cw Tz.prog Tryz.f9 (Tryz.f9.body.getD .skip) [.agg [.sl bD.length (di bD),.sl os.length (dh os),.sl wt.length (dH wt),.sl zs.length (dc zs)],.sl tr.length (ints tr),.int .i64 b] (.bool true) true:=by
 have ca:=Qr;have cf:=TC bD os wt zs;refine Ge (ij aj) ?_;have hb:Tryz.f9.body=some _:=rfl;rw[hb];clear hb;simp only[pP,Tryz.ntmps9,Tryz.results9]
 cases hw:sE bD os wt zs with
 |false=>
  rw[hw] at cf;clear hw
  repeat' first|(with_reducible first|apply bI|apply cg|apply bV|apply bH|apply bP|refine And.intro ?_ ?_|intro _)|simp[*]|(refine bJ (ca) ?_ ?_;· simp[*];done)|(refine bJ (cf) ?_ ?_;· simp[*];done)
  all_goals first|omega
 |true=>
  rw[hw] at cf;by_cases ht:10<tr.length
  .clear hw
   repeat' first|(with_reducible first|apply bI|apply cg|apply bV|apply bH|apply bP|refine And.intro ?_ ?_|refine j0 ?_ ?_|intro _)|simp[*,ht]|(refine bJ (ca) ?_ ?_;· simp[*];done)|(refine bJ (cf) ?_ ?_;· simp[*];done)
   all_goals first|omega
  have aq:¬(10:Int)<(tr.length:Int):=ab
  have ci:=G2 tr ab;obtain⟨⟨l1,k1⟩,⟨l2,k2⟩,l3,l4,l5,l6,l7⟩:=HH hw
  have c1:bX Tz.prog 20 [.agg [.sl bD.length (di bD),.sl os.length (dh os),.sl wt.length (dH wt),.sl zs.length (dc zs)]] (.int .i64 (ceR (Ji bD os wt zs hw))) true:=
   ub bD os wt zs ab ab ab ab (λx hx=>by have:=l5 x hx;omega) (λx hx=>by have:=l6 x hx;omega) (λx hx=>by have:=l7 x hx;omega)
  obtain⟨r,hr⟩:∃r,r=Ji bD os wt zs hw:=⟨_,rfl⟩
  have ev:Tw.dR r=.agg [.sl bD.length (di bD),.sl os.length (dh os),.sl wt.length (dH wt),.sl zs.length (dc zs)]:=by rw[hr];rfl
  have cc:=Pg r;rw[<-hr] at c1;rw[ev] at cc;clear hr hw;have sn:=BO;have a6:bm=.agg [.sl 0 [],.sl 0 [],.sl 0 [],.sl 0 []]:=rfl;by_cases he:ceR r=0
  .rw[he] at c1;have hin:=BP r he;by_cases hd:bn r tr b 0=0
   .by_cases hg:∃i k,i<r.wt.length/\k<tr.length/\bl r.wt tr b i k
    .have c2:=eQ r he tr ab b hd _ _ (mH hd hg);have c3:=eO r hin tr ab b _ _ (mH hd hg);rw[ev] at c2 c3;rw[a6] at c2 c3 sn;clear ev a6 l1 l2 l3 l4 l5 l6 l7 k1 k2 hin hg hd
     repeat' first|(with_reducible first|apply bI|apply cg|apply bV|apply bH|apply bP|refine And.intro ?_ ?_|intro _)|simp[*,ht,aq]|(refine bJ (ca) ?_ ?_;· simp[*];done)|(refine bJ (cf) ?_ ?_;· simp[*];done)|(refine bJ (cc) ?_ ?_;· simp[*];done)|(refine bJ (ci) ?_ ?_;· simp[*];done)|(refine bJ (c1) ?_ ?_;· simp[*];done)|(refine bJ (c2) ?_ ?_;· simp[*];done)|(refine bJ (c3) ?_ ?_;· simp[*];done)|(refine bJ (sn) ?_ ?_;· simp[*];done)
     all_goals first|omega|exact fR af
    .have a4:=mO hd (λi k h1 h2 h3=>hg ⟨i,k,h1,h2,h3⟩);have c2:=eQ r he tr ab b hd _ _ a4;have c3:=eO r hin tr ab b _ _ a4;obtain⟨g1,g2,g3⟩:=cL hd
     have ay:bn r tr 0 0=0:=by
      unfold bn;rw[decide_eq_true ab,g2];rfl
     have aa:=mO ay (λi k h1 h2 h3=>by
      have:=(hin.bd i k h1 ab).2;unfold bl at h3;rw[Int.zero_mul] at h3
      omega)
     have c5:=eQ r he tr ab 0 ay _ _ aa
     have e0:Tw.dR (ez r tr 0)=Tw.dR r:=by rw[eR,mF];rfl
     rw[e0] at c5;have c4:=mC (ez r tr b);have c6:=mC r;rw[eR] at c2 c3 c4;rw[ev] at c2 c3 c5 c6;generalize a9 r.wt tr b r.wt.length=W at *;clear ev a6 sn l1 l2 l3 l4 l5 l6 l7 k1 k2 hin hg hd a4 aa ay e0 g1 g2 g3
     repeat' first|(with_reducible first|apply bI|apply cg|apply bV|apply bH|apply bP|refine And.intro ?_ ?_|intro _)|simp[*,ht,aq]|(refine bJ (ca) ?_ ?_;· simp[*];done)|(refine bJ (cf) ?_ ?_;· simp[*];done)|(refine bJ (cc) ?_ ?_;· simp[*];done)|(refine bJ (ci) ?_ ?_;· simp[*];done)|(refine bJ (c1) ?_ ?_;· simp[*];done)|(refine bJ (c2) ?_ ?_;· simp[*];done)|(refine bJ (c3) ?_ ?_;· simp[*];done)|(refine bJ (c4) ?_ ?_;· simp[*];done)|(refine bJ (c5) ?_ ?_;· simp[*];done)|(refine bJ (c6) ?_ ?_;· simp[*];done)
     all_goals first|omega|exact fR af
   .have c2:=Bd r he tr ab b hd;have c3:=eO r hin tr ab b _ _ (CK hd);rw[ev] at c2 c3;rw[a6] at c2 c3 sn;generalize bn r tr b 0=d at *;clear ev a6 l1 l2 l3 l4 l5 l6 l7 k1 k2 hin
    repeat' first|(with_reducible first|apply bI|apply cg|apply bV|apply bH|apply bP|refine And.intro ?_ ?_|intro _)|simp[*,hd,ht,aq]|(refine bJ (ca) ?_ ?_;· simp[*];done)|(refine bJ (cf) ?_ ?_;· simp[*];done)|(refine bJ (cc) ?_ ?_;· simp[*];done)|(refine bJ (ci) ?_ ?_;· simp[*];done)|(refine bJ (c1) ?_ ?_;· simp[*];done)|(refine bJ (c2) ?_ ?_;· simp[*];done)|(refine bJ (c3) ?_ ?_;· simp[*];done)|(refine bJ (sn) ?_ ?_;· simp[*];done)
    all_goals first|omega|exact fR af
  .have c2:=Av r he tr ab b;rw[ev] at c2;rw[a6] at c2 sn;generalize ceR r=e at *;clear ev a6 l1 l2 l3 l4 l5 l6 l7 k1 k2
   repeat' first|(with_reducible first|apply bI|apply cg|apply bV|apply bH|apply bP|refine And.intro ?_ ?_|intro _)|simp[*,he,ht,aq]|(refine bJ (ca) ?_ ?_;· simp[*];done)|(refine bJ (cf) ?_ ?_;· simp[*];done)|(refine bJ (cc) ?_ ?_;· simp[*];done)|(refine bJ (ci) ?_ ?_;· simp[*];done)|(refine bJ (c1) ?_ ?_;· simp[*];done)|(refine bJ (c2) ?_ ?_;· simp[*];done)|(refine bJ (sn) ?_ ?_;· simp[*];done)
   all_goals first|omega|exact fR af
end Go.Proofs.YthpkmilhiganjaaGreat
