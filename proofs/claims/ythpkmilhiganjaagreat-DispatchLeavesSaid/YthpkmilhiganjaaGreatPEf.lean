/- Lemmas. -/
import Derived.Test.YthpkmilhiganjaaGreatPEe
import Derived.Test.YthpkmilhiganjaaGreatPEd
import Derived.Test.YthpkmilhiganjaaGreatPDb
import Derived.Test.YthpkmilhiganjaaGreatPLe
import Derived.Test.YthpkmilhiganjaaGreatPLg
set_option linter.all false
set_option maxHeartbeats 32000000
set_option maxRecDepth 100000
namespace Go.Proofs.YthpkmilhiganjaaGreat
open Go Go.Fi
noncomputable instance zir:av:=LD
theorem zb8(ex:List Int)(n:Nat):bl ex (n+1)=if a7 ex n then bl ex n+1 else bl ex n:=by
 unfold bl;rw[mF];split<;>simp
theorem zew{α:Type}[Inhabited α](l m:List α){j:Nat}(h:j<l.length):nth (l++m) j=nth l j:=by
 simp[nth,bS,om h]
theorem zex{α:Type}[Inhabited α](l:List α)(i:α):nth (l++[i]) l.length=i:=by
 simp[nth,bS]
theorem qk(ex:List Int):∀(n j:Nat),j<bl ex n->nth (bK ex n) j<n/\a7 ex (nth (bK ex n) j)=true/\bl ex (nth (bK ex n) j)=j
 |0,j,h=>absurd h (by simp[bl,bK])
 |n+1,j,h=>by
  have ih:=qk ex n j;rw[zb8] at h;rw[mF]
  cases hk:a7 ex n with
  |false=>
   rw[hk] at h;simp only[bI,a9] at h ⊢;have:=ih h;exact⟨by omega,this.2⟩
  |true=>
   rw[hk] at h;simp only[aX] at h ⊢;by_cases hj:j<bl ex n
   .rw[zew _ _ hj];have:=ih hj;exact⟨by omega,this.2⟩
   .have e:j=(bK ex n).length:=by have:bl ex n=(bK ex n).length:=rfl;omega
    rw[e,zex];exact⟨by omega,hk,rfl⟩
theorem zc6(ex:List Int){n i:Nat}(hi:i<n)(hk:a7 ex i=true):nth (bK ex n) (bl ex i)=i:=by
 have h:=qk ex n (bl ex i) (C4 hk hi);exact LK h.2.1 hk h.2.2
theorem zb9(ex:List Int)(f:Nat->Int):∀n,cq (λj=>f (nth (bK ex n) j)) (bl ex n)=cq (λi=>if a7 ex i then f i else 0) n
 |0=>rfl
 |n+1=>by
  have ih:=zb9 ex f n;rw[zb8,mF,show cq (λi=>if a7 ex i then f i else 0) (n+1)=cq (λi=>if a7 ex i then f i else 0) n+(if a7 ex n then f n else 0) from rfl,<-ih]
  cases hk:a7 ex n with
  |false=>simp
  |true=>
   simp only[aX];have e:cq (λj=>f (nth (bK ex n++[n]) j)) (bl ex n+1)=cq (λj=>f (nth (bK ex n++[n]) j)) (bl ex n)+f (nth (bK ex n++[n]) (bl ex n)):=rfl;rw[e,show bl ex n=(bK ex n).length from rfl,zex];congr 1
   exact C8 _ λj hj=>by rw[zew _ _ hj]
theorem zca{α β:Type}[Inhabited α][Inhabited β](f:α->β)(l:List α)(j:Nat)(h:j<l.length):nth (l.map f) j=f (nth l j):=by
 simp[nth,bS,h]
section
variable(x:Rd)(os cs:List Int)
theorem zgd{k:Nat}(hk:k<bl cs x.ab.length):nth (cC x cs x.ab.length) k=nth x.ab (nth (bK cs x.ab.length) k):=zca _ _ _ hk
theorem zey{i:Nat}(hi:i<bl os x.os.length):nth (bM x os x.os.length) i=nth x.os (nth (bK os x.os.length) i):=zca _ _ _ hi
theorem zge{i k:Nat}(hi:i<bl os x.os.length)(hk:k<bl cs x.ab.length):nth (nth (cm x os cs x.os.length) i) k=nth (nth x.wt (nth (bK os x.os.length) i)) (nth (bK cs x.ab.length) k):=by
 unfold cm;rw[zca _ _ _ hi];exact zca _ _ _ hk
theorem zgf{i k:Nat}(hi:i<bl os x.os.length)(hk:k<bl cs x.ab.length):hasB (cE x os cs x.zs.length) ((i:Int),(k:Int))=hasB x.zs (((nth (bK os x.os.length) i:Nat):Int),((nth (bK cs x.ab.length) k:Nat):Int)):=by
 obtain⟨o1,o2,o3⟩:=qk os x.os.length i hi;obtain⟨c1,c2,c3⟩:=qk cs x.ab.length k hk;unfold hasB cE;rw[uW,List.any_flatMap];rw[iS,kE,kE];constructor
 .rintro⟨p,hp,h⟩
  refine⟨p,hp,?_⟩;rw[kE] at h;obtain⟨q,hq,h⟩:=h;obtain⟨a,b,rfl,ha,hb,ka,kb,rfl⟩:=zb7 hq;simp only[bU,decide_eq_true_eq] at h ⊢;have e1:=LK ka o2 (by omega);have e2:=LK kb c2 (by omega);subst e1;subst e2;exact⟨rfl,rfl⟩
 .rintro⟨p,hp,h⟩
  refine⟨p,hp,?_⟩;simp only[bU,decide_eq_true_eq] at h;have e:p=(((nth (bK os x.os.length) i:Nat):Int),((nth (bK cs x.ab.length) k:Nat):Int)):=Prod.ext h.1.symm h.2.symm;rw[e,zc5 o1 c1 o2 c2,o3,c3];simp
theorem zgg{i k:Nat}(hi:i<bl os x.os.length)(hk:k<bl cs x.ab.length):zci (cC x cs x.ab.length) (bM x os x.os.length) (cE x os cs x.zs.length) i k=zci x.ab x.os x.zs (nth (bK os x.os.length) i) (nth (bK cs x.ab.length) k):=by
 unfold zci;rw[zgd x cs hk,zey x os hi,zgf x os cs hi hk]
end
theorem zez(x:Rd)(ok:ku x)(U V:Nat->Int)(aa:∀i,i<x.os.length->U i<=bw (prio x i))(ao:∀i k,i<x.os.length->k<x.ab.length->nth (nth x.fit i) k=true->U i<=nth (nth x.wt i) k+V k)(hv:∀k,k<x.ab.length->0<=V k)(plan:List Int)(hp:PO x plan):cq U x.os.length-cq V x.ab.length<=eQ x plan:=by
 have lU:((List.range x.os.length).map U).length=x.os.length:=by simp
 have lV:((List.range x.ab.length).map V).length=x.ab.length:=by simp
 have nU:∀i,i<x.os.length->nth ((List.range x.os.length).map U) i=U i:=λi hi=>CN _ _ _ hi
 have nV:∀k,k<x.ab.length->nth ((List.range x.ab.length).map V) k=V k:=λk hk=>CN _ _ _ hk
 have h1:=zd6 x ok ((List.range x.os.length).map U) ((List.range x.ab.length).map V) plan hp lU (λi hi=>by
  rw[lU] at hi;rw[nU i hi]
  refine zdk _ _ _ _ _ (aa i hi) _ λk hk hr=>?_
  rw[ok.fr i hi] at hk;rw[nV k hk]
  exact ao i k hi hk hr) plan.length (aE _)
 have h2:=zf0 x ((List.range x.ab.length).map V) plan hp (λc hc=>by rw[nV c hc];exact hv c hc);have e1:plan.length=x.os.length:=hp.len;unfold eQ;rw[e1] at h1 h2 ⊢;rw[zcv _ U _ nU] at h1;rw[zcv _ V _ nV] at h2;omega
theorem ze0(x:Rd)(ok:ku x):eQ x (bF x)=cq (nth (cp x).u) x.os.length-cq (nth (cH x)) x.ab.length:=by
 rw[zf1 x ok,zcv (rL x) (nth (cp x).u) _ (λk hk=>zd8 x ok k hk),E1]
theorem LS(r:Tw.RND)(h:ceR r=0)(os cs:List Int):ceR (bL r h os cs)=0:=(Li _).2 (zf7 (x:=aj r) ((Li r).1 h) os cs)
section
variable(r:Tw.RND)(h:ceR r=0)(os cs:List Int)
theorem Mk:(bL r h os cs).os.length=bl os r.os.length:=by simp[bL,bM,bl];rfl
theorem MS:(bL r h os cs).ab.length=bl cs r.ab.length:=by simp[bL,cC,bl];rfl
theorem ze1{i k:Nat}(hi:i<bl os r.os.length)(hk:k<bl cs r.ab.length):nth (nth (aj (bL r h os cs)).fit i) k=nth (nth (aj r).fit (nth (bK os r.os.length) i)) (nth (bK cs r.ab.length) k):=by
 have h1:=qk os r.os.length i hi;have h2:=qk cs r.ab.length k hk;rw[zfd (bL r h os cs) i k (by rw[Mk];exact hi) (by rw[MS];exact hk),zfd r _ _ h1.1 h2.1];exact zgg (aj r) os cs hi hk
theorem ze2{i k:Nat}(hi:i<bl os r.os.length)(hk:k<bl cs r.ab.length):nth (nth (bL r h os cs).wt i) k=nth (nth r.wt (nth (bK os r.os.length) i)) (nth (bK cs r.ab.length) k):=zge (aj r) os cs hi hk
theorem ze3{i:Nat}(hi:i<bl os r.os.length):prio (aj (bL r h os cs)) i=prio (aj r) (nth (bK os r.os.length) i):=by
 unfold prio;have:nth (aj (bL r h os cs)).os i=nth (aj r).os (nth (bK os r.os.length) i):=zey (aj r) os hi;rw[this]
theorem zgh(U V:Nat->Int)(aa:∀i,i<r.os.length->a7 os i=true->U i<=bw (prio (aj r) i))(ao:∀i k,i<r.os.length->k<r.ab.length->a7 os i=true->a7 cs k=true->nth (nth (aj r).fit i) k=true->U i<=nth (nth r.wt i) k+V k)(hv:∀k,k<r.ab.length->a7 cs k=true->0<=V k):cq (λi=>if a7 os i then U i else 0) r.os.length-cq (λk=>if a7 cs k then V k else 0) r.ab.length<=eQ (aj (bL r h os cs)) (bF (aj (bL r h os cs))):=by
 have ok:=oc _ (LS r h os cs)
 have:=zez (aj (bL r h os cs)) ok (λi=>U (nth (bK os r.os.length) i)) (λk=>V (nth (bK cs r.ab.length) k)) (λi hi=>by
  have hi:i<bl os r.os.length:=by rw[<-Mk r h os cs];exact hi
  rw[ze3 r h os cs hi];have:=qk os r.os.length i hi
  exact aa _ this.1 this.2.1) (λi k hi hk hf=>by
  have hi:i<bl os r.os.length:=by rw[<-Mk r h os cs];exact hi
  have hk:k<bl cs r.ab.length:=by rw[<-MS r h os cs];exact hk
  rw[ze1 r h os cs hi hk] at hf;have h1:=qk os r.os.length i hi;have h2:=qk cs r.ab.length k hk;have:=ao _ _ h1.1 h2.1 h1.2.1 h2.2.1 hf;rw[<-ze2 r h os cs hi hk] at this
  exact this) (λk hk=>by
  have hk:k<bl cs r.ab.length:=by rw[<-MS r h os cs];exact hk
  have h2:=qk cs r.ab.length k hk
  exact hv _ h2.1 h2.2.1) (bF (aj (bL r h os cs))) (zcu _ ok)
 rw[show (aj (bL r h os cs)).os.length=bl os r.os.length from Mk r h os cs,show (aj (bL r h os cs)).ab.length=bl cs r.ab.length from MS r h os cs,zb9 os U,zb9 cs V] at this;exact this
end
theorem D6(k:Nat):a7 [] k=true:=rfl
theorem PC(n:Nat):bl [] n=n:=by
 induction n with
 |zero=>rfl
 |succ n ih=>rw[zb8,D6,ih];rfl
theorem ze4(r:Tw.RND)(h:ceR r=0)(car:Int):eQ (aj r) (bF (aj r))<=eQ (aj (bL r h [] [car])) (bF (aj (bL r h [] [car]))):=by
 have b:=E2 _ (oc r h);have h1:=zgh r h [] [car] (nth (cp (aj r)).u) (nth (cH (aj r))) (λi hi _=>b.pe i hi) (λi k hi hk _ _ hf=>b.wt i k hi hk hf) (λk hk _=>(b.v0 k hk).1);rw[ze0 _ (oc r h)]
 have h2:cq (λk=>if a7 [car] k then nth (cH (aj r)) k else 0) r.ab.length<=cq (nth (cH (aj r))) r.ab.length:=EX _ λk hk=>by
  have:=(b.v0 k hk).1
  split<;>omega
 have h3:cq (λi=>if a7 [] i then nth (cp (aj r)).u i else 0) r.os.length=cq (nth (cp (aj r)).u) r.os.length:=C8 _ λi _=>by rw[D6];rfl
 have e1:(aj r).os.length=r.os.length:=rfl;have e2:(aj r).ab.length=r.ab.length:=rfl;rw[e1,e2];omega
theorem zgi(r:Tw.RND)(h:ceR r=0)(o:Int):eQ (aj (bL r h [o] [])) (bF (aj (bL r h [o] [])))<=eQ (aj r) (bF (aj r)):=by
 have ok:=oc r h;have okl:=oc _ (LS r h [o] []);have b:=E2 _ okl;have lo:=Mk r h [o] [];have lc:=MS r h [o] [];rw[PC] at lc;generalize hL:bL r h [o] []=L at *;have hu:(cp (aj L)).u=(cp (aj L)).u:=rfl
 have key:=zez (aj r) ok (λi=>if a7 [o] i then nth (cp (aj L)).u (bl [o] i) else 0) (nth (cH (aj L))) (λi hi=>by
  have hi:i<r.os.length:=hi;show (if a7 [o] i then nth (cp (aj L)).u (bl [o] i) else 0)<=_;split
  .rename_i hk;have h1:=C4 hk hi;have h2:=b.pe (bl [o] i) (by show _<L.os.length;omega);have h3:=ze3 r h [o] [] h1;rw[hL,zc6 [o] hi hk] at h3
   rwa [h3] at h2
  .have:=nz (prio (aj r) i) (D4 _ ok i hi).1;omega) (λi k hi hk hf=>by
  have hi:i<r.os.length:=hi;have hk:k<r.ab.length:=hk;have hw:=ok.wn i hi k hk;have hv:=(b.v0 k (by show k<L.ab.length;omega)).1;show (if a7 [o] i then nth (cp (aj L)).u (bl [o] i) else 0)<=_;split
  .rename_i aq;have h1:=C4 aq hi
   have h0:k<bl [] r.ab.length:=by rw[PC];exact hk
   have ax:nth (bK [] r.ab.length) k=k:=by
    have:=zc6 [] hk (D6 k)
    rwa [PC] at this
   have h2:=b.wt (bl [o] i) k (by show _<L.os.length;omega) (by show _<L.ab.length;omega);have h3:=ze1 r h [o] [] h1 h0;have h4:=ze2 r h [o] [] h1 h0;rw[hL,zc6 [o] hi aq,ax] at h3 h4;have:=h2 (by rw[h3];exact hf);have h5:nth (nth (aj L).wt (bl [o] i)) k=nth (nth (aj r).wt i) k:=h4
   rwa [h5] at this
  .omega) (λk hk=>(b.v0 k (by show k<L.ab.length;have:k<r.ab.length:=hk;omega)).1) (bF (aj r)) (zcu _ ok)
 rw[ze0 _ okl]
 have e1:cq (λi=>if a7 [o] i then nth (cp (aj L)).u (bl [o] i) else 0) (aj r).os.length=cq (nth (cp (aj L)).u) (aj L).os.length:=by
  have:=zb9 [o] (λi=>nth (cp (aj L)).u (bl [o] i)) r.os.length;rw[show (aj r).os.length=r.os.length from rfl,<-this,show (aj L).os.length=L.os.length from rfl,lo]
  exact C8 _ λj hj=>by rw[(qk [o] r.os.length j hj).2.2]
 have e2:(aj L).ab.length=(aj r).ab.length:=lc;rw[e1] at key;rw[e2];exact key
def cn(f:Nat->Bool):Nat->Nat
 |0=>0
 |n+1=>cn f n+if f n then 1 else 0
noncomputable instance zit:av:=LD
noncomputable instance ziv:av:=LD
theorem zgj(ex:List Int)(k:Nat):a7 ex k=true↔¬(k:Int)∈ex:=by
 unfold a7;rw[gH,mY];constructor
 .intro h hm;have:=h _ hm;simp at this
 .intro h y hy;simp only[decide_eq_true_eq];intro e;exact h (by rw[e];exact hy)
section
variable[av]
theorem ze5(n g:Int)(h1:inI .i64 (n-1)):aC Tz.prog 92 [.int .i64 n,.int .i64 g] (.int .i64 (if g<n then n-1 else n)) true:=by
 by_cases h:g<n
 .rw[aB h];refine rcK Tz.func92 ?_;simp only[Tryz.results92,Tryz.ntmps92]
  repeat' first|(with_reducible first|apply ai|apply az|apply af|apply al|intro _)|(simp[*,h])
  all_goals first|assumption
 .rw[ar h];refine rcK Tz.func92 ?_;simp only[Tryz.results92,Tryz.ntmps92]
  repeat' first|(with_reducible first|apply ai|apply au|apply az|apply af|apply al|intro _)|(simp[*,h])
  all_goals first|assumption
theorem BF(o k:Nat):a7 [(o:Int)] k = !decide (k=o):=by
 rw[iS,zgj];simp;omega
theorem zc7(o:Nat):∀a,bl [(o:Int)] a=if o<a then a-1 else a
 |0=>rfl
 |a+1=>by
  rw[zb8,BF,zc7 o a];by_cases h:a=o
  .subst h;simp
  .simp[h];split<;>split<;>omega
theorem zgk{n c o a b:Nat}(ha:a<n)(hb:b<c):cL [(o:Int)] [] n c ((a:Int),(b:Int))=if a=o then [] else [((if (o:Int)<(a:Int) then (a:Int)-1 else (a:Int)),(b:Int))]:=by
 by_cases h:a=o
 .rw[aB h];unfold cL;rw[C1,ar]
  rintro⟨_,_,h2⟩
  rw[bT,BF] at h2;simp[h] at h2
 .rw[ar h,zc5 ha hb (by rw[BF];simp[h]) (D6 b),zc7,PC];congr 2
  split<;>split<;>omega
theorem zgl{n c o a b:Nat}(ha:a<n)(hb:b<c):cL [] [(o:Int)] n c ((a:Int),(b:Int))=if b=o then [] else [((a:Int),(if (o:Int)<(b:Int) then (b:Int)-1 else (b:Int)))]:=by
 by_cases h:b=o
 .rw[aB h];unfold cL
  have:eF (kz [(o:Int)] c) (b:Int)=none:=by
   rw[C1,ar]
   rintro⟨_,_,h2⟩
   rw[bT,BF] at h2;simp[h] at h2
  simp only[this]
  cases eF (kz [] n) (a:Int)<;>rfl
 .rw[ar h,zc5 ha hb (D6 a) (by rw[BF];simp[h]),zc7,PC];congr 2
  split<;>split<;>omega
theorem zcb(n:Nat):bK [] n=List.range n:=by
 unfold bK
 exact List.filter_eq_self.2 λk _=>rfl
theorem zc8{α:Type}[Inhabited α](l:List α):(List.range l.length).map (nth l)=l:=by
 refine Jc (by simp) λi h1 h2=>?_
 simp[C9 l i h2]
theorem zgm(x:Rd):cC x [] x.ab.length=x.ab:=by unfold cC;rw[zcb];exact zc8 _
theorem zgn(x:Rd):bM x [] x.os.length=x.os:=by unfold bM;rw[zcb];exact zc8 _
theorem zgo(x:Rd)(i:Nat)(h:(nth x.wt i).length=x.ab.length):kB x [] i x.ab.length=nth x.wt i:=by unfold kB;rw[zcb,<-h];exact zc8 _
theorem zc9{l:List PV}(h:∀y∈l,sr y=true):dj (l.map (AV.w false false))=true:=tV false false _ (eh.2 h)
theorem zgp(l:List Car):dj ((aS l).map (AV.w false false))=true:=zc9 λy hy=>(Bt _ _ hy).2
theorem zgq(l:List Ord):dj ((aR l).map (AV.w false false))=true:=zc9 λy hy=>(Bu _ _ hy).2
theorem zff{ab:List Car}{os:List Ord}{wt:List (List Int)}{zs:List Par}(h:Rt ab os wt zs){k:Nat}(hk:k<zs.length):∃a b:Nat,nth zs k=((a:Int),(b:Int))/\a<os.length/\b<ab.length:=by
 have:=h.zr _ (Bm hk);obtain⟨h1,h2⟩:=this;have h1:=kQ.1 h1;have h2:=kQ.1 h2;exact⟨(nth zs k).1.toNat,(nth zs k).2.toNat,Prod.ext (by show (nth zs k).1=_;omega) (by show (nth zs k).2=_;omega),by omega,by omega⟩
theorem zgr(x:Rd)(h:Rt x.ab x.os x.wt x.zs)(o:Nat):aC Tz.prog 44 [.agg [.sl x.ab.length (aS x.ab),.sl x.os.length (aR x.os),.sl x.wt.length (a8 x.wt),.sl x.zs.length (aT x.zs)],.int .i64 o] (mH x [(o:Int)] []) true:=by
 have lc:=h.lc;have lo:=h.lo;have lw:=h.lw;have lz:=h.lz
 have wr:∀i,i<x.os.length->(nth x.wt i).length=x.ab.length:=λi hi=>(h.wr _ (Bm (by omega))).1
 have zr:=λk hk=>zff h (k:=k) hk
 have sO:∀k,bM x [(o:Int)] (k+1)=if k=o then bM x [(o:Int)] k else bM x [(o:Int)] k++[nth x.os k]:=λk=>by
  unfold bM;rw[mF,BF];by_cases e:k=o<;>simp[e]
 have sW:∀k,k<x.os.length->cm x [(o:Int)] [] (k+1)=if k=o then cm x [(o:Int)] [] k else cm x [(o:Int)] [] k++[nth x.wt k]:=λk hk=>by
  unfold cm;rw[mF,BF];by_cases e:k=o<;>simp[e,zgo x k (wr k hk)]
 have sZ:∀k,k<x.zs.length->cE x [(o:Int)] [] (k+1)=cE x [(o:Int)] [] k++cL [(o:Int)] [] x.os.length x.ab.length (nth x.zs k):=λk hk=>by
  unfold cE;rw[sV hk,sX];rw[<-C9 x.zs k hk];simp
 have lwL:∀k,(cm x [(o:Int)] [] k).length=(bM x [(o:Int)] k).length:=λk=>by simp[cm,bM]
 have bO:∀k,(bM x [(o:Int)] k).length<=k:=λk=>by simp[bM];exact Bd _ k
 have bZ:∀k,(cE x [(o:Int)] [] k).length<=k:=λk=>by
  unfold cE
  have key:∀l:List Par,(l.flatMap (cL [(o:Int)] [] x.os.length x.ab.length)).length<=l.length:=λl=>by
   induction l with
   |nil=>simp
   |cons p l ih=>
    rw[il,jO,eI]
    have:(cL [(o:Int)] [] x.os.length x.ab.length p).length<=1:=by
     unfold cL;split<;>simp
    omega
  exact bN (key _) (by simp;omega)
 have z4:bM x [(o:Int)] 0=[]:=rfl;have z5:cm x [(o:Int)] [] 0=[]:=rfl;have z6:cE x [(o:Int)] [] 0=[]:=rfl
 have eP:=λa b ha hb=>zgk (o:=o) (n:=x.os.length) (c:=x.ab.length) (a:=a) (b:=b) ha hb
 unfold mH;rw[zgm,<-zc1 (cm x [(o:Int)] [] x.os.length)];generalize bM x [(o:Int)]=LO at *;generalize cm x [(o:Int)] []=LW at *;generalize cE x [(o:Int)] []=LZ at *;generalize cL [(o:Int)] [] x.os.length x.ab.length=LP at *;have q3:=keep (And.intro sO (And.intro sW (And.intro bO (And.intro wr (And.intro lw (And.intro lwL (And.intro lo lc)))))));have q4:=keep (And.intro sZ (And.intro eP (And.intro bZ (And.intro zr (And.intro lz (And.intro lo lc))))));have k4:=keep z4;have k5:=keep z5;have k6:=keep z6;have c0:=zgp x.ab
 have c9:x.ab.length<=1000000000:=by omega
 clear sO sW bO wr lw lwL sZ eP bZ zr lz lo lc z4 z5 z6 h;refine rcK Tz.func44 ?_;simp only[Tryz.results44,Tryz.ntmps44]
 repeat' first|(with_reducible first|apply ai|apply af|intro _)|(simp[*])
 all_goals try first|exact c9|exact c0
 have eC:(aS x.ab).map (AV.w false false)=cA (aS x.ab):=rfl;rw[eC];clear eC c0 c9;have e0:cA (aR [])=[]:=rfl;have e00:cN []=[]:=rfl;refine df 6 (λ(k:Nat)=>k<=x.os.length) [1,2,4,5] (λ(k:Nat)=>[(6,.w false false (.int .i64 k))]) [0,1,2] (λ(k:Nat)=>[(4,cA (aR (LO k))),(5,cN (LW k)),(3,[.msl 2 (x.ab.length*3) 3 0 x.ab.length,.msl 4 ((LO k).length*4) 4 0 (LO k).length,.msl 5 (LW k).length 1 0 (LW k).length,.w true true (.sl 0 [])])]) (λ(k:Nat)=>x.os.length-k) (λ(_u:Unit)=>True) [1,2,4,5] (λ(_u:Unit)=>[]) [0,1,2] (λ(_u:Unit)=>[(4,cA (aR (LO x.os.length))),(5,cN (LW x.os.length)),(3,[.msl 2 (x.ab.length*3) 3 0 x.ab.length,.msl 4 ((LO x.os.length).length*4) 4 0 (LO x.os.length).length,.msl 5 (LW x.os.length).length 1 0 (LW x.os.length).length,.w true true (.sl 0 [])])]) (0) (aK _) (aO [] (by simp[show LO 0=[] from k4,show LW 0=[] from k5,e0,e00]) (by simp[show LO 0=[] from k4,show LW 0=[] from k5,e0,e00])) (λk hk=>?_) (λ_u hf=>?_)
 .clear e0 e00 q4 k4 k5 k6;by_cases h8:k<x.os.length
  .obtain⟨sO,sW,bO,wr,lw,lwL,lo,lc⟩:=q3;have e2:=sO k;have w2:=sW k h8;have b:=bO k;have h9:inI .i64 ((k:Int)+1):=aG (by omega) (by omega)
   have hz:k+1<=x.os.length:=by omega
   have a6:(LO k).length+1<=1000000000:=by omega
   have hl9w:(LW k).length+1<=1000000000:=by rw[lwL];exact a6
   have hx:=HR (LO k)
   have a5:k<x.wt.length:=by omega
   have c1:=oR (nth x.wt k) (by have:=wr k h8;omega);clear sO sW bO wr lw lwL lo lc b;by_cases hg:k=o
   .rw[aB hg] at e2 w2;clear c1;subst hg
    repeat' first|(with_reducible first|apply ai|apply aF|apply au|apply af|apply al|intro _)|(simp[*,h8,h9])
    all_goals first
     |omega
     |assumption
     |(refine nx (k+1) ?_ ?_;(· exact hz);(refine aO [] ?_ ?_<;>first|trivial|(simp[*,e2,w2];done)))
   .rw[ar hg] at e2 w2
    have hkI:¬(k:Int)=(o:Int):=by omega
    have e4:=zeg (LO k) (nth x.os k);rw[<-e2] at e4
    have e5:(LO (k+1)).length=(LO k).length+1:=by rw[e2];simp
    have e6:=zc0 (LW k) (nth x.wt k);rw[<-w2] at e6
    have e7:(LW (k+1)).length=(LW k).length+1:=by rw[w2];simp
    clear e2 w2
    repeat' first|(with_reducible first|apply ai|apply aF|apply au|apply af|refine aQ (id:=6) 8 mixed (by decide +kernel) ?_|refine aQ (id:=7) 9 mixed (by decide +kernel) ?_|apply al|refine And.intro ?_ ?_|refine cw (c1) ?_|intro _)|(simp[*,h8,h9,hkI,hg,a5,hx,Tw.cg])|(refine ae (c1) ?_ ?_;(· (simp[*];done)))
    all_goals first
     |omega
     |assumption
     |(refine nx (k+1) ?_ ?_;(· exact hz);(refine aO [] ?_ ?_<;>first|trivial|(simp[*,e4,e5,e6,e7,fe];done)))
  .have h':k=x.os.length:=by omega
   subst h';clear q3
   repeat' first|(with_reducible first|apply ai|apply aL|apply af|apply al|intro _)|(simp[*,h8])
   all_goals first
    |omega
    |(refine aZ () ?_ ?_;(· trivial);(refine aD ?_ ?_<;>first|trivial|(simp[*];done)))
 .clear e0 e00 q3 k4 k5
  repeat' first|(with_reducible first|apply ai|apply af|intro _)|(simp[*])
  have e0:cA (aT [])=[]:=rfl;refine df 7 (λ(k:Nat)=>k<=x.zs.length) [1,2,4,5] (λ(k:Nat)=>[(7,.w false false (.int .i64 k))]) [0,1,2,4,5] (λ(k:Nat)=>[(6,cA (aT (LZ k))),(3,[.msl 2 (x.ab.length*3) 3 0 x.ab.length,.msl 4 ((LO x.os.length).length*4) 4 0 (LO x.os.length).length,.msl 5 (LW x.os.length).length 1 0 (LW x.os.length).length,.msl 6 ((LZ k).length*2) 2 0 (LZ k).length])]) (λ(k:Nat)=>x.zs.length-k) (λ(_u:Unit)=>True) [4,5] (λ(_u:Unit)=>[]) [0,1,2,4,5] (λ(_u:Unit)=>[(6,cA (aT (LZ x.zs.length))),(3,[.msl 2 (x.ab.length*3) 3 0 x.ab.length,.msl 4 ((LO x.os.length).length*4) 4 0 (LO x.os.length).length,.msl 5 (LW x.os.length).length 1 0 (LW x.os.length).length,.msl 6 ((LZ x.zs.length).length*2) 2 0 (LZ x.zs.length).length])]) (0) (aK _) (aO [] (by simp[show LZ 0=[] from k6,e0]) (by simp[show LZ 0=[] from k6,e0])) (λk hk=>?_) (λ_u hf=>?_)
  .clear e0 k6;by_cases h8:k<x.zs.length
   .obtain⟨sZ,eP,bZ,zr,lz,lo,lc⟩:=q4;have s1:=sZ k h8;obtain⟨a,b,eab,ha,hb⟩:=zr k h8;rw[eab,eP a b ha hb] at s1;have b9:=bZ k;have h9:inI .i64 ((k:Int)+1):=aG (by omega) (by omega)
    have hz:k+1<=x.zs.length:=by omega
    have a6:(LZ k).length+1<=1000000000:=by omega
    have hx:=D5 (LZ k);have c1:=ze5 (a:Int) (o:Int) (aG (by omega) (by omega))
    have ea1:(nth x.zs k).1=(a:Int):=by rw[eab]
    have ea2:(nth x.zs k).2=(b:Int):=by rw[eab]
    clear sZ eP bZ zr lz lo lc b9 eab ha hb;by_cases hh:a=o
    .rw[aB hh] at s1;simp only[oo] at s1
     have haI:(a:Int)=(o:Int):=by omega
     clear c1 hh
     repeat' first|(with_reducible first|apply ai|apply aF|apply au|apply af|apply al|refine And.intro ?_ ?_|intro _)|(simp[*,h8,h9,ea1,ea2,haI,Tw.cu])
     all_goals first
      |omega
      |assumption
      |(refine nx (k+1) ?_ ?_;(· exact hz);(refine aO [] ?_ ?_<;>first|trivial|(simp[*,s1];done)))
    .rw[ar hh] at s1
     have haI:¬(a:Int)=(o:Int):=by omega
     generalize (if (o:Int)<(a:Int) then (a:Int)-1 else (a:Int))=w at *;have s2:=zcz (LZ k) (w,(b:Int));rw[<-s1] at s2
     have s3:(LZ (k+1)).length=(LZ k).length+1:=by rw[s1];simp
     clear s1
     repeat' first|(with_reducible first|apply ai|apply aF|apply au|apply af|refine aQ (id:=13) 10 mixed (by decide +kernel) ?_|apply al|refine And.intro ?_ ?_|refine cw (c1) ?_|intro _)|(simp[*,h8,h9,ea1,ea2,haI,hh,hx,Tw.cu])|(refine ae (c1) ?_ ?_;(· (simp[*];done)))
     all_goals first
      |omega
      |assumption
      |(refine nx (k+1) ?_ ?_;(· exact hz);(refine aO [] ?_ ?_<;>first|trivial|(simp[*,s2,s3,fe];done)))
   .have h':k=x.zs.length:=by omega
    subst h';clear q4
    repeat' first|(with_reducible first|apply ai|apply aL|apply af|apply al|intro _)|(simp[*,h8])
    all_goals first
     |omega
     |(refine aZ () ?_ ?_;(· trivial);(refine aD ?_ ?_<;>first|trivial|(simp[*];done)))
  .clear e0 k6 q4;have h1:=FL x.ab;have h2:=HR (LO x.os.length);have h3:=D5 (LZ x.zs.length)
   repeat' first|(with_reducible first|apply ai|apply az|apply af|intro _)|(simp[*,h1,h2,h3])
   all_goals first|omega|trivial
theorem zgs(l:List Int):dj (iA l)=true:=tV false false _ (eh.2 λy hy=>by obtain⟨v,_,rfl⟩:=dW.1 hy;rfl)
theorem zgt(l:List Int)(a b:Nat):dj (((List.map (AV.w false false) (ints l)).drop a).take b)=true:=by
 rw[<-List.map_drop,<-Jb]
 exact zc9 λy hy=>by
  obtain⟨v,_,rfl⟩:=dW.1 (List.mem_of_mem_drop (List.mem_of_mem_take hy));rfl
theorem zgu(l:List Int)(h:l.length<100000):nI Tz.prog 24 [.sl l.length (ints l)] [iA l] (.msl 0 l.length 1 0 l.length):=by
 have e:(ints l).map (AV.w false false)=iA l:=rfl;have g:=zgs l;refine xg 0 [] Tz.func24 (by kernel_rfl) rfl (di (by kernel_rfl)) (by simp) (by intro c hc;simp only[pT] at hc;subst hc;exact zd1 l) ?_;simp only[Tryz.results24,Tryz.ntmps24]
 repeat' first|(with_reducible first|apply ai|apply az|apply af|refine And.intro ?_ ?_|intro _)|(simp[*,e,g])
 all_goals first|omega|assumption
theorem ze6(l:List Int)(c:Nat):∀k,k<=l.length->(bK [(c:Int)] k).map (nth l)=if k<=c then l.take k else l.take c++(l.take k).drop (c+1)
 |0,_=>by rw[aB (aK _)];rfl
 |k+1,h=>by
  have ih:=ze6 l c k (by omega);have ht:l.take (k+1)=l.take k++[nth l k]:=xe l k (by omega)
  have hlen:(l.take k).length=k:=by rw[ia];omega
  rw[mF,BF];by_cases hk:k=c
  .subst hk;simp only[decide_true,fJ,bI,a9];rw[ih,aB (aE _),ar (by omega),ht,Db (by simp[hlen]),oo]
  .simp only[hk,decide_false,gm,aX,ou,mV,uM];rw[ih,ht];by_cases hc:k<=c
   .rw[aB hc,aB (by omega)]
   .rw[ar hc,ar (by omega),List.append_assoc,SH (by omega)]
theorem zgv(x:Rd)(i c:Nat)(h:(nth x.wt i).length=x.ab.length)(hc:c<x.ab.length):kB x [(c:Int)] i x.ab.length=(nth x.wt i).take c++(nth x.wt i).drop (c+1):=by
 unfold kB;rw[<-h,ze6 (nth x.wt i) c _ (aE _),ar (by omega),uW]
theorem ze7(x:Rd)(h:Rt x.ab x.os x.wt x.zs)(o:Nat)(ho:o<x.ab.length):aC Tz.prog 46 [.agg [.sl x.ab.length (aS x.ab),.sl x.os.length (aR x.os),.sl x.wt.length (a8 x.wt),.sl x.zs.length (aT x.zs)],.int .i64 o] (mH x [] [(o:Int)]) true:=by
 have lc:=h.lc;have lo:=h.lo;have lw:=h.lw;have lz:=h.lz
 have wr:∀i,i<x.os.length->(nth x.wt i).length=x.ab.length:=λi hi=>(h.wr _ (Bm (by omega))).1
 have zr:=λk hk=>zff h (k:=k) hk
 have sC:∀k,cC x [(o:Int)] (k+1)=if k=o then cC x [(o:Int)] k else cC x [(o:Int)] k++[nth x.ab k]:=λk=>by
  unfold cC;rw[mF,BF];by_cases e:k=o<;>simp[e]
 have sW:∀k,k<x.os.length->cm x [] [(o:Int)] (k+1)=cm x [] [(o:Int)] k++[(nth x.wt k).take o++(nth x.wt k).drop (o+1)]:=λk hk=>by
  unfold cm;rw[mF,D6];simp[zgv x k o (wr k hk) ho]
 have sZ:∀k,k<x.zs.length->cE x [] [(o:Int)] (k+1)=cE x [] [(o:Int)] k++cL [] [(o:Int)] x.os.length x.ab.length (nth x.zs k):=λk hk=>by
  unfold cE;rw[sV hk,sX];rw[<-C9 x.zs k hk];simp
 have bW:∀k,(cm x [] [(o:Int)] k).length=k:=λk=>by simp[cm,zcb]
 have bC:∀k,(cC x [(o:Int)] k).length<=k:=λk=>by simp[cC];exact Bd _ k
 have bZ:∀k,(cE x [] [(o:Int)] k).length<=k:=λk=>by
  unfold cE
  have key:∀l:List Par,(l.flatMap (cL [] [(o:Int)] x.os.length x.ab.length)).length<=l.length:=λl=>by
   induction l with
   |nil=>simp
   |cons p l ih=>
    rw[il,jO,eI]
    have:(cL [] [(o:Int)] x.os.length x.ab.length p).length<=1:=by
     unfold cL;split<;>simp
    omega
  exact bN (key _) (by simp;omega)
 have z4:cC x [(o:Int)] 0=[]:=rfl;have z5:cm x [] [(o:Int)] 0=[]:=rfl;have z6:cE x [] [(o:Int)] 0=[]:=rfl
 have eP:=λa b ha hb=>zgl (o:=o) (n:=x.os.length) (c:=x.ab.length) (a:=a) (b:=b) ha hb
 unfold mH;rw[zgn,<-zc1 (cm x [] [(o:Int)] x.os.length)];generalize cC x [(o:Int)]=LC at *;generalize cm x [] [(o:Int)]=LW at *;generalize cE x [] [(o:Int)]=LZ at *;generalize cL [] [(o:Int)] x.os.length x.ab.length=LP at *;have q2:=keep (And.intro sC (And.intro bC lc));have q3:=keep (And.intro sW (And.intro bW (And.intro wr (And.intro lw (And.intro lo lc)))));have q4:=keep (And.intro sZ (And.intro eP (And.intro bZ (And.intro zr (And.intro lz (And.intro lo lc))))));have k4:=keep z4;have k5:=keep z5;have k6:=keep z6;have kw:=keep lw;have c0:=zgq x.os
 have c9:x.os.length<=1000000000:=by omega
 clear sC sW bC bW wr lw sZ eP bZ zr lz lo lc z4 z5 z6 h;refine rcK Tz.func46 ?_;simp only[Tryz.results46,Tryz.ntmps46]
 repeat' first|(with_reducible first|apply ai|apply af|intro _)|(simp[*])
 all_goals try first|exact c9|exact c0
 have eC:(aR x.os).map (AV.w false false)=cA (aR x.os):=rfl;rw[eC];clear eC c0 c9;have e0:cA (aS [])=[]:=rfl;refine df 5 (λ(k:Nat)=>k<=x.ab.length) [1,2,4,5] (λ(k:Nat)=>[(6,.w false false (.int .i64 k))]) [0,1,2] (λ(k:Nat)=>[(4,cA (aS (LC k))),(3,[.msl 4 ((LC k).length*3) 3 0 (LC k).length,.msl 2 (x.os.length*4) 4 0 x.os.length,.w true true (.sl 0 []),.w true true (.sl 0 [])])]) (λ(k:Nat)=>x.ab.length-k) (λ(_u:Unit)=>True) [1,2,4,5] (λ(_u:Unit)=>[]) [0,1,2] (λ(_u:Unit)=>[(4,cA (aS (LC x.ab.length))),(3,[.msl 4 ((LC x.ab.length).length*3) 3 0 (LC x.ab.length).length,.msl 2 (x.os.length*4) 4 0 x.os.length,.w true true (.sl 0 []),.w true true (.sl 0 [])])]) (0) (aK _) (aO [] (by simp[show LC 0=[] from k4,e0]) (by simp[show LC 0=[] from k4,e0])) (λk hk=>?_) (λ_u hf=>?_)
 .clear e0 q3 q4 k4 k5 k6 kw;by_cases h8:k<x.ab.length
  .obtain⟨sC,bC,lc⟩:=q2;have e2:=sC k;have b:=bC k;have h9:inI .i64 ((k:Int)+1):=aG (by omega) (by omega)
   have hz:k+1<=x.ab.length:=by omega
   have a6:(LC k).length+1<=1000000000:=by omega
   have hx:=FL (LC k);clear sC bC lc b;by_cases hg:k=o
   .rw[aB hg] at e2;subst hg
    repeat' first|(with_reducible first|apply ai|apply aF|apply au|apply af|apply al|intro _)|(simp[*,h8,h9])
    all_goals first
     |omega
     |assumption
     |(refine nx (k+1) ?_ ?_;(· exact hz);(refine aO [] ?_ ?_<;>first|trivial|(simp[*,e2];done)))
   .rw[ar hg] at e2
    have hkI:¬(k:Int)=(o:Int):=by omega
    have e4:=zef (LC k) (nth x.ab k);rw[<-e2] at e4
    have e5:(LC (k+1)).length=(LC k).length+1:=by rw[e2];simp
    clear e2
    repeat' first|(with_reducible first|apply ai|apply aF|apply au|apply af|refine aQ (id:=6) 8 mixed (by decide +kernel) ?_|apply al|refine And.intro ?_ ?_|intro _)|(simp[*,h8,h9,hkI,hg,hx,Tw.dt])
    all_goals first
     |omega
     |assumption
     |(refine nx (k+1) ?_ ?_;(· exact hz);(refine aO [] ?_ ?_<;>first|trivial|(simp[*,e4,e5,fe];done)))
  .have h':k=x.ab.length:=by omega
   subst h';clear q2
   repeat' first|(with_reducible first|apply ai|apply aL|apply af|apply al|intro _)|(simp[*,h8])
   all_goals first
    |omega
    |(refine aZ () ?_ ?_;(· trivial);(refine aD ?_ ?_<;>first|trivial|(simp[*];done)))
 clear e0 q2 k4
 repeat' first|(with_reducible first|apply ai|apply af|intro _)|(simp[*])
 have e00:cN []=[]:=rfl;refine df 6 (λ(k:Nat)=>k<=x.os.length) [1,2,4,5] (λ(k:Nat)=>[(7,.w false false (.int .i64 k))]) [0,1,2,4] (λ(k:Nat)=>[(5,cN (LW k)),(3,[.msl 4 ((LC x.ab.length).length*3) 3 0 (LC x.ab.length).length,.msl 2 (x.os.length*4) 4 0 x.os.length,.msl 5 k 1 0 k,.w true true (.sl 0 [])])]) (λ(k:Nat)=>x.os.length-k) (λ(_u:Unit)=>True) [1,2,4,5] (λ(_u:Unit)=>[]) [0,1,2,4] (λ(_u:Unit)=>[(5,cN (LW x.os.length)),(3,[.msl 4 ((LC x.ab.length).length*3) 3 0 (LC x.ab.length).length,.msl 2 (x.os.length*4) 4 0 x.os.length,.msl 5 x.os.length 1 0 x.os.length,.w true true (.sl 0 [])])]) (0) (aK _) (aO [] (by simp[show LW 0=[] from k5,e00]) (by simp[show LW 0=[] from k5,e00])) (λk hk=>?_) (λ_u hf=>?_)
 .clear e00 q4 k5 k6;obtain⟨sW,bW,wr,lw,lo,lc⟩:=q3;by_cases h8:k<x.os.length
  .have w2:=sW k h8;have h9:inI .i64 ((k:Int)+1):=aG (by omega) (by omega);have aw:inI .i64 ((o:Int)+1):=aG (by omega) (by omega)
   have hz:k+1<=x.os.length:=by omega
   have b4:k+1<=1000000000:=by omega
   have a5:k<x.wt.length:=by omega
   have ag:=wr k h8;have b1:=bW k;generalize hN:nth x.wt k=R at *
   have hoR:o<=R.length:=by omega
   have hoR1:o+1<=R.length:=by omega
   have ay:R.length<=1000000000:=by omega
   have c1:=zgu (R.take o) (by rw[ia];omega)
   have lt0:(R.take o).length=o:=by rw[ia];omega
   rw[lt0] at c1;have e6:=zc0 (LW k) (R.take o++R.drop (o+1));rw[<-w2] at e6
   have hLc:iA (R.take o)++List.take (R.length-(o+1)) (List.drop (o+1) (List.map (AV.w false false) (ints R)))=iA (R.take o++R.drop (o+1)):=by
    rw[<-RR];congr 1;rw[Jd (IQ (by rw[uL,fI,Oh]))];simp[iA,ints,List.map_drop]
   have hLl:o+(R.length-(o+1))=(R.take o++R.drop (o+1)).length:=by simp;omega
   obtain⟨L,hL⟩:∃L,R.take o++R.drop (o+1)=L:=⟨_,rfl⟩;rw[hL] at e6 hLc hLl;have kq:=keep (And.intro e6 (And.intro hLc hLl));clear sW bW wr lw lo lc w2 lt0 ag ho kw e6 hLc hLl hL
   repeat' first|(with_reducible first|apply ai|apply iV|apply au|apply af|refine iX (id:=10) [0,1,2,3,4,5,6,7,8,9,10,11,12,13,14,15,16,17] [18,19,20,21,22] [[.new 0],[.new 0],[],[],[],[],[],[],[],[],[],[],[],[],[],[],[],[]] [[.new 0],[],[.fld 5 27 2],[],[.slot 5]] mixed (by decide +kernel) ?_|apply al|refine And.intro ?_ ?_|refine cwM (c1) ?_|intro _)|(simp[*,h8,h9,aw,a5,hN,hoR,hoR1])
   all_goals try first|omega|assumption|exact zgt _ _ _
   obtain⟨e6,hLc,hLl⟩:=kq
   all_goals first
    |(refine nx (k+1) ?_ ?_;(· exact hz);(refine aO [6] ?_ ?_<;>first|trivial|(simp[*,e6,hLc,hLl];done)))
  .have h':k=x.os.length:=by omega
   subst h'
   have a5:¬(x.os.length:Int)<(x.wt.length:Int):=by omega
   have a':¬x.os.length<x.wt.length:=by omega
   clear sW bW wr lw lo lc kw
   repeat' first|(with_reducible first|apply ai|apply aL|apply af|apply al|intro _)|(simp[*,a5,a'])
   all_goals first
    |omega
    |(refine aZ () ?_ ?_;(· trivial);(refine aD ?_ ?_<;>first|trivial|(simp[*];done)))
 have hWl:(LW x.os.length).length=x.os.length:=q3.2.1 _;have kWl:=keep hWl;clear e00 q3 k5 hWl
 repeat' first|(with_reducible first|apply ai|apply af|intro _)|(simp[*])
 have e0:cA (aT [])=[]:=rfl;refine df 7 (λ(k:Nat)=>k<=x.zs.length) [1,2,4,5] (λ(k:Nat)=>[(8,.w false false (.int .i64 k))]) [0,1,2,4,5] (λ(k:Nat)=>[(6,cA (aT (LZ k))),(3,[.msl 4 ((LC x.ab.length).length*3) 3 0 (LC x.ab.length).length,.msl 2 (x.os.length*4) 4 0 x.os.length,.msl 5 x.os.length 1 0 x.os.length,.msl 6 ((LZ k).length*2) 2 0 (LZ k).length])]) (λ(k:Nat)=>x.zs.length-k) (λ(_u:Unit)=>True) [4,5] (λ(_u:Unit)=>[]) [0,1,2,4,5] (λ(_u:Unit)=>[(6,cA (aT (LZ x.zs.length))),(3,[.msl 4 ((LC x.ab.length).length*3) 3 0 (LC x.ab.length).length,.msl 2 (x.os.length*4) 4 0 x.os.length,.msl 5 x.os.length 1 0 x.os.length,.msl 6 ((LZ x.zs.length).length*2) 2 0 (LZ x.zs.length).length])]) (0) (aK _) (aO [] (by simp[show LZ 0=[] from k6,e0]) (by simp[show LZ 0=[] from k6,e0])) (λk hk=>?_) (λ_u hf=>?_)
 .clear e0 k6;by_cases h8:k<x.zs.length
  .obtain⟨sZ,eP,bZ,zr,lz,lo,lc⟩:=q4;have s1:=sZ k h8;obtain⟨a,b,eab,ha,hb⟩:=zr k h8;rw[eab,eP a b ha hb] at s1;have b9:=bZ k;have h9:inI .i64 ((k:Int)+1):=aG (by omega) (by omega)
   have hz:k+1<=x.zs.length:=by omega
   have a6:(LZ k).length+1<=1000000000:=by omega
   have hx:=D5 (LZ k);have c1:=ze5 (b:Int) (o:Int) (aG (by omega) (by omega))
   have ea1:(nth x.zs k).1=(a:Int):=by rw[eab]
   have ea2:(nth x.zs k).2=(b:Int):=by rw[eab]
   clear sZ eP bZ zr lz lo lc b9 eab ha hb;by_cases hh:b=o
   .rw[aB hh] at s1;simp only[oo] at s1
    have haI:(b:Int)=(o:Int):=by omega
    clear c1 hh
    repeat' first|(with_reducible first|apply ai|apply aF|apply au|apply af|apply al|refine And.intro ?_ ?_|intro _)|(simp[*,h8,h9,ea1,ea2,haI,Tw.cu])
    all_goals first
     |omega
     |assumption
     |(refine nx (k+1) ?_ ?_;(· exact hz);(refine aO [] ?_ ?_<;>first|trivial|(simp[*,s1];done)))
   .rw[ar hh] at s1
    have haI:¬(b:Int)=(o:Int):=by omega
    generalize (if (o:Int)<(b:Int) then (b:Int)-1 else (b:Int))=w at *;have s2:=zcz (LZ k) ((a:Int),w);rw[<-s1] at s2
    have s3:(LZ (k+1)).length=(LZ k).length+1:=by rw[s1];simp
    clear s1
    repeat' first|(with_reducible first|apply ai|apply aF|apply au|apply af|refine aQ (id:=16) 10 mixed (by decide +kernel) ?_|apply al|refine And.intro ?_ ?_|refine cw (c1) ?_|intro _)|(simp[*,h8,h9,ea1,ea2,haI,hh,hx,Tw.cu])|(refine ae (c1) ?_ ?_;(· (simp[*];done)))
    all_goals first
     |omega
     |assumption
     |(refine nx (k+1) ?_ ?_;(· exact hz);(refine aO [] ?_ ?_<;>first|trivial|(simp[*,s2,s3,fe];done)))
  .have h':k=x.zs.length:=by omega
   subst h';clear q4
   repeat' first|(with_reducible first|apply ai|apply aL|apply af|apply al|intro _)|(simp[*,h8])
   all_goals first
    |omega
    |(refine aZ () ?_ ?_;(· trivial);(refine aD ?_ ?_<;>first|trivial|(simp[*];done)))
 .clear e0 k6 q4;have h1:=HR x.os;have h2:=FL (LC x.ab.length);have h3:=D5 (LZ x.zs.length);have h4:(LW x.os.length).length=x.os.length:=kWl
  repeat' first|(with_reducible first|apply ai|apply az|apply af|intro _)|(simp[*,h1,h2,h3,h4])
  all_goals first|omega|trivial
end
theorem ze8[av](x:Rd)(h:x.os.length<100000)(n:Int):aC Tz.prog 90 [x.pv,.int .i64 n] (.int .i64 (ba (aU n 0 ((x.os.length:Int)-1)) 6)) true:=by
 obtain⟨ab,os,wt,zs,fit⟩:=x;unfold Rd.pv;simp only[] at h ⊢;refine rcK Tz.func90 ?_;simp only[Tryz.results90,Tryz.ntmps90]
 repeat' first|(with_reducible first|apply ai|apply az|apply af|refine And.intro ?_ ?_|refine cw (fL _ _ _) ?_|refine cw (dG _ _) ?_|intro _)|(simp[*])|(refine ae (fL _ _ _) ?_ ?_;(· (simp[*];done)))|(refine ae (dG _ _) ?_ ?_;(· (simp[*];done)))
 all_goals first
  |exact aG (by omega) (by omega)
  |omega
noncomputable instance zix:av:=LD
section
variable[av]
theorem zgw(m:List (List Int))(hl:m.length<100000)(hr:∀w∈m,w.length<100000):aC Tz.prog 88 [.sl m.length (a8 m),.sl m.length (a8 m)] (.bool true) true:=by
 have c:=λk (hk:k<m.length)=>oQ (nth m k) (nth m k) (hr _ (Bm hk))
 have kc:=keep c;clear hr c;refine rcK Tz.func88 ?_;simp only[Tryz.results88,Tryz.ntmps88]
 repeat' first|(with_reducible first|apply ai|apply au|apply af|apply al|intro _)|(simp[*])
 refine bQ (λ(k:Nat)=>k<=m.length) [0,1] (λ(k:Nat)=>[(5,.w false false (.int .i64 k))]) [] (λ(k:Nat)=>[]) (λ(k:Nat)=>m.length-k) (λ(_u:Unit)=>True) [] (λ(_u:Unit)=>[]) [] (λ(_u:Unit)=>[]) (0) (aK _) (by simp) (by simp) (λk hk=>?_) (λ_u hf=>?_)
 .by_cases h8:k<m.length
  .have c1:=kc k h8;rw[nB,decide_eq_true rfl] at c1;have h9:inI .i64 ((k:Int)+1):=aG (by omega) (by omega)
   have hz:k+1<=m.length:=by omega
   repeat' first|(with_reducible first|apply ai|apply aF|apply au|apply af|refine aQ (id:=6) 10 mixed (by decide +kernel) ?_|apply al|refine And.intro ?_ ?_|refine cw (c1) ?_|intro _)|(simp[*,h8,h9])|(refine ae (c1) ?_ ?_;(· (simp[*];done)))
   all_goals first
    |omega
    |assumption
    |(refine nx (k+1) ?_ ?_;(· exact hz);(refine aD ?_ ?_<;>first|trivial|(simp[*];done)))
  .have h':k=m.length:=by omega
   subst h';clear kc
   repeat' first|(with_reducible first|apply ai|apply aL|apply af|apply al|intro _)|(simp[*,h8])
   all_goals first
    |omega
    |(refine aZ () ?_ ?_;(· trivial);(refine aD ?_ ?_<;>first|trivial|(simp[*];done)))
 .repeat' first|(with_reducible first|apply ai|apply az|apply af|intro _)|(simp[*])
theorem ze9(ab:List Car)(os:List Ord)(wt:List (List Int))(zs:List Par)(h1:ab.length<100000)(h2:os.length<100000)(h3:wt.length<100000)(h4:zs.length<100000)(hr:∀w∈wt,w.length<100000):aC Tz.prog 39 [.agg [.sl ab.length (aS ab),.sl os.length (aR os),.sl wt.length (a8 wt),.sl zs.length (aT zs)],.agg [.sl ab.length (aS ab),.sl os.length (aR os),.sl wt.length (a8 wt),.sl zs.length (aT zs)]] (.bool true) true:=by
 have c1:=zgw wt h3 hr;clear hr h3;refine rcK Tz.func39 ?_;simp only[Tryz.results39,Tryz.ntmps39]
 repeat' first|(with_reducible first|apply ai|apply au|apply af|apply al|refine And.intro ?_ ?_|refine cw (c1) ?_|intro _)|(simp[*])|(refine ae (c1) ?_ ?_;(· (simp[*];done)))
 clear c1;refine bQ (λ(k:Nat)=>k<=ab.length) [2,3] (λ(k:Nat)=>[(5,.w false false (.int .i64 k))]) [0,1] (λ(k:Nat)=>[]) (λ(k:Nat)=>ab.length-k) (λ(_u:Unit)=>True) [2,3] (λ(_u:Unit)=>[]) [0,1] (λ(_u:Unit)=>[]) (0) (aK _) (by simp) (by simp) (λk hk=>?_) (λ_u hf=>?_)
 .by_cases h8:k<ab.length
  .have h9:inI .i64 ((k:Int)+1):=aG (by omega) (by omega)
   have hz:k+1<=ab.length:=by omega
   repeat' first|(with_reducible first|apply ai|apply aF|apply au|apply af|refine aQ (id:=6) 11 mixed (by decide +kernel) ?_|apply al|refine And.intro ?_ ?_|intro _)|(simp[*,h8,h9,Tw.dt])
   all_goals first
    |omega
    |assumption
    |(refine nx (k+1) ?_ ?_;(· exact hz);(refine aD ?_ ?_<;>first|trivial|(simp[*];done)))
  .have h':k=ab.length:=by omega
   subst h'
   repeat' first|(with_reducible first|apply ai|apply aL|apply af|apply al|intro _)|(simp[*,h8])
   all_goals first
    |omega
    |(refine aZ () ?_ ?_;(· trivial);(refine aD ?_ ?_<;>first|trivial|(simp[*];done)))
 repeat' first|(with_reducible first|apply ai|apply af|intro _)|(simp[*])
 refine bQ (λ(k:Nat)=>k<=os.length) [2,3] (λ(k:Nat)=>[(6,.w false false (.int .i64 k))]) [0,1] (λ(k:Nat)=>[]) (λ(k:Nat)=>os.length-k) (λ(_u:Unit)=>True) [2,3] (λ(_u:Unit)=>[]) [0,1] (λ(_u:Unit)=>[]) (0) (aK _) (by simp) (by simp) (λk hk=>?_) (λ_u hf=>?_)
 .by_cases h8:k<os.length
  .have h9:inI .i64 ((k:Int)+1):=aG (by omega) (by omega)
   have hz:k+1<=os.length:=by omega
   repeat' first|(with_reducible first|apply ai|apply aF|apply au|apply af|refine aQ (id:=11) 11 mixed (by decide +kernel) ?_|apply al|refine And.intro ?_ ?_|intro _)|(simp[*,h8,h9,Tw.cg])
   all_goals first
    |omega
    |assumption
    |(refine nx (k+1) ?_ ?_;(· exact hz);(refine aD ?_ ?_<;>first|trivial|(simp[*];done)))
  .have h':k=os.length:=by omega
   subst h'
   repeat' first|(with_reducible first|apply ai|apply aL|apply af|apply al|intro _)|(simp[*,h8])
   all_goals first
    |omega
    |(refine aZ () ?_ ?_;(· trivial);(refine aD ?_ ?_<;>first|trivial|(simp[*];done)))
 repeat' first|(with_reducible first|apply ai|apply af|intro _)|(simp[*])
 refine bQ (λ(k:Nat)=>k<=zs.length) [2,3] (λ(k:Nat)=>[(7,.w false false (.int .i64 k))]) [0,1] (λ(k:Nat)=>[]) (λ(k:Nat)=>zs.length-k) (λ(_u:Unit)=>True) [] (λ(_u:Unit)=>[]) [0,1] (λ(_u:Unit)=>[]) (0) (aK _) (by simp) (by simp) (λk hk=>?_) (λ_u hf=>?_)
 .by_cases h8:k<zs.length
  .have h9:inI .i64 ((k:Int)+1):=aG (by omega) (by omega)
   have hz:k+1<=zs.length:=by omega
   repeat' first|(with_reducible first|apply ai|apply aF|apply au|apply af|refine aQ (id:=16) 11 mixed (by decide +kernel) ?_|apply al|refine And.intro ?_ ?_|intro _)|(simp[*,h8,h9,Tw.cu])
   all_goals first
    |omega
    |assumption
    |(refine nx (k+1) ?_ ?_;(· exact hz);(refine aD ?_ ?_<;>first|trivial|(simp[*];done)))
  .have h':k=zs.length:=by omega
   subst h'
   repeat' first|(with_reducible first|apply ai|apply aL|apply af|apply al|intro _)|(simp[*,h8])
   all_goals first
    |omega
    |(refine aZ () ?_ ?_;(· trivial);(refine aD ?_ ?_<;>first|trivial|(simp[*];done)))
 .repeat' first|(with_reducible first|apply ai|apply az|apply af|intro _)|(simp[*])
theorem zda(r:Tw.RND):aC Tz.prog 39 [Tw.aM r,Tw.aM r] (.bool true) true:=
 ze9 r.ab r.os r.wt r.zs r.dB.2.2.2.1 r.dB.2.2.2.2.1 r.dB.2.2.2.2.2.1 r.dB.2.2.2.2.2.2 r.dB.2.2.1
theorem zgx:aC Tz.prog 39 [mE,mE] (.bool true) true:=ze9 [] [] [] [] (by decide) (by decide) (by decide) (by decide) (by simp)
end
noncomputable instance zi0:av:=LD
theorem zgy(r:Tw.RND)(h:ceR r=0)(o:Int)(hc:aU o 0 ((r.os.length:Int)-1)=true):aC Tz.prog 41 [Tw.aM r,.int .i64 o] (.tup [mH (aj r) [o] [],.int .i64 0]) false:=by
 have c1:=dI r;rw[gr r h] at c1;have ok:=oc r h;have c2:=ze8 (aj r) (by have:=ok.lo;omega) o;have e:(aj r).os.length=r.os.length:=rfl;rw[e,hc,show ba true 6=0 from rfl] at c2;have c3:=zek (aj r) ok [o] [] (by simp) (by simp);have c3:aC Tz.prog 87 [(aj r).pv,.sl 1 [.int .i64 o],.sl 0 []] (mH (aj r) [o] []) true:=c3;obtain⟨n1,a1,n2,a2,n3,a3,n4,a4,hv⟩:∃n1 a1 n2 a2 n3 a3 n4 a4,mH (aj r) [o] []=.agg [.sl n1 a1,.sl n2 a2,.sl n3 a3,.sl n4 a4]:=⟨_,_,_,_,_,_,_,_,rfl⟩;rw[hv] at c3 ⊢;clear e hc ok h hv;generalize aj r=x at *;unfold Rd.pv at *;unfold Tw.aM at *;generalize r.cz=p1 at *;generalize r.osP=p2 at *;generalize r.cT=p3 at *;generalize r.zsP=p4 at *;refine rcK Tz.func41 ?_;simp only[Tryz.results41,Tryz.ntmps41]
 repeat' first|(with_reducible first|apply ai|apply au|apply az|apply af|apply al|refine And.intro ?_ ?_|refine cw (c1) ?_|refine cw (c2) ?_|refine cw (c3) ?_|intro _)|(simp[*])|(refine ae (c1) ?_ ?_;(· (simp[*];done)))|(refine ae (c2) ?_ ?_;(· (simp[*];done)))|(refine ae (c3) ?_ ?_;(· (simp[*];done)))
 all_goals first|omega
theorem zgz(r:Tw.RND)(h:ceR r=0)(o:Int)(hc:aU o 0 ((r.os.length:Int)-1)=false):aC Tz.prog 41 [Tw.aM r,.int .i64 o] (.tup [mE,.int .i64 6]) false:=by
 have c1:=dI r;rw[gr r h] at c1;have ok:=oc r h;have c2:=ze8 (aj r) (by have:=ok.lo;omega) o;have e:(aj r).os.length=r.os.length:=rfl;rw[e,hc,show ba false 6=6 from rfl] at c2;unfold mE;generalize aj r=x at *;unfold Rd.pv at *;unfold Tw.aM at *;generalize r.cz=p1 at *;generalize r.osP=p2 at *;generalize r.cT=p3 at *;generalize r.zsP=p4 at *;clear ok e hc;refine rcK Tz.func41 ?_;simp only[Tryz.results41,Tryz.ntmps41]
 repeat' first|(with_reducible first|apply ai|apply az|apply af|apply al|refine And.intro ?_ ?_|refine cw (c1) ?_|refine cw (c2) ?_|intro _)|(simp[*])|(refine ae (c1) ?_ ?_;(· (simp[*];done)))|(refine ae (c2) ?_ ?_;(· (simp[*];done)))
 all_goals first|omega
theorem zg0(r:Tw.RND)(h:ceR r≠0)(o:Int):aC Tz.prog 41 [Tw.aM r,.int .i64 o] (.tup [mE,.int .i64 (ceR r)]) false:=by
 have c1:=dI r;rw[k8 r h] at c1;unfold mE;generalize ceR r=e at *;unfold Tw.aM at *;generalize r.cz=p1 at *;generalize r.osP=p2 at *;generalize r.cT=p3 at *;generalize r.zsP=p4 at *;refine rcK Tz.func41 ?_;simp only[Tryz.results41,Tryz.ntmps41]
 repeat' first|(with_reducible first|apply ai|apply au|apply az|apply af|apply al|refine And.intro ?_ ?_|refine cw (c1) ?_|intro _)|(simp[*,h])|(refine ae (c1) ?_ ?_;(· (simp[*];done)))
 all_goals first|omega
end Go.Proofs.YthpkmilhiganjaaGreat
