/- Lemmas. -/
import Derived.Test.YthpkmilhiganjaaGreatPEa
import Derived.Test.YthpkmilhiganjaaGreatPDb
set_option linter.all false
set_option maxHeartbeats 32000000
set_option maxRecDepth 100000
namespace Go.Proofs.YthpkmilhiganjaaGreat
open Go Go.Fi
variable[av]
@[simp]theorem zd6:dK Tz.prog 153=some [.w false false .undef]:=by kernel_rfl
theorem MO(x:Rd)(ok:kW x)(most:Int):aC Tz.prog 83 [x.pv,.int .i64 most] (.tup [.sl x.os.length (ints (cM x most).1),.int .i64 (cM x most).2]) true:=by
 have hm:=mz x most
 have hw:=λi (hi:i<x.os.length) (s:FS)=>wu x ok most (x.ab.length+1) i s
 have eM:∀i,bd x most (i+1)=((bL x most (x.ab.length+1) i ((bd x most i).1,List.replicate x.ab.length false)).2.1,
  if (bL x most (x.ab.length+1) i ((bd x most i).1,List.replicate x.ab.length false)).1 then (bd x most i).2+1 else (bd x most i).2):=λ_=>rfl
 have e0:bd x most 0=(List.replicate x.ab.length (-1),0):=rfl;have eP:cM x most=(bZ (bd x most x.os.length).1 x.os.length x.ab.length,(bd x most x.os.length).2):=rfl;rw[eP];generalize bd x most=M at *
 have e1:iA (M 0).1=iA (List.replicate x.ab.length (-1)):=by rw[e0]
 have e2:(M 0).2=0:=by rw[e0]
 have e3:(M 0).1=List.replicate x.ab.length (-1):=by rw[e0]
 have hy:=ok.lc;have a5:=ok.lo;have r1:=zd (-1) x.ab.length (by omega);have r2:=zd (-1) x.os.length (by omega);have kk:=keep (And.intro hm (And.intro hw (And.intro eM (And.intro hy a5))));clear hm hw eM e0 eP hy a5 ok e1;unfold Rd.pv;refine rcK Tz.func83 ?_;simp only[Tryz.results83,Tryz.ntmps83]
 repeat' first|(with_reducible first|apply ai|apply af|refine cwM (r1) ?_|intro _)|(simp[*])
 clear r1;refine df 6 (λ(i:Nat)=>i<=x.os.length) [2,6,7,27] (λ(i:Nat)=>[(28,.w false false (.int .i64 i)),(8,.w false false (.int .i64 (M i).2))]) [0,1,4,5] (λ(i:Nat)=>[(3,iA (M i).1)]) (λ(i:Nat)=>x.os.length-i) (λ(_u:Unit)=>True) [2,6] (λ(_u:Unit)=>[(8,.w false false (.int .i64 (M x.os.length).2))]) [0,4] (λ(_u:Unit)=>[(3,iA (M x.os.length).1)]) (0) (aK _) (aO [] (by simp[e2,e3]) (by simp[e2,e3])) (λi hk=>?_) (λ_u hf=>?_)
 .clear e2 e3 r2;by_cases h3:i<x.os.length
  .obtain⟨hm,hw,eM,hy,a5⟩:=kk;obtain⟨m1,m2,m3⟩:=hm i hk;have hs:=hw i h3 ((M i).1,List.replicate x.ab.length false);have eMi:=eM i
   have b6:bl (List.replicate x.ab.length false)<x.ab.length+1:=by rw[ml];omega
   have hx:=λK=>hs K h3 m1 b6
   generalize bL x most (x.ab.length+1) i ((M i).1,List.replicate x.ab.length false)=RR at eMi hx;obtain⟨b,tk2,sn2⟩:=RR;dsimp only at eMi hx
   have a1:(M (i+1)).1=tk2:=by rw[eMi]
   have a2:(M (i+1)).2=if b=true then (M i).2+1 else (M i).2:=by rw[eMi]
   have a4:inI .i64 ((i:Int)+1):=aG (by omega) (by omega);have bb:inI .i64 ((M i).2+1):=aG (by omega) (by omega)
   have hz:i+1<=x.os.length:=by omega
   have bi:(x.ab.length:Int)<=1000000000:=by omega
   have b':inI .i64 (x.ab.length:Int):=aG (by omega) (by omega);unfold mH Rd.pv at hx;dsimp only at hx;rw[LW] at hx;have kih:=keep hx;clear hm hw eM hy a5 m1 m2 m3 hs eMi b6 hx
   repeat' first|(with_reducible first|refine xj (id:=8) 9 119 mixed (by decide +kernel) (by decide +kernel) Tz.func119 (by kernel_rfl) (show Tryz.f119.body=some (Tryz.f119.body.getD .skip) from rfl) rfl ?_|apply ai|apply aF|apply au|apply af|apply al|intro _)|(simp[*,h3,bi,b',a4])
   all_goals try first|omega|assumption
   refine xi ez rfl (di (by kernel_rfl)) (by simp) rfl ?_;refine kih _ ?_;clear kih
   cases b with
   |true=>
    simp only[aX] at a2
    repeat' first|(with_reducible first|apply af|apply al|intro _)|(simp[*,a4,bb])
    all_goals first
     |omega
     |assumption
     |(refine nx (i+1) ?_ ?_;(· exact hz);(refine aO [] ?_ ?_<;>first|trivial|(simp[*,a1,a2,ez];done)))
   |false=>
    simp only[bI,a9] at a2
    repeat' first|(with_reducible first|apply au|apply af|apply al|intro _)|(simp[*,a4,bb])
    all_goals first
     |omega
     |assumption
     |(refine nx (i+1) ?_ ?_;(· exact hz);(refine aO [] ?_ ?_<;>first|trivial|(simp[*,a1,a2,ez];done)))
  .have h8:i=x.os.length:=by omega
   subst h8;clear kk
   repeat' first|(with_reducible first|apply ai|apply aL|apply af|apply al|intro _)|(simp[*,h3])
   all_goals first
    |omega
    |(refine aZ () ?_ ?_;(· trivial);(refine aD ?_ ?_<;>first|trivial|(simp[*];done)))
 .clear e2 e3;obtain⟨hm,hw,eM,hy,a5⟩:=kk;obtain⟨m1,m2,m3⟩:=hm x.os.length (aE _);have a7:(M x.os.length).1.length=x.ab.length:=m1.l1;have b5:=m1.rg;have b':inI .i64 (x.ab.length:Int):=aG (by omega) (by omega);clear hm hw eM m1 m2 m3;generalize M x.os.length=T at *;obtain⟨tk,cnt⟩:=T;dsimp only at a7 b5 ⊢;have krg:=keep b5;have ebd:=keep hy;clear b5 a5 hy;have eb:bZ tk x.os.length 0=List.replicate x.os.length (-1):=rfl
  repeat' first|(with_reducible first|apply ai|apply af|refine cwM (r2) ?_|intro _)|(simp[*,a7])
  clear r2;refine df 8 (λ(k:Nat)=>k<=x.ab.length) [8,10,52,53] (λ(k:Nat)=>[(54,.w false false (.int .i64 k))]) [3] (λ(k:Nat)=>[(7,iA (bZ tk x.os.length k))]) (λ(k:Nat)=>x.ab.length-k) (λ(_u:Unit)=>True) [8,10] (λ(_u:Unit)=>[]) [] (λ(_u:Unit)=>[(7,iA (bZ tk x.os.length x.ab.length))]) (0) (aK _) (aO [] (by simp[eb]) (by simp[eb])) (λk hk=>?_) (λ_u hf=>?_)
  .clear eb;by_cases h3:k<x.ab.length
   .have hr:nth tk k=-1\/(0<=nth tk k/\nth tk k<(x.os.length:Int)):=krg k h3
    have aj:k<tk.length:=by omega
    have eS:bZ tk x.os.length (k+1)=if 0<=nth tk k then (bZ tk x.os.length k).set (nth tk k).toNat k else bZ tk x.os.length k:=rfl
    have ax:=kG tk x.os.length k;have a4:inI .i64 ((k:Int)+1):=aG (by have:=ebd;unfold aN at this;omega) (by have:=ebd;unfold aN at this;omega)
    have hz:k+1<=x.ab.length:=by omega
    clear krg ebd
    rcases hr with hr|⟨bf,bo⟩
    .rw[ar (by omega)] at eS
     repeat' first|(with_reducible first|apply ai|apply aF|apply au|apply af|apply al|intro _)|(simp[*,h3,aj,hr,a7,a4])
     all_goals first
      |omega
      |assumption
      |(refine nx (k+1) ?_ ?_;(· exact hz);(refine aD ?_ ?_<;>first|trivial|(simp[*,eS];done)))
    .obtain⟨j,hj⟩:∃j:Nat,nth tk k=j:=⟨(nth tk k).toNat,by omega⟩;rw[aB bf,hj] at eS;simp only[bT] at eS
     have ag:j<x.os.length:=by omega
     have bk:(0:Int)<=j:=by omega
     clear bf bo
     repeat' first|(with_reducible first|apply ai|apply aF|apply au|apply af|apply al|refine And.intro ?_ ?_|intro _)|(simp[*,h3,aj,hj,a7,a4,ag,ax,bk])
     all_goals first
      |omega
      |assumption
      |(refine nx (k+1) ?_ ?_;(· exact hz);(refine aD ?_ ?_<;>first|trivial|(simp[*,eS];done)))
   .have h8:k=x.ab.length:=by omega
    have aj:¬k<tk.length:=by omega
    subst h8
    repeat' first|(with_reducible first|apply ai|apply aL|apply af|apply al|intro _)|(simp[*,h3,aj,a7])
    all_goals first
     |omega
     |(refine aZ () ?_ ?_;(· trivial);(refine aD ?_ ?_<;>first|trivial|(simp[*];done)))
  .clear eb;have ax:=kG tk x.os.length x.ab.length
   repeat' first|(with_reducible first|apply ai|apply az|apply af|intro _)|(simp[*,ax])
end Go.Proofs.YthpkmilhiganjaaGreat
namespace Go.Proofs.YthpkmilhiganjaaGreat
open Go Go.Fi
noncomputable instance instLD23:av:=LD
noncomputable instance instLD37:av:=LD
def zc5(x:Rd)(i j:Nat):Int:=nth (nth (zcz x x.os.length) i) j
noncomputable def zc6(x:Rd):Hs:=E2 (zc5 x) x.os.length (x.ab.length+x.os.length) x.os.length
noncomputable def kx(x:Rd):List Int:=bZ (zc6 x).ow x.os.length x.ab.length
structure zc7(x:Rd)(plan:List Int):Prop extends zcv x plan where
 fit:∀k,k<plan.length->nth plan k≠-1->nth (nth x.fit k) (nth plan k).toNat=true
 once:∀k,k<plan.length->nth plan k≠-1->∀j,j<k->nth plan j≠nth plan k
theorem z7(tk:List Int)(n:Nat):∀c,(∀k,k<c->nth tk k<(n:Int))->(∀j k,j<c->k<c->0<=nth tk j->nth tk j=nth tk k->j=k)->∀i,i<n->(∃k,k<c/\nth tk k=(i:Int)/\nth (bZ tk n c) i=(k:Int))\/((∀k,k<c->nth tk k≠(i:Int))/\nth (bZ tk n c) i=-1)
 |0,_,_,i,hi=>.inr ⟨λk hk=>absurd hk (by omega),mC _ _ _ hi⟩
 |c+1,h1,h2,i,hi=>by
  have ih:=z7 tk n c (λk hk=>h1 k (by omega)) (λj k hj hk=>h2 j k (by omega) (by omega)) i hi;have hc:=h1 c (by omega);unfold bZ;by_cases h0:0<=nth tk c
  .rw[aB h0,kO _ _ _ _ (by rw[kG];omega)];by_cases e:(nth tk c).toNat=i
   .rw[aB e];exact .inl ⟨c,by omega,by omega,rfl⟩
   .rw[ar e]
    rcases ih with ⟨k,hk,e1,e2⟩|⟨e1,e2⟩
    .exact .inl ⟨k,by omega,e1,e2⟩
    .refine .inr ⟨λk hk=>?_,e2⟩;by_cases aw:k=c
     .subst aw;omega
     .exact e1 k (by omega)
  .rw[ar h0]
   rcases ih with ⟨k,hk,e1,e2⟩|⟨e1,e2⟩
   .exact .inl ⟨k,by omega,e1,e2⟩
   .refine .inr ⟨λk hk=>?_,e2⟩;by_cases aw:k=c
    .subst aw;omega
    .exact e1 k (by omega)
structure zea(x:Rd)(u v:List Int):Prop where
 u0:∀i,i<x.os.length->0<=nth u i/\nth u i<=1000000000000
 v0:∀k,k<x.ab.length->0<=nth v k/\nth v k<=1000000000000
 pe:∀i,i<x.os.length->nth u i<=bw (prio x i)
 wt:∀i k,i<x.os.length->k<x.ab.length->nth (nth x.fit i) k=true->nth u i<=nth (nth x.wt i) k+nth v k
 no:∀i,i<x.os.length->nth (kx x) i=-1->nth u i=bw (prio x i)
 at_:∀i,i<x.os.length->nth (kx x) i≠-1->∃k,k<x.ab.length/\nth (kx x) i=(k:Int)/\nth (nth x.fit i) k=true/\nth u i=nth (nth x.wt i) k+nth v k
 one:∀i j,i<x.os.length->j<x.os.length->nth (kx x) i≠-1->nth (kx x) i=nth (kx x) j->i=j
 fr:∀k,k<x.ab.length->(∀i,i<x.os.length->nth (kx x) i≠(k:Int))->nth v k=0
def cn(f:Nat->Bool):Nat->Nat
 |0=>0
 |n+1=>cn f n+if f n then 1 else 0
theorem kH{f g:Nat->Bool}:∀n,(∀k,k<n->f k=true->g k=true)->cn f n<=cn g n
 |0,_=>aE _
 |n+1,h=>by
  have ih:=kH n (λk hk=>h k (by omega));have h1:=h n (by omega);unfold cn
  cases hf:f n with
  |true=>rw[h1 hf];simp;exact ih
  |false=>simp;omega
theorem eZ{f g:Nat->Bool}(n:Nat)(h:∀k,k<n->f k=g k):cn f n=cn g n:=
 Nat.le_antisymm (kH n λk hk e=>by rw[<-h k hk];exact e) (kH n λk hk e=>by rw[h k hk];exact e)
theorem kQ(f g:Nat->Bool):∀n,cn f n=cn (λk=>f k&&g k) n+cn (λk=>f k && !g k) n
 |0=>rfl
 |n+1=>by
  have ih:=kQ f g n;unfold cn
  cases f n<;>cases g n<;>simp<;>omega
theorem sO(f:Nat->Bool):∀n,cn f n<=n
 |0=>aE _
 |n+1=>by have:=sO f n;unfold cn;split<;>omega
theorem Ao{f:Nat->Bool}:∀n,(∀k,k<n->f k=true)->cn f n=n
 |0,_=>rfl
 |n+1,h=>by have:=Ao n (λk hk=>h k (by omega));unfold cn;rw[h n (by omega),this];rfl
theorem Au{f:Nat->Bool}:∀n,(∀k,k<n->f k=false)->cn f n=0
 |0,_=>rfl
 |n+1,h=>by have:=Au n (λk hk=>h k (by omega));unfold cn;rw[h n (by omega),this];rfl
theorem sR(f:Nat->Bool)(c:Nat):∀n,c<n->f c=true->cn f n=cn (λk=>f k && !(decide (k=c))) n+1
 |n+1,hc,hf=>by
  unfold cn;by_cases e:c=n
  .subst e;rw[hf]
   have:=eZ (f:=f) (g:=λk=>f k && !(decide (k=c))) c (λk hk=>by
    have:¬k=c:=by omega
    simp[this])
   rw[this];simp
  .have:=sR f c n (by omega) hf
   have e2:¬n=c:=λh=>e h.symm
   rw[this];simp[e2];omega
theorem mE{f:Nat->Bool}(m:Nat)(g:Nat->Nat):∀(n:Nat)(h:Nat->Bool),(∀k,k<n->f k=true->g k<m/\h (g k)=true)->(∀j k,j<n->k<n->f j=true->f k=true->g j=g k->j=k)->cn f n<=cn h m
 |0,_,_,_=>aK _
 |n+1,h,h1,h2=>by
  rw[show cn f (n+1)=cn f n+if f n then 1 else 0 from rfl]
  cases hf:f n with
  |false=>
   have:=mE m g n h (λk hk=>h1 k (by omega)) (λj k hj hk=>h2 j k (by omega) (by omega));simpa using this
  |true=>
   obtain⟨b1,b2⟩:=h1 n (by omega) hf;have e:=sR h (g n) m b1 b2
   have:=mE m g n (λk=>h k && !(decide (k=g n))) (λk hk bh=>by
    obtain⟨c1,c2⟩:=h1 k (by omega) bh;refine⟨c1,?_⟩
    have:¬g k=g n:=λe=>by have:=h2 k n (by omega) (by omega) bh hf e;omega
    simp[c2,this]) (λj k hj hk=>h2 j k (by omega) (by omega))
   simp only[aX];omega
theorem mF{f g:Nat->Bool}{k:Nat}:∀c,k<c->(∀j,j<c->j≠k->f j=g j)->cn f c+(if g k then 1 else 0)=cn g c+(if f k then 1 else 0)
 |c+1,hk,h=>by
  unfold cn;by_cases e:k=c
  .subst e;have:=eZ (f:=f) (g:=g) k (λj hj=>h j (by omega) (by omega));omega
  .have:=mF c (by omega) (λj hj hn=>h j (by omega) hn);have h2:=h c (by omega) (λe'=>e e'.symm);rw[h2];omega
def adm(x:Rd)(most:Int)(i k:Nat):Prop:=k<x.ab.length/\nth (nth x.fit i) k=true/\nth (nth x.wt i) k<=most
def occ(tk:List Int)(sn:List Bool)(c o:Nat):Nat:=cn (λk=>!(nth sn k)&&decide (nth tk k=(o:Int))) c
structure Clo(x:Rd)(most:Int)(S X:Nat->Prop)(tk:List Int):Prop where
 s:∀k,k<x.ab.length->S k->0<=nth tk k/\X (nth tk k).toNat
 n:∀i k,X i->adm x most i k->S k
structure tz(x:Rd)(most:Int)(i lo:Nat)(s t:FS):Prop where
 tk:t.1=s.1
 sub:∀k,k<x.ab.length->nth s.2 k=true->nth t.2 k=true
 all:∀k,lo<=k->adm x most i k->nth t.2 k=true
 new:∀k,k<x.ab.length->nth t.2 k=true->nth s.2 k=false->0<=nth s.1 k/\∀j,adm x most (nth s.1 k).toNat j->nth t.2 j=true
structure Win(x:Rd)(most:Int)(i:Nat)(s t:FS):Prop where
 agr:∀k,k<x.ab.length->nth s.2 k=true->nth t.1 k=nth s.1 k
 oc:∀o:Nat,occ t.1 s.2 x.ab.length o=occ s.1 s.2 x.ab.length o+if o=i then 1 else 0
 edg:∀k,k<x.ab.length->nth t.1 k=nth s.1 k\/∃o:Nat,nth t.1 k=(o:Int)/\adm x most o k
 clo:∀S X,Clo x most S X s.1->¬X i/\∀k,k<x.ab.length->S k->nth t.1 k=nth s.1 k
theorem Win.zc8{x:Rd}{most:Int}{i:Nat}{s u t:FS}(h:Win x most i u t)(h1:u.1=s.1)(h2:∀k,k<x.ab.length->nth s.2 k=true->nth u.2 k=true):Win x most i s t:=by
 refine⟨λk hk hs=>by rw[h.agr k hk (h2 k hk hs),h1],λo=>?_,λk hk=>by have:=h.edg k hk;rwa [h1] at this,λS X hc=>by have:=h.clo S X (by rwa [h1]);rwa [h1] at this⟩;have e:=h.oc o
 have key:∀tk:List Int,occ tk s.2 x.ab.length o=cn (λk=>(!(nth s.2 k)&&decide (nth tk k=(o:Int)))&&nth u.2 k) x.ab.length+occ tk u.2 x.ab.length o:=λtk=>by
  have e1:occ tk s.2 x.ab.length o=_:=kQ (λk=>!(nth s.2 k)&&decide (nth tk k=(o:Int))) (λk=>nth u.2 k) x.ab.length;rw[e1];congr 1
  refine eZ _ λk hk=>?_
  have:=h2 k hk
  cases hs:nth s.2 k with
  |true=>rw[this hs];simp
  |false=>cases nth u.2 k<;>simp
 rw[key t.1,key s.1,<-h1,e]
 have:cn (λk=>(!(nth s.2 k)&&decide (nth t.1 k=(o:Int)))&&nth u.2 k) x.ab.length=cn (λk=>(!(nth s.2 k)&&decide (nth u.1 k=(o:Int)))&&nth u.2 k) x.ab.length:=eZ _ λk hk=>by
  cases hu:nth u.2 k with
  |true=>rw[h.agr k hk hu]
  |false=>simp
 omega
theorem MS{x:Rd}{most:Int}{i k:Nat}{sn:List Bool}(h:fh x most i k sn=true)(ha:adm x most i k):nth sn k=true:=by
 obtain⟨_,h1,h2⟩:=ha;simp only[fh,mW,gH,decide_eq_true_eq] at h
 rcases h with (h|h)|h
 .rw[h1] at h;cases h
 .exact h
 .omega
theorem sW{x:Rd}{most:Int}{i:Nat}(hi:i<x.os.length)(rc:Nat->FS->Bool×FS)(B:Nat)(hgo:∀j s,j<x.os.length->cq x s->bl s.2<B->pw x s (rc j s).2)(b4:∀j s,j<x.os.length->cq x s->bl s.2<B->((rc j s).1=false->tz x most j 0 s (rc j s).2)/\((rc j s).1=true->Win x most j s (rc j s).2)):∀(m:Nat)(s:FS),m<=x.ab.length->cq x s->bl s.2<=B->((bW rc x most i m s).1=false->tz x most i (x.ab.length-m) s (bW rc x most i m s).2)/\((bW rc x most i m s).1=true->Win x most i s (bW rc x most i m s).2)
 |0,s,_,_,_=>by
  unfold bW;exact⟨λ_=>⟨rfl,λ_ _ h=>h,λk hk ha=>absurd ha.1 (by omega),λk _ h1 h2=>by rw[h1] at h2;cases h2⟩,λh=>(by cases h)⟩
 |m+1,s,hm,h,hu=>by
  unfold bW;simp only[];obtain⟨k,h8⟩:∃k,x.ab.length-(m+1)=k:=⟨_,rfl⟩;rw[h8]
  have hk:k<x.ab.length:=by omega
  have bc:x.ab.length-m=k+1:=by omega
  split
  .rename_i hs;obtain⟨f1,f2⟩:=sW hi rc B hgo b4 m s (by omega) h hu;rw[bc] at f1;refine⟨λe=>?_,f2⟩;have f:=f1 e;refine⟨f.tk,f.sub,λk' aq ha=>?_,f.new⟩;by_cases e2:k'=k
   .subst e2;exact f.sub k' hk (MS hs ha)
   .exact f.all k' (by omega) ha
  .rename_i hs;obtain⟨g1,g2,g3⟩:=r4 hs;have h':adm x most i k:=⟨hk,g1,g3⟩;have b6:=lV s.2 k (by rw[h.l2];exact hk) g2;have l1:=h.l1;have l2:=h.l2;split
   .rename_i hn;refine⟨λe=>(by cases e),λ_=>?_⟩
    have ns:∀j,nth (s.1.set k (i:Int)) j=if k=j then (i:Int) else nth s.1 j:=λj=>kO _ _ _ _ (by rw[l1];exact hk)
    refine⟨λk' aq h5=>?_,λo=>?_,λk' aq=>?_,λS X hc=>?_⟩
    .show nth (s.1.set k (i:Int)) k'=_;rw[ns,ar];intro e;subst e;rw[g2] at h5;cases h5
    .have e:=mF (f:=λj=>!(nth s.2 j)&&decide (nth (s.1.set k (i:Int)) j=(o:Int))) (g:=λj=>!(nth s.2 j)&&decide (nth s.1 j=(o:Int))) (k:=k) x.ab.length hk (λj hj hh=>by
      rw[ns,ar (λe=>hh e.symm)])
     have hf:(!(nth s.2 k)&&decide (nth (s.1.set k (i:Int)) k=(o:Int)))=decide (o=i):=by
      rw[ns,aB rfl,g2,iS];simp;omega
     have hg:(!(nth s.2 k)&&decide (nth s.1 k=(o:Int)))=false:=by
      rw[g2];simp;omega
     rw[hf,hg] at e;show cn _ _=cn _ _+_;by_cases ho:o=i
     .subst ho;simp at e ⊢;omega
     .simp[ho] at e ⊢;omega
    .show nth (s.1.set k (i:Int)) k'=_\/∃o:Nat,nth (s.1.set k (i:Int)) k'=_/\_;rw[ns];by_cases e:k=k'
     .subst e;exact .inr ⟨i,by rw[aB rfl],h'⟩
     .exact .inl (by rw[ar e])
    .have hSk:¬S k:=λhS=>by have:=(hc.s k hk hS).1;omega
     refine⟨λhX=>hSk (hc.n i k hX h'),λk' aq hS=>?_⟩;show nth (s.1.set k (i:Int)) k'=_;rw[ns,ar];intro e;subst e;exact hSk hS
   .rename_i hn;have hr:=(h.rg k hk).resolve_left (by omega);obtain⟨j,hj⟩:∃j:Nat,nth s.1 k=(j:Int):=⟨(nth s.1 k).toNat,by omega⟩
    have ag:j<x.os.length:=by omega
    have a':cq x (s.1,s.2.set k true):=h.seen k
    have bg:bl (s.2.set k true)<B:=by omega
    have hg:=hgo j (s.1,s.2.set k true) ag a' bg;obtain⟨r1,r2⟩:=b4 j (s.1,s.2.set k true) ag a' bg
    have sn1:∀q,nth (s.2.set k true) q=if k=q then true else nth s.2 q:=λq=>kO _ _ _ _ (by rw[l2];exact hk)
    rw[hj,bT];generalize rc j (s.1,s.2.set k true)=R at *;obtain⟨b,tk2,sn2⟩:=R;dsimp only at *;have bp:tk2.length=x.ab.length:=hg.ok.l1;split
    .rename_i hb;subst hb;refine⟨λe=>(by cases e),λ_=>?_⟩;have w:=r2 rfl;have wagr:∀q,q<x.ab.length->nth (s.2.set k true) q=true->nth tk2 q=nth s.1 q:=w.agr
     have woc:∀o:Nat,occ tk2 (s.2.set k true) x.ab.length o=occ s.1 (s.2.set k true) x.ab.length o+if o=j then 1 else 0:=w.oc
     have wedg:∀q,q<x.ab.length->nth tk2 q=nth s.1 q\/∃o:Nat,nth tk2 q=(o:Int)/\adm x most o q:=w.edg
     have ns:∀q,nth (tk2.set k (i:Int)) q=if k=q then (i:Int) else nth tk2 q:=λq=>kO _ _ _ _ (by rw[bp];exact hk)
     refine⟨λq hq h5=>?_,λo=>?_,λq hq=>?_,λS X hc=>?_⟩
     .show nth (tk2.set k (i:Int)) q=_
      have hh:k≠q:=by intro e;subst e;rw[g2] at h5;cases h5
      rw[ns,ar hh];exact wagr q hq (by rw[sn1,ar hh];exact h5)
     .have e1:=mF (f:=λq=>!(nth s.2 q)&&decide (nth (tk2.set k (i:Int)) q=(o:Int))) (g:=λq=>!(nth (s.2.set k true) q)&&decide (nth tk2 q=(o:Int))) (k:=k) x.ab.length hk (λq hq hh=>by
       rw[ns,sn1,ar (λe=>hh e.symm),ar (λe=>hh e.symm)])
      have e2:=mF (f:=λq=>!(nth s.2 q)&&decide (nth s.1 q=(o:Int))) (g:=λq=>!(nth (s.2.set k true) q)&&decide (nth s.1 q=(o:Int))) (k:=k) x.ab.length hk (λq hq hh=>by
       rw[sn1,ar (λe=>hh e.symm)])
      have e3:=woc o
      have hf:(!(nth s.2 k)&&decide (nth (tk2.set k (i:Int)) k=(o:Int)))=decide (o=i):=by
       rw[ns,aB rfl,g2,iS];simp;omega
      have bj:(!(nth s.2 k)&&decide (nth s.1 k=(o:Int)))=decide (o=j):=by
       rw[hj,g2,iS];simp;omega
      have a':∀z:Bool,(!(nth (s.2.set k true) k)&&z)=false:=λz=>by rw[sn1,aB rfl];rfl
      rw[hf,a'] at e1;rw[bj,a'] at e2;show cn (λq=>!(nth s.2 q)&&decide (nth (tk2.set k (i:Int)) q=(o:Int))) x.ab.length=cn (λq=>!(nth s.2 q)&&decide (nth s.1 q=(o:Int))) x.ab.length+_;unfold occ at e3;by_cases ho:o=i
      .by_cases bm:o=j
       .first|(simp_all;done)|(simp_all;omega)
       .first|(simp_all;done)|(simp_all;omega)
      .by_cases bm:o=j
       .first|(simp_all;done)|(simp_all;omega)
       .first|(simp_all;done)|(simp_all;omega)
     .show nth (tk2.set k (i:Int)) q=_\/∃o:Nat,nth (tk2.set k (i:Int)) q=_/\_;rw[ns];by_cases e:k=q
      .subst e;exact .inr ⟨i,by rw[aB rfl],h'⟩
      .rw[ar e];exact wedg q hq
     .obtain⟨c1,c2⟩:=w.clo S X hc
      have hSk:¬S k:=λhS=>by
       have:=(hc.s k hk hS).2;rw[hj,bT] at this;exact c1 this
      refine⟨λhX=>hSk (hc.n i k hX h'),λq hq hS=>?_⟩;show nth (tk2.set k (i:Int)) q=_;rw[ns,ar (by intro e;subst e;exact hSk hS)];exact c2 q hq hS
    .rename_i hb
     have hb:b=false:=by simpa using hb
     have f:=r1 hb;have ftk:tk2=s.1:=f.tk;have fsub:∀q,q<x.ab.length->nth (s.2.set k true) q=true->nth sn2 q=true:=f.sub;have fall:∀q,0<=q->adm x most j q->nth sn2 q=true:=f.all;have fnew:∀q,q<x.ab.length->nth sn2 q=true->nth (s.2.set k true) q=false->0<=nth s.1 q/\∀p,adm x most (nth s.1 q).toNat p->nth sn2 p=true:=f.new;subst ftk;have bq:bl sn2<=bl (s.2.set k true):=hg.un
     have aa:∀q,q<x.ab.length->nth s.2 q=true->nth sn2 q=true:=λq hq h5=>fsub q hq (by rw[sn1];split;exact rfl;exact h5)
     obtain⟨i1,i2⟩:=sW hi rc B hgo b4 m (s.1,sn2) (by omega) hg.ok (by show bl sn2<=B;omega);rw[bc] at i1;refine⟨λe=>?_,λe=>(i2 e).zc8 rfl aa⟩;have g:=i1 e;generalize (bW rc x most i m (s.1,sn2)).2=T at *;have gsub:∀q,q<x.ab.length->nth sn2 q=true->nth T.2 q=true:=g.sub;refine⟨g.tk,λq hq h5=>gsub q hq (aa q hq h5),λq hq ha=>?_,λq hq ht h5=>?_⟩
     .by_cases e2:q=k
      .subst e2;exact gsub q hk (fsub q hk (by rw[sn1,aB rfl]))
      .exact g.all q (by omega) ha
     .cases h2:nth sn2 q with
      |false=>exact g.new q hq ht h2
      |true=>
       by_cases e2:q=k
       .subst e2;refine⟨by omega,λp hp=>?_⟩;rw[hj,bT] at hp;exact gsub p hp.1 (fall p (aK _) hp)
       .obtain⟨n1,n2⟩:=fnew q hq h2 (by rw[sn1,ar (λe=>e2 e.symm)];exact h5);exact⟨n1,λp hp=>gsub p hp.1 (n2 p hp)⟩
theorem Av{x:Rd}{most:Int}:∀(f i:Nat)(s:FS),i<x.os.length->cq x s->bl s.2<f->((bL x most f i s).1=false->tz x most i 0 s (bL x most f i s).2)/\((bL x most f i s).1=true->Win x most i s (bL x most f i s).2)
 |0,_,_,_,_,h=>absurd h (by omega)
 |f+1,i,s,hi,h,hu=>by
  have:=sW hi (bL x most f) f (λj s hj hs hu=>kP f j s hj hs hu) (λj s hj hs hu=>Av f j s hj hs hu) x.ab.length s (aE _) h (by omega);rw[uU] at this;exact this
end Go.Proofs.YthpkmilhiganjaaGreat
namespace Go.Proofs.YthpkmilhiganjaaGreat
open Go Go.Fi
variable[av]
theorem Bd(s:ByteArray)(hs:s.size<1000000):aC Tz.prog 134 [.str s] (.bool (fF s)) true:=by
 refine rcK Tz.func134 ?_;simp only[Tryz.results134,Tryz.ntmps134]
 repeat' first|(with_reducible first|apply ai|apply au|apply az|apply af|apply al|refine wS ?_ ?_|refine fz ?_ ?_|intro _)|(simp[*])
 .exact Oj (by omega)
 rotate_left
 .rename_i h0;exact GD (by have:=of_decide_eq_true h0;omega)
 rename_i hA hB
 have ay:s.size≠0:=by have:=of_decide_eq_false hA;omega
 refine wV (λk:Nat=>k<=s.size/\lI s k=true) [0] (λk=>[(3,.w false false (.int .i64 k))]) (λ_=>[]) (λk=>s.size-k)
  (λ_:Unit=>lI s s.size=true) [0] (λ_=>[]) (λ_=>[]) 0 ⟨aK _,rfl⟩ (by simp) (by simp) (λk hk=>?_) (λ_ hf=>?_)
 .obtain⟨hk,hf⟩:=hk
  repeat' first|(with_reducible first|apply ai|apply aF|apply au|apply az|apply aL|apply af|apply al|refine And.intro ?_ ?_|refine wS ?_ ?_|refine wR ?_ ?_|refine fz ?_ ?_|intro _)|(simp[*])
  all_goals first
   |exact aG (by omega) (by omega)
   |omega
   |(refine nx (k+1) ?_ ?_;(· refine⟨by omega,?_⟩;unfold lI;rw[hf];clear hf;simp[okB,uH] at *;omega);(refine aD ?_ ?_<;>first|trivial|(simp[*];done)))
   |(refine aZ () ?_ ?_;(· rw[show s.size=k by omega];exact hf);(refine aD ?_ ?_<;>first|trivial|(simp[*];done)))
   |(unfold fF;rw[Bn s k (by clear hf;simp[okB,uH] at *;omega) s.size (by omega)];rfl)
 .repeat' first|(with_reducible first|apply ai|apply az|apply af|intro _)|(simp[*])
  all_goals (rw[GF hf ay];simp;omega)
theorem OK(ab:List Car)(os:List Ord)(wt:List (List Int))(zs:List Par)(i:Nat)(hi:i<ab.length)(hl:ab.length<=1000)(hs:∀x∈ab,x.1.size<1000000):aC Tz.prog 108 [.agg [.sl ab.length (aS ab),.sl os.length (aR os),.sl wt.length (a8 wt),.sl zs.length (aT zs)],.int .i64 i] (.int .i64 (g7 Prod.fst fG ab i (nth ab i))) true:=by
 have c1:=Bd (nth ab i).1 (hs _ (eJ hi));have c2:=ma (nth ab i).2.1 1 8;generalize hR:g7 Prod.fst fG ab i (nth ab i)=R;unfold g7 fG at hR;clear hs
 cases hb:fF (nth ab i).1 with
 |false=>
  rw[hb] at c1 hR;have hR:(4:Int)=R:=hR;subst hR;clear hb c2;refine rcK Tz.func108 ?_;simp only[Tryz.results108,Tryz.ntmps108]
  repeat' first|(with_reducible first|apply ai|apply az|apply af|apply al|refine And.intro ?_ ?_|refine cw (c1) ?_|intro _)|(simp[*,hi])|(refine ae (c1) ?_ ?_;(· (simp[*];done)))
  all_goals first|omega
 |true=>
  rw[hb] at c1 hR;clear hb;have hR:cX [ba (!((ab.take i).any λy=>decide (y.1=(nth ab i).1))) 5,ba (aU (nth ab i).2.1 1 8) 2]=R:=hR;generalize hA:((ab.take i).any λy=>decide (y.1=(nth ab i).1))=A at hR;have kA:aN (((ab.take i).drop 0).any (λy=>decide (y.1=(nth ab i).1))=A):=hA;have kR:=keep hR;clear hA hR;refine rcK Tz.func108 ?_;simp only[Tryz.results108,Tryz.ntmps108]
  repeat' first|(with_reducible first|apply ai|apply au|apply af|apply al|refine And.intro ?_ ?_|refine cw (c1) ?_|intro _)|(simp[*,hi])|(refine ae (c1) ?_ ?_;(· (simp[*];done)))
  all_goals try first|omega|assumption
  refine bQ (λ(k:Nat)=>k<=i/\((ab.take i).drop k).any (λy=>decide (y.1=(nth ab i).1))=A) [1,2] (λ(k:Nat)=>[(5,.w false false (.int .i64 k))]) [0] (λ(k:Nat)=>[]) (λ(k:Nat)=>i-k) (λ(_u:Unit)=>A=false) [1,2] (λ(_u:Unit)=>[]) [0] (λ(_u:Unit)=>[]) (0) ⟨aK _,kA⟩ (by simp) (by simp) (λk hk=>?_) (λ_u hf=>?_)
  .obtain⟨hk,hj⟩:=hk;clear c1;by_cases h3:k<i
   .have a6:k<ab.length:=by omega
    have h9:k<(ab.take i).length:=by rw[ia];omega
    rw[dg _ k h9,mX] at hj
    have e:nth (ab.take i) k=nth ab k:=by
     simp[nth,bS,jk,h3]
    rw[e] at hj;have kj:=keep hj;clear hj e h9;by_cases hn:(nth ab k).1=(nth ab i).1
    .have hA:A=true:=by have h:=kj;unfold aN at h;rw[<-h];simp[hn]
     subst hA;have hR:(5:Int)=R:=kR;subst hR;clear kj kR kA
     repeat' first|(with_reducible first|apply ai|apply aF|apply au|apply az|apply af|refine aQ (id:=6) 13 mixed (by decide +kernel) ?_|apply al|intro _)|(simp[*,h3,a6,hi,hn])
     all_goals first|omega|exact aG (by omega) (by omega)
    .have kj2:aN (((ab.take i).drop (k+1)).any (λy=>decide (y.1=(nth ab i).1))=A):=by have h:=kj;unfold aN at h ⊢;rw[<-h];simp[hn]
     clear kj kA
     repeat' first|(with_reducible first|apply ai|apply aF|apply au|apply af|refine aQ (id:=6) 13 mixed (by decide +kernel) ?_|apply al|refine And.intro ?_ ?_|intro _)|(simp[*,h3,a6,hi,hn])
     all_goals first
      |omega
      |exact aG (by omega) (by omega)
      |(refine nx (k+1) ?_ ?_;(· exact⟨by omega,kj2⟩);(refine aD ?_ ?_<;>first|trivial|(simp[*];done)))
   .have h8:k=i:=by omega
    subst h8;have ao:aN (A=false):=keep (by rw[<-hj];simp);clear hj kA
    repeat' first|(with_reducible first|apply ai|apply aL|apply af|apply al|intro _)|(simp[*])
    all_goals first
     |omega
     |(refine aZ () ?_ ?_;(· exact ao);(refine aD ?_ ?_<;>first|trivial|(simp[*];done)))
  .subst hf;clear kA c1
   cases hw:aU (nth ab i).2.1 1 8 with
   |true=>
    rw[hw] at c2 kR;have hR:(0:Int)=R:=kR;subst hR;clear kR hw
    repeat' first|(with_reducible first|apply ai|apply au|apply az|apply af|apply al|refine And.intro ?_ ?_|refine cw (c2) ?_|intro _)|(simp[*,hi])|(refine ae (c2) ?_ ?_;(· (simp[*];done)))
    all_goals first|omega
   |false=>
    rw[hw] at c2 kR;have hR:(2:Int)=R:=kR;subst hR;clear kR hw
    repeat' first|(with_reducible first|apply ai|apply az|apply af|apply al|refine And.intro ?_ ?_|refine cw (c2) ?_|intro _)|(simp[*,hi])|(refine ae (c2) ?_ ?_;(· (simp[*];done)))
    all_goals first|omega
theorem OW(ab:List Car)(os:List Ord)(wt:List (List Int))(zs:List Par)(i:Nat)(hi:i<os.length)(hl:os.length<=1000)(hs:∀x∈os,x.1.size<1000000):aC Tz.prog 109 [.agg [.sl ab.length (aS ab),.sl os.length (aR os),.sl wt.length (a8 wt),.sl zs.length (aT zs)],.int .i64 i] (.int .i64 (g7 Prod.fst eH os i (nth os i))) true:=by
 have c1:=Bd (nth os i).1 (hs _ (eJ hi));have c2:=ma (nth os i).2.1 1 8;have c3:=ma (nth os i).2.2.2 0 6;generalize hR:g7 Prod.fst eH os i (nth os i)=R;unfold g7 eH at hR;clear hs
 cases hb:fF (nth os i).1 with
 |false=>
  rw[hb] at c1 hR;have hR:(4:Int)=R:=hR;subst hR;clear hb c2 c3;refine rcK Tz.func109 ?_;simp only[Tryz.results109,Tryz.ntmps109]
  repeat' first|(with_reducible first|apply ai|apply az|apply af|apply al|refine And.intro ?_ ?_|refine cw (c1) ?_|intro _)|(simp[*,hi])|(refine ae (c1) ?_ ?_;(· (simp[*];done)))
  all_goals first|omega
 |true=>
  rw[hb] at c1 hR;clear hb;have hR:cX [ba (!((os.take i).any λy=>decide (y.1=(nth os i).1))) 5,ba (aU (nth os i).2.1 1 8&&aU (nth os i).2.2.2 0 6) 2]=R:=hR;generalize hA:((os.take i).any λy=>decide (y.1=(nth os i).1))=A at hR;have kA:aN (((os.take i).drop 0).any (λy=>decide (y.1=(nth os i).1))=A):=hA;have kR:=keep hR;clear hA hR;refine rcK Tz.func109 ?_;simp only[Tryz.results109,Tryz.ntmps109]
  repeat' first|(with_reducible first|apply ai|apply au|apply af|apply al|refine And.intro ?_ ?_|refine cw (c1) ?_|intro _)|(simp[*,hi])|(refine ae (c1) ?_ ?_;(· (simp[*];done)))
  all_goals try first|omega|assumption
  refine bQ (λ(k:Nat)=>k<=i/\((os.take i).drop k).any (λy=>decide (y.1=(nth os i).1))=A) [1,2] (λ(k:Nat)=>[(5,.w false false (.int .i64 k))]) [0] (λ(k:Nat)=>[]) (λ(k:Nat)=>i-k) (λ(_u:Unit)=>A=false) [1,2] (λ(_u:Unit)=>[]) [0] (λ(_u:Unit)=>[]) (0) ⟨aK _,kA⟩ (by simp) (by simp) (λk hk=>?_) (λ_u hf=>?_)
  .obtain⟨hk,hj⟩:=hk;clear c1;by_cases h3:k<i
   .have a6:k<os.length:=by omega
    have h9:k<(os.take i).length:=by rw[ia];omega
    rw[dg _ k h9,mX] at hj
    have e:nth (os.take i) k=nth os k:=by
     simp[nth,bS,jk,h3]
    rw[e] at hj;have kj:=keep hj;clear hj e h9;by_cases hn:(nth os k).1=(nth os i).1
    .have hA:A=true:=by have h:=kj;unfold aN at h;rw[<-h];simp[hn]
     subst hA;have hR:(5:Int)=R:=kR;subst hR;clear kj kR kA
     repeat' first|(with_reducible first|apply ai|apply aF|apply au|apply az|apply af|refine aQ (id:=6) 13 mixed (by decide +kernel) ?_|apply al|intro _)|(simp[*,h3,a6,hi,hn])
     all_goals first|omega|exact aG (by omega) (by omega)
    .have kj2:aN (((os.take i).drop (k+1)).any (λy=>decide (y.1=(nth os i).1))=A):=by have h:=kj;unfold aN at h ⊢;rw[<-h];simp[hn]
     clear kj kA
     repeat' first|(with_reducible first|apply ai|apply aF|apply au|apply af|refine aQ (id:=6) 13 mixed (by decide +kernel) ?_|apply al|refine And.intro ?_ ?_|intro _)|(simp[*,h3,a6,hi,hn])
     all_goals first
      |omega
      |exact aG (by omega) (by omega)
      |(refine nx (k+1) ?_ ?_;(· exact⟨by omega,kj2⟩);(refine aD ?_ ?_<;>first|trivial|(simp[*];done)))
   .have h8:k=i:=by omega
    subst h8;have ao:aN (A=false):=keep (by rw[<-hj];simp);clear hj kA
    repeat' first|(with_reducible first|apply ai|apply aL|apply af|apply al|intro _)|(simp[*])
    all_goals first
     |omega
     |(refine aZ () ?_ ?_;(· exact ao);(refine aD ?_ ?_<;>first|trivial|(simp[*];done)))
  .subst hf;clear kA c1
   cases hw:aU (nth os i).2.1 1 8 with
   |true=>
    cases hv:aU (nth os i).2.2.2 0 6 with
    |true=>
     rw[hw,hv] at kR;rw[hw] at c2;rw[hv] at c3;have hR:(0:Int)=R:=kR;subst hR;clear kR hw hv
     repeat' first|(with_reducible first|apply ai|apply au|apply az|apply af|apply al|refine And.intro ?_ ?_|refine cw (c2) ?_|refine cw (c3) ?_|intro _)|(simp[*,hi])|(refine ae (c2) ?_ ?_;(· (simp[*];done)))|(refine ae (c3) ?_ ?_;(· (simp[*];done)))
     all_goals first|omega
    |false=>
     rw[hw,hv] at kR;rw[hw] at c2;rw[hv] at c3;have hR:(2:Int)=R:=kR;subst hR;clear kR hw hv
     repeat' first|(with_reducible first|apply ai|apply az|apply af|apply al|refine And.intro ?_ ?_|refine cw (c2) ?_|refine cw (c3) ?_|intro _)|(simp[*,hi])|(refine ae (c2) ?_ ?_;(· (simp[*];done)))|(refine ae (c3) ?_ ?_;(· (simp[*];done)))
     all_goals first|omega
   |false=>
    rw[hw] at c2 kR;have hR:(2:Int)=R:=kR;subst hR;clear kR hw c3
    repeat' first|(with_reducible first|apply ai|apply az|apply af|apply al|refine And.intro ?_ ?_|refine cw (c2) ?_|intro _)|(simp[*,hi])|(refine ae (c2) ?_ ?_;(· (simp[*];done)))
    all_goals first|omega
def hasB(l:List Par)(v:Par):Bool:=l.any λy=>decide (v.1=y.1)&&decide (v.2=y.2)
theorem BC(l:List Par)(hl:l.length<100000)(v:Par):aC Tz.prog 110 [.sl l.length (aT l),.agg (Tw.cu v)] (.bool (hasB l v)) true:=by
 unfold hasB;generalize hR:(l.any λy=>decide (v.1=y.1)&&decide (v.2=y.2))=R;have kR:aN ((l.drop 0).any (λy=>decide (v.1=y.1)&&decide (v.2=y.2))=R):=keep hR;clear hR;obtain⟨v1,v2⟩:=v;simp only[Tw.cu];refine rcK Tz.func110 ?_;simp only[Tryz.results110,Tryz.ntmps110]
 repeat' first|(with_reducible first|apply ai|apply af|intro _)|(simp[*])
 refine bQ (λ(k:Nat)=>k<=l.length/\(l.drop k).any (λy=>decide (v1=y.1)&&decide (v2=y.2))=R) [0,3] (λ(k:Nat)=>[(5,.w false false (.int .i64 k))]) [0] (λ(k:Nat)=>[]) (λ(k:Nat)=>l.length-k) (λ(_u:Unit)=>R=false) [] (λ(_u:Unit)=>[]) [0] (λ(_u:Unit)=>[]) (0) ⟨aK _,kR⟩ (by simp) (by simp) (λk hk=>?_) (λ_u hf=>?_)
 .obtain⟨hk,hj⟩:=hk;by_cases h3:k<l.length
  .rw[dg l k h3,mX] at hj;by_cases h1:(nth l k).1=v1
   .by_cases h2:(nth l k).2=v2
    .have hR:R=true:=by rw[<-hj];simp[h1,h2]
     subst hR;clear hj kR
     repeat' first|(with_reducible first|apply ai|apply aF|apply au|apply az|apply af|refine aQ (id:=4) 6 mixed (by decide +kernel) ?_|apply al|refine And.intro ?_ ?_|intro _)|(simp[*,h3,h1,h2,Tw.cu])
     all_goals first|omega|exact aG (by omega) (by omega)
    .have b9:¬v2=(nth l k).2:=λe=>h2 e.symm
     have kj:aN ((l.drop (k+1)).any (λy=>decide (v1=y.1)&&decide (v2=y.2))=R):=keep (by rw[<-hj];simp[b9]);clear hj kR b9
     repeat' first|(with_reducible first|apply ai|apply aF|apply au|apply af|refine aQ (id:=4) 6 mixed (by decide +kernel) ?_|apply al|refine And.intro ?_ ?_|intro _)|(simp[*,h3,h1,h2,Tw.cu])
     all_goals first
      |omega
      |exact aG (by omega) (by omega)
      |(refine nx (k+1) ?_ ?_;(· exact⟨by omega,kj⟩);(refine aD ?_ ?_<;>first|trivial|(simp[*];done)))
   .have b7:¬v1=(nth l k).1:=λe=>h1 e.symm
    have kj:aN ((l.drop (k+1)).any (λy=>decide (v1=y.1)&&decide (v2=y.2))=R):=keep (by rw[<-hj];simp[b7]);clear hj kR b7
    repeat' first|(with_reducible first|apply ai|apply aF|apply au|apply af|refine aQ (id:=4) 6 mixed (by decide +kernel) ?_|apply al|refine And.intro ?_ ?_|intro _)|(simp[*,h3,h1,Tw.cu])
    all_goals first
     |omega
     |exact aG (by omega) (by omega)
     |(refine nx (k+1) ?_ ?_;(· exact⟨by omega,kj⟩);(refine aD ?_ ?_<;>first|trivial|(simp[*];done)))
  .have h8:k=l.length:=by omega
   subst h8;have kj:aN (R=false):=keep (by rw[<-hj];simp);clear hj kR
   repeat' first|(with_reducible first|apply ai|apply aL|apply af|apply al|intro _)|(simp[*])
   all_goals first
    |(refine aZ () ?_ ?_;(· exact kj);(refine aD ?_ ?_<;>first|trivial|(simp[*];done)))
 .subst hf
  repeat' first|(with_reducible first|apply ai|apply az|apply af|intro _)|(simp[*])
theorem BF(ab:List Car)(os:List Ord)(wt:List (List Int))(zs:List Par)(ho:os.length<100000)(n:Int):aC Tz.prog 43 [.agg [.sl ab.length (aS ab),.sl os.length (aR os),.sl wt.length (a8 wt),.sl zs.length (aT zs)],.int .i64 n] (.bool (aU n 0 ((os.length:Int)-1))) true:=by
 refine rcK Tz.func43 ?_;simp only[Tryz.results43,Tryz.ntmps43]
 repeat' first|(with_reducible first|apply ai|apply az|apply af|refine And.intro ?_ ?_|refine cw (ma _ _ _) ?_|intro _)|(simp[*])|(refine ae (ma _ _ _) ?_ ?_;(· (simp[*];done)))
 all_goals first|omega|exact aG (by omega) (by omega)
theorem PC(ab:List Car)(os:List Ord)(wt:List (List Int))(zs:List Par)(ho:ab.length<100000)(n:Int):aC Tz.prog 45 [.agg [.sl ab.length (aS ab),.sl os.length (aR os),.sl wt.length (a8 wt),.sl zs.length (aT zs)],.int .i64 n] (.bool (aU n 0 ((ab.length:Int)-1))) true:=by
 refine rcK Tz.func45 ?_;simp only[Tryz.results45,Tryz.ntmps45]
 repeat' first|(with_reducible first|apply ai|apply az|apply af|refine And.intro ?_ ?_|refine cw (ma _ _ _) ?_|intro _)|(simp[*])|(refine ae (ma _ _ _) ?_ ?_;(· (simp[*];done)))
 all_goals first|omega|exact aG (by omega) (by omega)
end Go.Proofs.YthpkmilhiganjaaGreat
