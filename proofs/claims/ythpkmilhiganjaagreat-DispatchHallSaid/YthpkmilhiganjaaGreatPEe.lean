/- Lemmas. -/
import Derived.Test.YthpkmilhiganjaaGreatPEb
import Derived.Test.YthpkmilhiganjaaGreatPEd
import Derived.Test.YthpkmilhiganjaaGreatPDb
import Derived.Test.YthpkmilhiganjaaGreatPDc
set_option linter.all false
set_option maxHeartbeats 32000000
set_option maxRecDepth 100000
namespace Go.Proofs.YthpkmilhiganjaaGreat
open Go Go.Fi
noncomputable instance zev:av:=LD
theorem sZ{f:Nat->Bool}{k:Nat}:∀c,k<c->f k=true->1<=cn f c
 |c+1,hk,h=>by
  unfold cn;by_cases e:k=c
  .subst e;rw[h];simp
  .have:=sZ (f:=f) (k:=k) c (by omega) h;omega
theorem zco{f:Nat->Bool}{c j k:Nat}(hj:j<c)(hk:k<c)(aw:j≠k)(h1:f j=true)(h2:f k=true):2<=cn f c:=by
 have e:=sR f j c hj h1;have:=sZ (f:=λq=>f q && !(decide (q=j))) (k:=k) c hk (by rw[h2];simp;omega);omega
theorem HR{f:Nat->Bool}:∀c,1<=cn f c->∃k,k<c/\f k=true
 |0,h=>absurd h (by unfold cn;omega)
 |c+1,h=>by
  unfold cn at h
  cases hf:f c with
  |true=>exact⟨c,by omega,hf⟩
  |false=>
   rw[hf] at h;obtain⟨k,hk,e⟩:=HR c (by simpa using h);exact⟨k,by omega,e⟩
theorem km(c k:Nat):nth (List.replicate c false) k=false:=by
 by_cases h:k<c
 .exact mC _ _ _ h
 .simp[nth,bS,h]
structure MtI(x:Rd)(most:Int)(i:Nat)(tk:List Int)(cnt:Int):Prop where
 ln:tk.length=x.ab.length
 o1:∀o,occ tk (List.replicate x.ab.length false) x.ab.length o<=1
 o0:∀o,i<=o->occ tk (List.replicate x.ab.length false) x.ab.length o=0
 ct:cnt=(cn (λo=>decide (occ tk (List.replicate x.ab.length false) x.ab.length o=1)) i:Nat)
 ed:∀k,k<x.ab.length->nth tk k=-1\/∃o:Nat,nth tk k=(o:Int)/\o<i/\adm x most o k
 cl:∃S X,Clo x most S X tk/\(∀o,X o->o<i)/\∀o,o<i->occ tk (List.replicate x.ab.length false) x.ab.length o=0->X o
theorem C8{tk:List Int}{c k o:Nat}(hk:k<c)(h:nth tk k=(o:Int)):1<=occ tk (List.replicate c false) c o:=
 sZ c hk (by rw[km,h];simp)
theorem IC(x:Rd)(most:Int):∀i,i<=x.os.length->MtI x most i (bd x most i).1 (bd x most i).2
 |0,_=>by
  have hz:∀o,occ (List.replicate x.ab.length (-1)) (List.replicate x.ab.length false) x.ab.length o=0:=λo=>Au _ λk hk=>by
   have hm:¬((-1:Int)=(o:Int)):=by omega
   rw[km,mC _ _ _ hk,decide_eq_false hm,ig]
  refine⟨by simp[bd],λo=>by rw[show (bd x most 0).1=List.replicate x.ab.length (-1) from rfl,hz o];omega,λo _=>hz o,rfl,λk hk=>.inl (mC _ _ _ hk),λ_=>False,λ_=>False,⟨λ_ _ h=>h.elim,λ_ _ h=>h.elim⟩,λ_ h=>h.elim,λo ho=>absurd ho (by omega)⟩
 |i+1,h=>by
  have m:=IC x most i (by omega);obtain⟨okf,_,_⟩:=mz x most i (by omega);obtain⟨s1,s2⟩:=Av (x:=x) (most:=most) (x.ab.length+1) i ((bd x most i).1,List.replicate x.ab.length false) (by omega) okf (by show bl (List.replicate x.ab.length false)<_;rw[ml];omega);have hgo:=kP (x:=x) (most:=most) (x.ab.length+1) i ((bd x most i).1,List.replicate x.ab.length false) (by omega) okf (by show bl (List.replicate x.ab.length false)<_;rw[ml];omega);have e1:(bd x most (i+1)).1=(bL x most (x.ab.length+1) i ((bd x most i).1,List.replicate x.ab.length false)).2.1:=rfl
  have e2:(bd x most (i+1)).2=if (bL x most (x.ab.length+1) i ((bd x most i).1,List.replicate x.ab.length false)).1 then (bd x most i).2+1 else (bd x most i).2:=rfl
  rw[e1,e2];generalize (bd x most i).1=tk at *;generalize (bd x most i).2=cnt at *;generalize bL x most (x.ab.length+1) i (tk,List.replicate x.ab.length false)=R at *;obtain⟨b,t2,sn2⟩:=R;obtain⟨S,X,c1,c2,c3⟩:=m.cl
  cases b with
  |false=>
   have f:=s1 rfl;have ft:t2=tk:=f.tk;subst ft;have fall:∀k,0<=k->adm x most i k->nth sn2 k=true:=f.all;have fnew:∀k,k<x.ab.length->nth sn2 k=true->nth (List.replicate x.ab.length false) k=false->0<=nth t2 k/\∀j,adm x most (nth t2 k).toNat j->nth sn2 j=true:=f.new;refine⟨m.ln,m.o1,λo ho=>m.o0 o (by omega),?_,λk hk=>?_,λk=>S k\/nth sn2 k=true,λo=>X o\/o=i\/∃k,k<x.ab.length/\nth sn2 k=true/\nth t2 k=(o:Int),⟨λk hk hs=>?_,λo k hx ha=>?_⟩,λo hx=>?_,λo ho hz=>?_⟩
   .show cnt=_;have e:=m.o0 i (aE _);rw[m.ct,show cn (λo=>decide (occ t2 (List.replicate x.ab.length false) x.ab.length o=1)) (i+1)=cn (λo=>decide (occ t2 (List.replicate x.ab.length false) x.ab.length o=1)) i+if decide (occ t2 (List.replicate x.ab.length false) x.ab.length i=1) then 1 else 0 from rfl,e];simp
   .rcases m.ed k hk with h|⟨o,h1,h2,h3⟩
    .exact .inl h
    .exact .inr ⟨o,h1,by omega,h3⟩
   .rcases hs with hs|hs
    .have:=c1.s k hk hs;exact⟨this.1,.inl this.2⟩
    .have:=(fnew k hk hs (km _ _)).1
     have e:nth t2 k=(((nth t2 k).toNat:Nat):Int):=by omega
     exact⟨this,.inr (.inr ⟨k,hk,hs,e⟩)⟩
   .rcases hx with hx|rfl|⟨q,hq,hs,e⟩
    .exact .inl (c1.n o k hx ha)
    .exact .inr (fall k (aK _) ha)
    .have:=(fnew q hq hs (km _ _)).2 k;rw[e,bT] at this;exact .inr (this ha)
   .rcases hx with hx|rfl|⟨q,hq,hs,e⟩
    .have:=c2 o hx;omega
    .omega
    .rcases m.ed q hq with h|⟨o',h1,h2,_⟩
     .omega
     .omega
   .by_cases e:o=i
    .exact .inr (.inl e)
    .exact .inl (c3 o (by omega) hz)
  |true=>
   have w:=s2 rfl
   have woc:∀o:Nat,occ t2 (List.replicate x.ab.length false) x.ab.length o=occ tk (List.replicate x.ab.length false) x.ab.length o+if o=i then 1 else 0:=w.oc
   have wed:∀k,k<x.ab.length->nth t2 k=nth tk k\/∃o:Nat,nth t2 k=(o:Int)/\adm x most o k:=w.edg;have wcl:∀S X,Clo x most S X tk->¬X i/\∀k,k<x.ab.length->S k->nth t2 k=nth tk k:=w.clo;have ao:=m.o0 i (aE _);refine⟨hgo.ok.l1,λo=>?_,λo ho=>?_,?_,λk hk=>?_,S,X,⟨λk hk hs=>?_,c1.n⟩,λo hx=>by have:=c2 o hx;omega,λo ho hz=>?_⟩
   .show occ t2 _ _ o<=1;rw[woc];by_cases e:o=i
    .subst e;rw[ao];simp
    .have:=m.o1 o;simp[e];exact this
   .show occ t2 _ _ o=0;rw[woc,m.o0 o (by omega),ar (by omega)]
   .show (if true=true then cnt+1 else cnt)=(cn (λo=>decide (occ t2 _ _ o=1)) (i+1):Nat);rw[aB rfl,m.ct];rw[show cn (λo=>decide (occ t2 (List.replicate x.ab.length false) x.ab.length o=1)) (i+1)=cn (λo=>decide (occ t2 (List.replicate x.ab.length false) x.ab.length o=1)) i+if decide (occ t2 (List.replicate x.ab.length false) x.ab.length i=1) then 1 else 0 from rfl];have e:=eZ (f:=λo=>decide (occ t2 (List.replicate x.ab.length false) x.ab.length o=1)) (g:=λo=>decide (occ tk (List.replicate x.ab.length false) x.ab.length o=1)) i (λo ho=>by rw[woc,ar (by omega),mU]);rw[e,woc,ao];simp
   .have b':∀o:Nat,nth t2 k=(o:Int)->o<i+1:=λo ho=>by
     have h1:=C8 hk ho;rw[woc] at h1;apply pW;intro hn;have:=m.o0 o (by omega);rw[this,ar (by omega)] at h1;omega
    rcases wed k hk with e|⟨o,e,ha⟩
    .show nth t2 k=-1\/∃o:Nat,nth t2 k=_/\_;rw[e]
     rcases m.ed k hk with h|⟨o,h1,h2,h3⟩
     .exact .inl h
     .exact .inr ⟨o,h1,by omega,h3⟩
    .exact .inr ⟨o,e,b' o e,ha⟩
   .have:=(wcl S X c1).2 k hk hs;show 0<=nth t2 k/\X (nth t2 k).toNat;rw[this];exact c1.s k hk hs
   .have hz:occ t2 (List.replicate x.ab.length false) x.ab.length o=0:=hz;rw[woc] at hz;by_cases e:o=i
    .rw[aB e] at hz;omega
    .exact c3 o (by omega) (by omega)
structure MtF(x:Rd)(most:Int)(P:List Int)(cnt:Int):Prop where
 ok:zc7 x P
 wt:∀i,i<x.os.length->nth P i≠-1->nth (nth x.wt i) (nth P i).toNat<=most
 ct:cnt=(cn (λi=>!(decide (nth P i=-1))) x.os.length:Nat)
 cl:∃S X:Nat->Prop,(∀i,X i->i<x.os.length)/\(∀i k,X i->adm x most i k->S k)/\(∀i,i<x.os.length->nth P i=-1->X i)/\∃g:Nat->Nat,(∀k,k<x.ab.length->S k->g k<x.os.length/\X (g k)/\nth P (g k)=(k:Int))
theorem zda(x:Rd)(most:Int):MtF x most (cM x most).1 (cM x most).2:=by
 have m:=IC x most x.os.length (aE _);show MtF x most (bZ (bd x most x.os.length).1 x.os.length x.ab.length) (bd x most x.os.length).2;generalize (bd x most x.os.length).1=tk at *;generalize (bd x most x.os.length).2=cnt at *
 have inj:∀j k,j<x.ab.length->k<x.ab.length->0<=nth tk j->nth tk j=nth tk k->j=k:=λj k hj hk h0 e=>by
  apply pW;intro aw;obtain⟨o,ho⟩:∃o:Nat,nth tk j=(o:Int):=⟨(nth tk j).toNat,by omega⟩;have h2:2<=occ tk (List.replicate x.ab.length false) x.ab.length o:=zco hj hk aw (by rw[km,ho];simp) (by rw[km,<-e,ho];simp);have:=m.o1 o;omega
 have lt:∀k,k<x.ab.length->nth tk k<(x.os.length:Int):=λk hk=>by
  rcases m.ed k hk with h|⟨o,h1,h2,_⟩<;>omega
 have val:=z7 tk x.os.length x.ab.length lt inj;have hl:=kG tk x.os.length x.ab.length;generalize bZ tk x.os.length x.ab.length=P at *
 have at_:∀i,i<x.os.length->nth P i≠-1->∃k,k<x.ab.length/\nth P i=(k:Int)/\nth tk k=(i:Int)/\adm x most i k:=λi hi hn=>by
  rcases val i hi with ⟨k,hk,e1,e2⟩|⟨_,e2⟩
  .refine⟨k,hk,e2,e1,?_⟩
   rcases m.ed k hk with h|⟨o,h1,_,h3⟩
   .omega
   .have:o=i:=by omega
    subst this;exact h3
  .exact absurd e2 hn
 have oc:∀i,i<x.os.length->(nth P i≠-1↔occ tk (List.replicate x.ab.length false) x.ab.length i=1):=λi hi=>by
  constructor
  .intro hn;obtain⟨k,hk,_,e,_⟩:=at_ i hi hn;have:=C8 hk e;have:=m.o1 i;omega
  .intro h1 e;obtain⟨k,hk,hf⟩:=HR x.ab.length (show 1<=cn _ _ by rw[show cn _ _=occ tk _ _ i from rfl,h1];exact aE _)
   have bh:nth tk k=(i:Int):=by
    rw[km] at hf;simpa using hf
   rcases val i hi with ⟨q,_,_,e2⟩|⟨e1,_⟩
   .omega
   .exact e1 k hk bh
 refine⟨⟨⟨hl,λk hk=>?_⟩,λk hk hn=>?_,λk hk hn j hj e=>?_⟩,λi hi hn=>?_,?_,?_⟩
 .by_cases hn:nth P k=-1
  .exact .inl hn
  .obtain⟨q,hq,e,_⟩:=at_ k (by omega) hn;exact .inr ⟨by omega,by omega⟩
 .obtain⟨q,hq,e,_,ha⟩:=at_ k (by omega) hn;rw[e,bT];exact ha.2.1
 .obtain⟨q,hq,e1,e2,_⟩:=at_ k (by omega) hn;obtain⟨q',bg,f1,f2,_⟩:=at_ j (by omega) (by rw[e];exact hn)
  have:q=q':=by omega
  subst this;omega
 .obtain⟨q,hq,e,_,ha⟩:=at_ i hi hn;rw[e,bT];exact ha.2.2
 .rw[m.ct];congr 1
  refine eZ _ λi hi=>?_
  rw[iS];have:=oc i hi;simp only[decide_eq_true_eq,gH,decide_eq_false_iff_not];exact this.symm
 .obtain⟨S,X,c1,c2,c3⟩:=m.cl;refine⟨S,X,c2,c1.n,λi hi e=>c3 i hi ?_,λk=>(nth tk k).toNat,λk hk hs=>?_⟩
  .have:=oc i hi;have h1:=m.o1 i;apply pW;intro hz;exact this.2 (by omega) e
  .obtain⟨h1,h2⟩:=c1.s k hk hs;have h3:=lt k hk;refine⟨by show (nth tk k).toNat<_;omega,h2,?_⟩
   rcases val (nth tk k).toNat (by omega) with ⟨q,hq,e1,e2⟩|⟨e1,_⟩
   .have:q=k:=inj q k hq hk (by omega) (by omega);subst this;exact e2
   .exact absurd (show nth tk k=((nth tk k).toNat:Int) by omega) (e1 k hk)
noncomputable instance zew:av:=LD
def exI(g:List Int->Int):List (List Int)->Int->Int
 |[],a=>a
 |l::r,a=>exI g r (if a<g l then g l else a)
def exG(ab:List Car)(os:List Ord)(zs:List Par)(s:Nat)(l:List Int):Int:=(s:Int)-((bo ab os zs l ab.length).length:Nat)
def exO(ab:List Car)(os:List Ord)(zs:List Par):Nat->Int
 |0=>0
 |j+1=>exI (exG ab os zs (j+1)) (bR os.length (j+1) 0 []) (exO ab os zs j)
theorem tl(g:List Int->Int):∀(L:List (List Int))(a:Int),a<=exI g L a/\(∀l∈L,g l<=exI g L a)/\∀b,a<=b->(∀l∈L,g l<=b)->exI g L a<=b
 |[],a=>⟨mZ _,λl hl=>absurd hl (by simp),λb h _=>h⟩
 |l::r,a=>by
  unfold exI;obtain⟨z,hz,z1,z2,z3⟩:∃z,(if a<g l then g l else a)=z/\a<=z/\g l<=z/\(z=a\/z=g l):=⟨_,rfl,by split<;>omega,by split<;>omega,by split<;>simp⟩;rw[hz];obtain⟨h1,h2,h3⟩:=tl g r z;refine⟨by omega,λk hk=>?_,λb hb hL=>h3 b ?_ λk hk=>hL k (dm _ hk)⟩
  .rcases cD.1 hk with rfl|hk
   .omega
   .exact h2 k hk
  .have:=hL l fO;omega
theorem tu(ab:List Car)(os:List Ord)(zs:List Par)(b:Int)(hb:0<=b):∀j,(∀s l,1<=s->s<=j->l∈bR os.length s 0 []->exG ab os zs s l<=b)->exO ab os zs j<=b
 |0,_=>hb
 |j+1,h=>(tl _ _ _).2.2 b (tu ab os zs b hb j λs l h1 h2 hl=>h s l h1 (by omega) hl) λl hl=>h (j+1) l (by omega) (aE _) hl
theorem kV(ab:List Car)(os:List Ord)(zs:List Par):∀j,0<=exO ab os zs j/\∀s l,1<=s->s<=j->l∈bR os.length s 0 []->exG ab os zs s l<=exO ab os zs j
 |0=>⟨mZ _,λs l h1 h2 _=>absurd h1 (by omega)⟩
 |j+1=>by
  obtain⟨h1,h2⟩:=kV ab os zs j;obtain⟨g1,g2,_⟩:=tl (exG ab os zs (j+1)) (bR os.length (j+1) 0 []) (exO ab os zs j);refine⟨by show 0<=exI _ _ _;omega,λs l ba bj hl=>?_⟩;by_cases e:s=j+1
  .subst e;exact g2 l hl
  .have:=h2 s l ba (by omega) hl;show _<=exI _ _ _;omega
theorem C9:∀m,m<5->∀s,s<5->((bR m s 0 []).all λl=>decide (cn (λi=>l.any λy=>decide ((i:Int)=y)) m=s)&&decide (cC m l=0))=true:=by decide +kernel
theorem zcp(f:Nat->Bool)(m:Nat)(hm:m<=4):((List.range m).filter f).map (λk=>((k:Nat):Int))∈bR m (cn f m) 0 []:=by
 obtain rfl|rfl|rfl|rfl|rfl:m=0\/m=1\/m=2\/m=3\/m=4:=by omega
 .simp[bR,cn]
 .cases h0:f 0<;>simp[cn,h0,jN,List.filter]<;>decide
 .cases h0:f 0<;>cases h1:f 1<;>simp[cn,h0,h1,jN,List.filter]<;>decide
 .cases h0:f 0<;>cases h1:f 1<;>cases h2:f 2<;>simp[cn,h0,h1,h2,jN,List.filter]<;>decide
 .cases h0:f 0<;>cases h1:f 1<;>cases h2:f 2<;>cases h3:f 3<;>simp[cn,h0,h1,h2,h3,jN,List.filter]<;>decide
theorem tv(ab:List Car)(os:List Ord)(zs:List Par)(l:List Int):∀n,(bo ab os zs l n).length=cn (cL ab os zs l) n
 |0=>rfl
 |n+1=>by
  have ih:=tv ab os zs l n;rw[CN,show cn (cL ab os zs l) (n+1)=cn (cL ab os zs l) n+if cL ab os zs l n then 1 else 0 from rfl,<-ih]
  split<;>simp
theorem D3(f:Nat->Bool)(n:Nat):cn f n+cn (λi=>!f i) n=n:=by
 have h:=kQ (λ_=>true) f n;rw[Ao n λ_ _=>rfl] at h
 have e1:=eZ (f:=λi=>true&&f i) (g:=f) n λk _=>by simp
 have e2:=eZ (f:=λi=>true && !f i) (g:=λi=>!f i) n λk _=>by simp
 omega
theorem zcq(r:Tw.RND)(he:ceR r=0)(h4:r.os.length<=4):exO r.ab r.os r.zs r.os.length=(r.os.length:Int)-(cM (aj r) 100000).2:=by
 have ok:=k6 r he;have m:=zda (aj r) 100000;generalize (cM (aj r) 100000).1=P at m;generalize (cM (aj r) 100000).2=cnt at *;have ax:=m.ct;have e1:(aj r).os.length=r.os.length:=rfl;rw[e1] at ax;have a5:=sO (λi=>!(decide (nth P i=-1))) r.os.length
 have pk:∀i,i<r.os.length->nth P i≠-1->∃k,k<r.ab.length/\nth P i=(k:Int)/\kB r.ab r.os r.zs i k=true:=λi hi hn=>by
  have hl:P.length=r.os.length:=m.ok.len;have h1:=(m.ok.at_ i (by omega)).resolve_left hn;have h2:nth P i<(r.ab.length:Int):=h1.2;refine⟨(nth P i).toNat,by omega,by omega,?_⟩;rw[<-qi r i _ hi (by omega)];exact m.ok.fit i (by omega) hn
 refine Dj (tu _ _ _ _ (by omega) _ λs l h1 h2 hl=>?_) ?_
 .have hc:=eh.1 (C9 r.os.length (by omega) s (by omega)) l hl;rw[bU,decide_eq_true_eq] at hc;obtain⟨bc,bf⟩:=nU (m:=r.os.length) (by omega) (by omega) hl;have hs:=hc.1;unfold exG;rw[tv];have a1:=kQ (λi=>!(decide (nth P i=-1))) (λi=>l.any λy=>decide ((i:Int)=y)) r.os.length
  have a2:cn (λi=>!(decide (nth P i=-1))&&l.any λy=>decide ((i:Int)=y)) r.os.length<=cn (cL r.ab r.os r.zs l) r.ab.length:=by
   refine mE _ (λi=>(nth P i).toNat) _ _ (λi hi hf=>?_) (λi j hi hj a6 a9 e=>?_)
   .simp only[bU,gH,decide_eq_false_iff_not] at hf;obtain⟨k,hk,e,a7⟩:=pk i hi hf.1;rw[e,bT];refine⟨hk,?_⟩;obtain⟨y,hy,e2⟩:=kE.1 hf.2
    have e2:(i:Int)=y:=by simpa using e2
    unfold cL;exact kE.2 ⟨y,hy,by rw[<-e2,bT];exact a7⟩
   .simp only[bU,gH,decide_eq_false_iff_not] at a6 a9;obtain⟨k,_,e1,_⟩:=pk i hi a6.1;obtain⟨k',_,e2,_⟩:=pk j hj a9.1
    have e3:nth P i=nth P j:=by
     simp only[e1,e2,bT] at e ⊢;omega
    have hl:P.length=r.os.length:=m.ok.len
    rcases sT i j with h|h|h
    .exact absurd e3 (m.ok.once j (by omega) a9.1 i h)
    .exact h
    .exact absurd e3.symm (m.ok.once i (by omega) a6.1 j h)
  have a3:cn (λi=>!(decide (nth P i=-1)) && !(l.any λy=>decide ((i:Int)=y))) r.os.length<=cn (λi=>!(l.any λy=>decide ((i:Int)=y))) r.os.length:=kH _ λi _ h=>by
   rw[bU] at h;exact h.2
  have a4:=D3 (λi=>l.any λy=>decide ((i:Int)=y)) r.os.length;omega
 .obtain⟨S,X,x1,x2,x3,g,hg⟩:=m.cl
  have dS:∀k,Decidable (S k):=λk=>Classical.propDecidable _
  have dX:∀k,Decidable (X k):=λk=>Classical.propDecidable _
  have b1:=kQ (λi=>decide (X i)) (λi=>!(decide (nth P i=-1))) r.os.length
  have b2:cn (λi=>!(!(decide (nth P i=-1)))) r.os.length<=cn (λi=>decide (X i) && !(!(decide (nth P i=-1)))) r.os.length:=kH _ λi hi h=>by
   simp only[Jf,decide_eq_true_eq,bU] at h ⊢;exact⟨x3 i hi h,h⟩
  have b3:=D3 (λi=>!(decide (nth P i=-1))) r.os.length
  have b4:cn (λk=>decide (S k)) r.ab.length<=cn (λi=>decide (X i) && !(decide (nth P i=-1))) r.os.length:=by
   refine mE _ g _ _ (λk hk hf=>?_) (λk l hk hl ay b6 e=>?_)
   .obtain⟨h1,h2,h3⟩:=hg k hk (of_decide_eq_true hf);refine⟨h1,?_⟩;rw[h3];simp only[bU,gH,decide_eq_true_eq,decide_eq_false_iff_not];exact⟨h2,by omega⟩
   .have h1:=(hg k hk (of_decide_eq_true ay)).2.2;have h2:=(hg l hl (of_decide_eq_true b6)).2.2;rw[e] at h1;omega
  have hin:=zcp (λi=>decide (X i)) r.os.length h4;by_cases hs:cn (λi=>decide (X i)) r.os.length=0
  .have:=(kV r.ab r.os r.zs r.os.length).1;omega
  .have ag:=(kV r.ab r.os r.zs r.os.length).2 _ _ (by omega) (sO _ _) hin
   have b5:cn (cL r.ab r.os r.zs (((List.range r.os.length).filter λi=>decide (X i)).map (λk=>((k:Nat):Int)))) r.ab.length<=cn (λk=>decide (S k)) r.ab.length:=kH _ λk hk h=>by
    unfold cL at h;obtain⟨y,hy,hf⟩:=kE.1 h;obtain⟨i,hi,rfl⟩:=dW.1 hy;obtain⟨h1,h2⟩:=jm.1 hi;have hi:=gl.1 h1;rw[bT] at hf;refine decide_eq_true (x2 i k (of_decide_eq_true h2) ⟨hk,?_,(ok.wn i hi k hk).2⟩);rw[qi r i k hi hk];exact hf
   unfold exG at ag;rw[tv] at ag;omega
theorem zcr(r:Tw.RND)(h4:r.os.length<=4):(kF r.ab r.os r.zs=none/\exO r.ab r.os r.zs r.os.length=0)\/∃l s,kF r.ab r.os r.zs=some l/\0<exO r.ab r.os r.zs r.os.length/\l.length=s/\(bo r.ab r.os r.zs l r.ab.length).length<s/\cC r.os.length l=0/\s<=4:=by
 cases hh:kF r.ab r.os r.zs with
 |none=>
  left;refine⟨rfl,Dj (tu _ _ _ _ (mZ _) _ λs l h1 h2 hl=>?_) (kV _ _ _ _).1⟩;unfold kF at hh;have:=List.findSome?_eq_none_iff.1 hh s (by rw[Dk];omega);have:=List.find?_eq_none.1 this l hl;unfold ql at this
  have hle:s<=(bo r.ab r.os r.zs l r.ab.length).length:=by simpa using this
  unfold exG;omega
 |some l=>
  right;unfold kF at hh;obtain⟨s,hs,hh⟩:=SO hh;rw[Dk] at hs;have hm:=SP hh;have hb:=List.find?_some hh;unfold ql at hb;have hb:=of_decide_eq_true hb;have hc:=eh.1 (C9 r.os.length (by omega) s (by omega)) l hm;rw[bU,decide_eq_true_eq,decide_eq_true_eq] at hc;have hg:=(kV r.ab r.os r.zs r.os.length).2 s l (by omega) (by omega) hm;unfold exG at hg;exact⟨l,s,rfl,by omega,(nU (m:=r.os.length) (by omega) (by omega) hm).1,hb,hc.2,by omega⟩
noncomputable instance zex:av:=LD
theorem zdb(r:Tw.RND)(l:List Int)(h1:cC r.os.length l=0)(h2:¬(l.length:Int)<=(bo r.ab r.os r.zs l r.ab.length).length):chP r l=.tup [.sl (bo r.ab r.os r.zs l r.ab.length).length (ints (bo r.ab r.os r.zs l r.ab.length)),.int .i64 0]:=by
 have hn:¬(cC r.os.length l≠0):=λh=>h h1
 unfold chP chS;rw[ar hn,ar h2,ar (λh=>h rfl)]
noncomputable instance zez:av:=LD
theorem zcs(r:Tw.RND)(h:ceR r=0):aC Tz.prog 31 [Tw.aM r] (.tup [.int .i64 (cM (aj r) 100000).2,.int .i64 0]) true:=by
 have c1:=dI r;rw[gr r h] at c1;have c2:=MO (aj r) (k6 r h) 100000;generalize (cM (aj r) 100000).1=P at *;generalize (cM (aj r) 100000).2=C at *;generalize aj r=x at *;unfold Tw.aM Rd.pv at *;generalize r.cz=p1 at *;generalize r.osP=p2 at *;generalize r.cT=p3 at *;generalize r.zsP=p4 at *;clear h;refine rcK Tz.func31 ?_;simp only[Tryz.results31,Tryz.ntmps31]
 repeat' first|(with_reducible first|apply ai|apply au|apply az|apply af|apply al|refine And.intro ?_ ?_|refine cw (c1) ?_|refine cw (c2) ?_|intro _)|(simp[*])|(refine ae (c1) ?_ ?_;(· (simp[*];done)))|(refine ae (c2) ?_ ?_;(· (simp[*];done)))
 all_goals first|omega
theorem zct(ab:List Car)(os:List Ord)(wt:List (List Int))(zs:List Par)(hc:ab.length<=1000)(ho:os.length<=4)(hz:zs.length<100000):aC Tz.prog 61 [.agg [.sl ab.length (aS ab),.sl os.length (aR os),.sl wt.length (a8 wt),.sl zs.length (aT zs)]] (.int .i64 (exO ab os zs os.length)) true:=by
 have c1:=λs h1 h2=>zcm s os.length h1 h2 ho
 have c2:=λl h1 h2=>zcf ab os wt zs l h1 hc hz h2
 have bi:=λs (hs:s<5) l hl=>nU (m:=os.length) (by omega) hs (l:=l) hl
 have bC:=λl=>CO ab os zs l ab.length
 have eO:∀j,exO ab os zs (j+1)=exI (exG ab os zs (j+1)) ((bR os.length (j+1) 0 []).drop 0) (exO ab os zs j):=λ_=>rfl
 have e0:exO ab os zs 0=0:=rfl
 have eG:∀s l,exG ab os zs s l=(s:Int)-((bo ab os zs l ab.length).length:Nat):=λ_ _=>rfl
 generalize exO ab os zs=EO at *;generalize exG ab os zs=G at *;have kk:=keep (And.intro c1 (And.intro c2 (And.intro bi (And.intro bC (And.intro eO (And.intro eG (And.intro ho hc)))))));clear c1 c2 bi bC eO eG ho hc hz;refine rcK Tz.func61 ?_;simp only[Tryz.results61,Tryz.ntmps61]
 repeat' first|(with_reducible first|apply ai|apply af|intro _)|(simp[*])
 refine bQ (λ(j:Nat)=>j<=os.length) [1] (λ(j:Nat)=>[(4,.w false false (.int .i64 ((j:Int)+1))),(3,.w false false (.int .i64 (EO j)))]) [0] (λ(j:Nat)=>[]) (λ(j:Nat)=>os.length-j) (λ(_u:Unit)=>True) [] (λ(_u:Unit)=>[(3,.w false false (.int .i64 (EO os.length)))]) [0] (λ(_u:Unit)=>[]) (0) (aK _) (by simp[e0]) (by simp[e0]) (λj hk=>?_) (λ_u hf=>?_)
 .clear e0;by_cases aq:j<os.length
  .obtain⟨c1,c2,bi,bC,eO,eG,ho,hc⟩:=kk
   have hltI:(j:Int)+1<=(os.length:Int):=by omega
   have h9:inI .i64 ((j:Int)+1+1):=aG (by omega) (by omega)
   have hz:j+1<=os.length:=by omega
   have a':j+1<5:=by omega
   have c1:=c1 (j+1) (by omega) hz;have bi:=bi (j+1) a';have eG:=eG (j+1);have e:=eO j;have hL6:=zci os.length (by omega) (j+1) a';generalize bR os.length (j+1) 0 []=L at *;generalize G (j+1)=g at *;generalize hE1:EO (j+1)=E1 at *;have c1:aC Tz.prog 98 [.int .i64 ((j:Int)+1),.int .i64 os.length] (.sl L.length (a8 L)) true:=c1;have ke:aN (exI g (L.drop 0) (EO j)=E1):=e.symm;have kq:=keep (And.intro c2 (And.intro bi (And.intro bC (And.intro eG (And.intro ho (And.intro hc hL6))))));have kz:=keep (And.intro hz (And.intro h9 hE1));generalize EO j=E0 at *;clear eO c2 bi bC eG ho hc e a' hz h9 hL6 hE1
   repeat' first|(with_reducible first|apply ai|apply aF|apply au|apply af|apply al|refine And.intro ?_ ?_|refine cw (c1) ?_|intro _)|(simp[*,hltI])|(refine ae (c1) ?_ ?_;(· (simp[*];done)))
   clear c1;refine bQ (λ(p:Nat×Int)=>p.1<=L.length/\exI g (L.drop p.1) p.2=E1) [1,4,5] (λ(p:Nat×Int)=>[(6,.w false false (.int .i64 (p.1:Nat))),(3,.w false false (.int .i64 p.2))]) [0] (λ(p:Nat×Int)=>[]) (λ(p:Nat×Int)=>L.length-p.1) (λ(_u:Unit)=>True) [1,4] (λ(_u:Unit)=>[(3,.w false false (.int .i64 E1))]) [0] (λ(_u:Unit)=>[]) ((0,E0)) ⟨aK _,ke⟩ (by simp) (by simp) (λp hk=>?_) (λ_u hf=>?_)
   .obtain⟨i,a⟩:=p;obtain⟨hi,hj⟩:=hk;dsimp only at hi hj ⊢;clear ke;by_cases h':i<L.length
    .obtain⟨c2,bi,bC,eG,ho,hc,hL6⟩:=kq;have b7:inI .i64 ((i:Int)+1):=aG (by omega) (by omega)
     have bb:i+1<=L.length:=by omega
     rw[dg L i h'] at hj;obtain⟨b1,b2⟩:=bi (nth L i) (eJ h');have c2:=c2 (nth L i) (by omega) b2;have eG:=eG (nth L i);have bC:=bC (nth L i);have hj:exI g (L.drop (i+1)) (if a<g (nth L i) then g (nth L i) else a)=E1:=hj;generalize hN:nth L i=N at *;generalize bo ab os zs N ab.length=C at *
     have hw:g N=(j:Int)+1-(C.length:Int):=by rw[eG];omega
     rw[hw] at hj;have b9:inI .i64 ((j:Int)+1-(C.length:Int)):=aG (by omega) (by omega);have kj:=keep hj;clear b1 b2 bi eG bC ho hc hL6 hw hj
     repeat' first|(with_reducible first|apply ai|apply iV|apply au|apply af|refine aQ (id:=9) 11 mixed (by decide +kernel) ?_|apply al|refine And.intro ?_ ?_|refine cw (c2) ?_|intro _)|(simp[*,hltI,h',hN,b7,b9])|(refine ae (c2) ?_ ?_;(· (simp[*];done)))
     all_goals first
      |omega
      |assumption
      |(refine nx (i+1,if a<(j:Int)+1-(C.length:Int) then (j:Int)+1-(C.length:Int) else a) ?_ ?_;(· exact⟨bb,kj⟩);(refine aD ?_ ?_<;>first|trivial|(simp[*];done)))
    .have aa:i=L.length:=by omega
     subst aa;rw[fg] at hj;have hj:a=E1:=hj;subst hj;clear kq
     repeat' first|(with_reducible first|apply ai|apply aL|apply af|apply al|intro _)|(simp[*,h'])
     all_goals first
      |omega
      |(refine aZ () ?_ ?_;(· trivial);(refine aD ?_ ?_<;>first|trivial|(simp[*];done)))
   .clear ke kq;obtain⟨hz,h9,hE1⟩:=kz
    repeat' first|(with_reducible first|apply af|intro _)|(simp[*,hltI,h9])
    all_goals first
     |omega
     |assumption
     |(refine nx (j+1) ?_ ?_;(· exact hz);(refine aD ?_ ?_<;>first|trivial|(simp[*,hE1];done)))
  .have aa:j=os.length:=by omega
   subst aa
   have hn:¬(os.length:Int)+1<=(os.length:Int):=by omega
   clear kk
   repeat' first|(with_reducible first|apply ai|apply aL|apply af|apply al|intro _)|(simp[*,hn])
   all_goals first
    |omega
    |(refine aZ () ?_ ?_;(· trivial);(refine aD ?_ ?_<;>first|trivial|(simp[*];done)))
 .clear kk e0
  repeat' first|(with_reducible first|apply ai|apply az|apply af|intro _)|(simp[*])
theorem zcu(ab:List Car)(os:List Ord)(wt:List (List Int))(zs:List Par):mM Tz.prog Tryz.f12 (Tryz.f12.body.getD .skip) [.agg [.sl ab.length (aS ab),.sl os.length (aR os),.sl wt.length (a8 wt),.sl zs.length (aT zs)]] (.bool true) true:=by
 have ca:=oT;have cf:=pH ab os wt zs;refine ny (di (by kernel_rfl)) ?_;have hb:Tryz.f12.body=some _:=rfl;rw[hb];clear hb;simp only[gk,Tryz.ntmps12,Tryz.results12]
 cases hw:jK ab os wt zs with
 |false=>
  rw[hw] at cf;clear hw
  repeat' first|(with_reducible first|apply ai|apply au|apply az|apply af|apply al|refine And.intro ?_ ?_|refine cw (ca) ?_|refine cw (cf) ?_|intro _)|(simp[*])|(refine ae (ca) ?_ ?_;(· (simp[*];done)))|(refine ae (cf) ?_ ?_;(· (simp[*];done)))
  all_goals first|omega
 |true=>
  rw[hw] at cf;obtain⟨⟨l1,k1⟩,⟨l2,k2⟩,l3,l4,l5,l6,l7⟩:=nD hw
  have c1:aC Tz.prog 20 [.agg [.sl ab.length (aS ab),.sl os.length (aR os),.sl wt.length (a8 wt),.sl zs.length (aT zs)]] (.int .i64 (ceR (cG ab os wt zs hw))) true:=
   PO ab os wt zs (by omega) (by omega) (by omega) (by omega) (λx hx=>by have:=l5 x hx;omega) (λx hx=>by have:=l6 x hx;omega) (λx hx=>by have:=l7 x hx;omega)
  obtain⟨r,hr⟩:∃r,r=cG ab os wt zs hw:=⟨_,rfl⟩
  have ev:Tw.aM r=.agg [.sl ab.length (aS ab),.sl os.length (aR os),.sl wt.length (a8 wt),.sl zs.length (aT zs)]:=by rw[hr];rfl
  have er:r.ab=ab/\r.os=os/\r.wt=wt/\r.zs=zs:=by rw[hr];exact⟨rfl,rfl,rfl,rfl⟩
  have cc:=nC r;rw[<-hr] at c1;rw[ev] at cc;by_cases he:ceR r=0
  .have ok:=k6 r he;have lo8:r.os.length<=8:=ok.lo
   have h8:r.os.length<=4:=by rw[er.2.1] at lo8 ⊢;omega
   have cm:=zcs r he;have ch:=zce r he;rw[zcn r h8] at ch;have ce:=zct r.ab r.os r.wt r.zs (by have:r.ab.length<=8:=ok.lc;omega) h8 (by have:r.zs.length<=64:=ok.lz;omega);have hex:=zcq r he h8;have a5:=(mz (aj r) 100000 r.os.length (aE _)).2;have hM:(cM (aj r) 100000).2=(bd (aj r) 100000 r.os.length).2:=rfl;rw[he] at c1
   change aC Tz.prog 61 [Tw.aM r] _ true at ce
   rcases zcr r h8 with ⟨h1,h2⟩|⟨l,s,h1,h2,h3,h4,h5,h6⟩
   .rw[h1] at ch;unfold k7 at ch;dsimp only at ch;rw[h2] at ce hex;rw[ev] at cm ch ce
    have hm:(cM (aj r) 100000).2=(os.length:Int):=by have:=er.2.1;rw[this] at hex;omega
    rw[hm] at cm;have i0:inI .i64 (os.length:Int):=aG (by omega) (by omega);clear ok lo8 h8 hex a5 hM h1 h2 hm he ev er l1 l2 l3 l4 l5 l6 l7 k1 k2 hr hw
    repeat' first|(with_reducible first|apply ai|apply au|apply az|apply af|refine aQ (id:=7) 12 mixed (by decide +kernel) ?_|apply al|refine And.intro ?_ ?_|refine cw (ca) ?_|refine cw (cf) ?_|refine cw (cc) ?_|refine cw (c1) ?_|refine cw (cm) ?_|refine cw (ch) ?_|refine cw (ce) ?_|intro _)|(simp[*,i0])|(refine ae (ca) ?_ ?_;(· (simp[*];done)))|(refine ae (cf) ?_ ?_;(· (simp[*];done)))|(refine ae (cc) ?_ ?_;(· (simp[*];done)))|(refine ae (c1) ?_ ?_;(· (simp[*];done)))|(refine ae (cm) ?_ ?_;(· (simp[*];done)))|(refine ae (ch) ?_ ?_;(· (simp[*];done)))|(refine ae (ce) ?_ ?_;(· (simp[*];done)))
    all_goals first|omega|assumption
   .rw[h1] at ch;unfold k7 at ch;dsimp only at ch;have cd:=zch r l (by omega) he;rw[zdb r l h5 (by omega)] at cd;rw[ev] at cm ch ce cd
    have e1:r.os.length=os.length:=by rw[er.2.1]
    rw[hM] at hex cm;generalize exO r.ab r.os r.zs r.os.length=EX at *;generalize (bd (aj r) 100000 r.os.length).2=M at *
    have hx:(os.length:Int)-EX=M:=by omega
    have i0:inI .i64 M:=aG (by omega) (by omega)
    have hn:¬M=(os.length:Int):=by omega
    generalize bo r.ab r.os r.zs l r.ab.length=C at *
    have aq:(C.length:Int)<(l.length:Int):=by omega
    clear ok lo8 h8 hex a5 hM h1 h2 h3 h4 h5 h6 he ev er l1 l2 l3 l4 l5 l6 l7 k1 k2 hr hw e1
    repeat' first|(with_reducible first|apply ai|apply au|apply az|apply af|refine aQ (id:=7) 12 mixed (by decide +kernel) ?_|apply al|refine And.intro ?_ ?_|refine cw (ca) ?_|refine cw (cf) ?_|refine cw (cc) ?_|refine cw (c1) ?_|refine cw (cm) ?_|refine cw (ch) ?_|refine cw (ce) ?_|refine cw (cd) ?_|intro _)|(simp[*,hx,i0,hn,aq])|(refine ae (ca) ?_ ?_;(· (simp[*];done)))|(refine ae (cf) ?_ ?_;(· (simp[*];done)))|(refine ae (cc) ?_ ?_;(· (simp[*];done)))|(refine ae (c1) ?_ ?_;(· (simp[*];done)))|(refine ae (cm) ?_ ?_;(· (simp[*];done)))|(refine ae (ch) ?_ ?_;(· (simp[*];done)))|(refine ae (ce) ?_ ?_;(· (simp[*];done)))|(refine ae (cd) ?_ ?_;(· (simp[*];done)))
    all_goals first|omega|assumption
  .clear ev er l1 l2 l3 l4 l5 l6 l7 k1 k2 hr hw;generalize ceR r=e at *
   repeat' first|(with_reducible first|apply ai|apply au|apply az|apply af|apply al|refine And.intro ?_ ?_|refine cw (ca) ?_|refine cw (cf) ?_|refine cw (c1) ?_|intro _)|(simp[*,he])|(refine ae (ca) ?_ ?_;(· (simp[*];done)))|(refine ae (cf) ?_ ?_;(· (simp[*];done)))|(refine ae (cc) ?_ ?_;(· (simp[*];done)))|(refine ae (c1) ?_ ?_;(· (simp[*];done)))
   all_goals first|omega
end Go.Proofs.YthpkmilhiganjaaGreat
