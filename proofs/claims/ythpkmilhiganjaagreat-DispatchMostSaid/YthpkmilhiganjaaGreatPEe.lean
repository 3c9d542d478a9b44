/- Lemmas. -/
import Derived.Test.YthpkmilhiganjaaGreatPEc
import Derived.Test.YthpkmilhiganjaaGreatPEa
import Derived.Test.YthpkmilhiganjaaGreatPEb
import Derived.Test.YthpkmilhiganjaaGreatPDb
import Derived.Test.YthpkmilhiganjaaGreatPLg
import Derived.Test.YthpkmilhiganjaaGreatPEd
import Derived.Test.YthpkmilhiganjaaGreatPDc
set_option linter.all false
set_option maxHeartbeats 32000000
set_option maxRecDepth 100000
namespace Go.Proofs.YthpkmilhiganjaaGreat
open Go Go.Fi
theorem l9{f g:Nat->Bool}{k:Nat}:∀c,k<c->(∀j,j<c->j≠k->f j=g j)->cn f c+(if g k then 1 else 0)=cn g c+(if f k then 1 else 0)
 |c+1,hk,h=>by
  unfold cn;by_cases e:k=c
  .subst e;have:=km (f:=f) (g:=g) k (λj hj=>h j ab ab);omega
  .have:=l9 c ab (λj hj hn=>h j ab hn);have h2:=h c ab (λe'=>e e'.symm);rw[h2];omega
def adm(x:Rd)(most:Int)(i k:Nat):Prop:=k<x.bD.length/\nth (nth x.fit i) k=true/\nth (nth x.wt i) k<=most
def occ(tk:List Int)(sn:List Bool)(c o:Nat):Nat:=cn (λk=>!(nth sn k)&&decide (nth tk k=(o:Int))) c
structure Clo(x:Rd)(most:Int)(S X:Nat->Prop)(tk:List Int):Prop where
 s:∀k,k<x.bD.length->S k->0<=nth tk k/\X (nth tk k).toNat
 n:∀i k,X i->adm x most i k->S k
structure tP(x:Rd)(most:Int)(i lo:Nat)(s t:FS):Prop where
 tk:t.1=s.1
 sub:∀k,k<x.bD.length->nth s.2 k=true->nth t.2 k=true
 all:∀k,lo<=k->adm x most i k->nth t.2 k=true
 new:∀k,k<x.bD.length->nth t.2 k=true->nth s.2 k=false->0<=nth s.1 k/\∀j,adm x most (nth s.1 k).toNat j->nth t.2 j=true
structure Win(x:Rd)(most:Int)(i:Nat)(s t:FS):Prop where
 agr:∀k,k<x.bD.length->nth s.2 k=true->nth t.1 k=nth s.1 k
 oc:∀o:Nat,occ t.1 s.2 x.bD.length o=occ s.1 s.2 x.bD.length o+if o=i then 1 else 0
 edg:∀k,k<x.bD.length->nth t.1 k=nth s.1 k\/∃o:Nat,nth t.1 k=(o:Int)/\adm x most o k
 clo:∀S X,Clo x most S X s.1->¬X i/\∀k,k<x.bD.length->S k->nth t.1 k=nth s.1 k
theorem Win.ze9{x:Rd}{most:Int}{i:Nat}{s u t:FS}(h:Win x most i u t)(h1:u.1=s.1)(h2:∀k,k<x.bD.length->nth s.2 k=true->nth u.2 k=true):Win x most i s t:=by
 refine⟨λk hk hs=>by rw[h.agr k hk (h2 k hk hs),h1],λo=>?_,λk hk=>by have:=h.edg k hk;rwa [h1] at this,λS X hc=>by have:=h.clo S X (by rwa [h1]);rwa [h1] at this⟩;have e:=h.oc o
 have key:∀tk:List Int,occ tk s.2 x.bD.length o=cn (λk=>(!(nth s.2 k)&&decide (nth tk k=(o:Int)))&&nth u.2 k) x.bD.length+occ tk u.2 x.bD.length o:=λtk=>by
  have e1:occ tk s.2 x.bD.length o=_:=lU (λk=>!(nth s.2 k)&&decide (nth tk k=(o:Int))) (λk=>nth u.2 k) x.bD.length;rw[e1];congr 1
  refine km _ λk hk=>?_
  have:=h2 k hk
  cases hs:nth s.2 k with
  |true=>rw[this hs];simp
  |false=>cases nth u.2 k<;>simp
 rw[key t.1,key s.1,<-h1,e]
 have:cn (λk=>(!(nth s.2 k)&&decide (nth t.1 k=(o:Int)))&&nth u.2 k) x.bD.length=cn (λk=>(!(nth s.2 k)&&decide (nth u.1 k=(o:Int)))&&nth u.2 k) x.bD.length:=km _ λk hk=>by
  cases hu:nth u.2 k with
  |true=>rw[h.agr k hk hu]
  |false=>simp
 omega
theorem zeg{x:Rd}{most:Int}{i k:Nat}{sn:List Bool}(h:ic x most i k sn=true)(ha:adm x most i k):nth sn k=true:=by
 obtain⟨_,h1,h2⟩:=ha;simp only[ic,qj,qo,decide_eq_true_eq] at h
 rcases h with (h|h)|h
 .rw[h1] at h;cases h
 .exact h
 .omega
theorem sZ{x:Rd}{most:Int}{i:Nat}(hi:i<x.os.length)(rc:Nat->FS->Bool×FS)(B:Nat)(hgo:∀j s,j<x.os.length->bz x s->bl s.2<B->mz x s (rc j s).2)(a9:∀j s,j<x.os.length->bz x s->bl s.2<B->((rc j s).1=false->tP x most j 0 s (rc j s).2)/\((rc j s).1=true->Win x most j s (rc j s).2)):∀(m:Nat)(s:FS),m<=x.bD.length->bz x s->bl s.2<=B->((bw rc x most i m s).1=false->tP x most i (x.bD.length-m) s (bw rc x most i m s).2)/\((bw rc x most i m s).1=true->Win x most i s (bw rc x most i m s).2)
 |0,s,_,_,_=>by
  unfold bw;exact⟨λ_=>⟨rfl,λ_ _ h=>h,λk hk ha=>absurd ha.1 ab,λk _ h1 h2=>by rw[h1] at h2;cases h2⟩,λh=>au⟩
 |m+1,s,hm,h,hu=>by
  unfold bw;simp only[];obtain⟨k,b4⟩:∃k,x.bD.length-(m+1)=k:=⟨_,rfl⟩;rw[b4]
  have hk:k<x.bD.length:=ab
  have ag:x.bD.length-m=k+1:=ab
  split
  .rename_i hs;obtain⟨f1,f2⟩:=sZ hi rc B hgo a9 m s ab h hu;rw[ag] at f1;refine⟨λe=>?_,f2⟩;have f:=f1 e;refine⟨f.tk,f.sub,λk' a6 ha=>?_,f.new⟩;by_cases e2:k'=k
   .subst e2;exact f.sub k' hk (zeg hs ha)
   .exact f.all k' ab ha
  .rename_i hs;obtain⟨g1,g2,g3⟩:=p0 hs;have h':adm x most i k:=⟨hk,g1,g3⟩;have bd:=kV s.2 k (by rw[h.l2];exact hk) g2;have l1:=h.l1;have l2:=h.l2;split
   .rename_i hn;refine⟨λe=>(by cases e),λ_=>?_⟩
    have ns:∀j,nth (s.1.set k (i:Int)) j=if k=j then (i:Int) else nth s.1 j:=λj=>kF _ _ _ _ (by rw[l1];exact hk)
    refine⟨λk' a6 h9=>?_,λo=>?_,λk' a6=>?_,λS X hc=>?_⟩
    .show nth (s.1.set k (i:Int)) k'=_;rw[ns,bP];intro e;subst e;rw[g2] at h9;cases h9
    .have e:=l9 (f:=λj=>!(nth s.2 j)&&decide (nth (s.1.set k (i:Int)) j=(o:Int))) (g:=λj=>!(nth s.2 j)&&decide (nth s.1 j=(o:Int))) (k:=k) x.bD.length hk (λj hj h8=>by
      rw[ns,bP (λe=>h8 e.symm)])
     have hf:(!(nth s.2 k)&&decide (nth (s.1.set k (i:Int)) k=(o:Int)))=decide (o=i):=by
      rw[ns,b8 rfl,g2,yL];simp;omega
     have hg:(!(nth s.2 k)&&decide (nth s.1 k=(o:Int)))=false:=by
      rw[g2];simp;omega
     rw[hf,hg] at e;show cn _ _=cn _ _+_;by_cases ho:o=i
     .subst ho;simp at e ⊢;omega
     .simp[ho] at e ⊢;omega
    .show nth (s.1.set k (i:Int)) k'=_\/∃o:Nat,nth (s.1.set k (i:Int)) k'=_/\_;rw[ns];by_cases e:k=k'
     .subst e;exact .inr ⟨i,by rw[b8 rfl],h'⟩
     .exact .inl (by rw[bP e])
    .have hSk:¬S k:=λhS=>by have:=(hc.s k hk hS).1;omega
     refine⟨λhX=>hSk (hc.n i k hX h'),λk' a6 hS=>?_⟩;show nth (s.1.set k (i:Int)) k'=_;rw[ns,bP];intro e;subst e;exact hSk hS
   .rename_i hn;have hr:=(h.rg k hk).resolve_left ab;obtain⟨j,hj⟩:∃j:Nat,nth s.1 k=(j:Int):=⟨(nth s.1 k).toNat,ab⟩
    have aa:j<x.os.length:=ab
    have hy:bz x (s.1,s.2.set k true):=h.seen k
    have ao:bl (s.2.set k true)<B:=ab
    have hg:=hgo j (s.1,s.2.set k true) aa hy ao;obtain⟨r1,r2⟩:=a9 j (s.1,s.2.set k true) aa hy ao
    have sn1:∀q,nth (s.2.set k true) q=if k=q then true else nth s.2 q:=λq=>kF _ _ _ _ (by rw[l2];exact hk)
    rw[hj,jr];generalize rc j (s.1,s.2.set k true)=R at *;obtain⟨b,tk2,sn2⟩:=R;dsimp only at *;have b':tk2.length=x.bD.length:=hg.ok.l1;split
    .rename_i hb;subst hb;refine⟨λe=>(by cases e),λ_=>?_⟩;have w:=r2 rfl;have wagr:∀q,q<x.bD.length->nth (s.2.set k true) q=true->nth tk2 q=nth s.1 q:=w.agr
     have woc:∀o:Nat,occ tk2 (s.2.set k true) x.bD.length o=occ s.1 (s.2.set k true) x.bD.length o+if o=j then 1 else 0:=w.oc
     have wedg:∀q,q<x.bD.length->nth tk2 q=nth s.1 q\/∃o:Nat,nth tk2 q=(o:Int)/\adm x most o q:=w.edg
     have ns:∀q,nth (tk2.set k (i:Int)) q=if k=q then (i:Int) else nth tk2 q:=λq=>kF _ _ _ _ (by rw[b'];exact hk)
     refine⟨λq hq h9=>?_,λo=>?_,λq hq=>?_,λS X hc=>?_⟩
     .show nth (tk2.set k (i:Int)) q=_
      have h8:k≠q:=by intro e;subst e;rw[g2] at h9;cases h9
      rw[ns,bP h8];exact wagr q hq (by rw[sn1,bP h8];exact h9)
     .have e1:=l9 (f:=λq=>!(nth s.2 q)&&decide (nth (tk2.set k (i:Int)) q=(o:Int))) (g:=λq=>!(nth (s.2.set k true) q)&&decide (nth tk2 q=(o:Int))) (k:=k) x.bD.length hk (λq hq h8=>by
       rw[ns,sn1,bP (λe=>h8 e.symm),bP (λe=>h8 e.symm)])
      have e2:=l9 (f:=λq=>!(nth s.2 q)&&decide (nth s.1 q=(o:Int))) (g:=λq=>!(nth (s.2.set k true) q)&&decide (nth s.1 q=(o:Int))) (k:=k) x.bD.length hk (λq hq h8=>by
       rw[sn1,bP (λe=>h8 e.symm)])
      have e3:=woc o
      have hf:(!(nth s.2 k)&&decide (nth (tk2.set k (i:Int)) k=(o:Int)))=decide (o=i):=by
       rw[ns,b8 rfl,g2,yL];simp;omega
      have aq:(!(nth s.2 k)&&decide (nth s.1 k=(o:Int)))=decide (o=j):=by
       rw[hj,g2,yL];simp;omega
      have hy:∀z:Bool,(!(nth (s.2.set k true) k)&&z)=false:=λz=>by rw[sn1,b8 rfl];rfl
      rw[hf,hy] at e1;rw[aq,hy] at e2;show cn (λq=>!(nth s.2 q)&&decide (nth (tk2.set k (i:Int)) q=(o:Int))) x.bD.length=cn (λq=>!(nth s.2 q)&&decide (nth s.1 q=(o:Int))) x.bD.length+_;unfold occ at e3;by_cases ho:o=i
      .by_cases b6:o=j
       .first|(simp_all;done)|(simp_all;omega)
       .first|(simp_all;done)|(simp_all;omega)
      .by_cases b6:o=j
       .first|(simp_all;done)|(simp_all;omega)
       .first|(simp_all;done)|(simp_all;omega)
     .show nth (tk2.set k (i:Int)) q=_\/∃o:Nat,nth (tk2.set k (i:Int)) q=_/\_;rw[ns];by_cases e:k=q
      .subst e;exact .inr ⟨i,by rw[b8 rfl],h'⟩
      .rw[bP e];exact wedg q hq
     .obtain⟨c1,c2⟩:=w.clo S X hc
      have hSk:¬S k:=λhS=>by
       have:=(hc.s k hk hS).2;rw[hj,jr] at this;exact c1 this
      refine⟨λhX=>hSk (hc.n i k hX h'),λq hq hS=>?_⟩;show nth (tk2.set k (i:Int)) q=_;rw[ns,bP (by intro e;subst e;exact hSk hS)];exact c2 q hq hS
    .rename_i hb
     have hb:b=false:=by simpa using hb
     have f:=r1 hb;have ftk:tk2=s.1:=f.tk;have fsub:∀q,q<x.bD.length->nth (s.2.set k true) q=true->nth sn2 q=true:=f.sub;have fall:∀q,0<=q->adm x most j q->nth sn2 q=true:=f.all;have fnew:∀q,q<x.bD.length->nth sn2 q=true->nth (s.2.set k true) q=false->0<=nth s.1 q/\∀p,adm x most (nth s.1 q).toNat p->nth sn2 p=true:=f.new;subst ftk;have bh:bl sn2<=bl (s.2.set k true):=hg.un
     have a4:∀q,q<x.bD.length->nth s.2 q=true->nth sn2 q=true:=λq hq h9=>fsub q hq (by rw[sn1];split;exact rfl;exact h9)
     obtain⟨i1,i2⟩:=sZ hi rc B hgo a9 m (s.1,sn2) ab hg.ok (by show bl sn2<=B;omega);rw[ag] at i1;refine⟨λe=>?_,λe=>(i2 e).ze9 rfl a4⟩;have g:=i1 e;generalize (bw rc x most i m (s.1,sn2)).2=T at *;have gsub:∀q,q<x.bD.length->nth sn2 q=true->nth T.2 q=true:=g.sub;refine⟨g.tk,λq hq h9=>gsub q hq (a4 q hq h9),λq hq ha=>?_,λq hq ht h9=>?_⟩
     .by_cases e2:q=k
      .subst e2;exact gsub q hk (fsub q hk (by rw[sn1,b8 rfl]))
      .exact g.all q ab ha
     .cases h2:nth sn2 q with
      |false=>exact g.new q hq ht h2
      |true=>
       by_cases e2:q=k
       .subst e2;refine⟨ab,λp hp=>?_⟩;rw[hj,jr] at hp;exact gsub p hp.1 (fall p (cG _) hp)
       .obtain⟨n1,n2⟩:=fnew q hq h2 (by rw[sn1,bP (λe=>e2 e.symm)];exact h9);exact⟨n1,λp hp=>gsub p hp.1 (n2 p hp)⟩
theorem D9{x:Rd}{most:Int}:∀(f i:Nat)(s:FS),i<x.os.length->bz x s->bl s.2<f->((bm x most f i s).1=false->tP x most i 0 s (bm x most f i s).2)/\((bm x most f i s).1=true->Win x most i s (bm x most f i s).2)
 |0,_,_,_,_,h=>absurd h ab
 |f+1,i,s,hi,h,hu=>by
  have:=sZ hi (bm x most f) f (λj s hj hs hu=>kJ f j s hj hs hu) (λj s hj hs hu=>D9 f j s hj hs hu) x.bD.length s (bS _) h ab;rw[DW] at this;exact this
end Go.Proofs.YthpkmilhiganjaaGreat
namespace Go.Proofs.YthpkmilhiganjaaGreat
open Go Go.Fi
variable[bI]
def LR(s n:Int):List AV:=[.w false false (.ip [.int .i64 s] 0),.ptr 5 1 0,.w false false (.ip [.int .i64 n] 0),.ptr 6 1 0]
def chH(x:Rd)(lp:Nat)(s n:Int)(p1 p2:PV):bE:=
 [(6,[.fn 127 (LR s n)]),(5,[.w false false (.yl lp)]),(4,[.w false false (.int .i64 s)]),(3,[.w false false x.pv]),(2,[.w false false p2]),(1,[.w false false p1])]
section
variable(x:Rd)(lp:Nat)(s n:Int)(p1 p2:PV)
@[simp]theorem zgv:cJ (chH x lp s n p1 p2) 6=some [.fn 127 (LR s n)]:=rfl
@[simp]theorem zgw:cJ (chH x lp s n p1 p2) 5=some [.w false false (.yl lp)]:=rfl
end
end Go.Proofs.YthpkmilhiganjaaGreat
namespace Go.Proofs.YthpkmilhiganjaaGreat
open Go Go.Fi
noncomputable instance zgy:bI:=LD
section
variable[bI]
end
noncomputable instance zg0:bI:=LD
section
variable[bI]
end
noncomputable instance zg2:bI:=LD
noncomputable instance zg3:bI:=LD
theorem tg{f:Nat->Bool}{k:Nat}:∀c,k<c->f k=true->1<=cn f c
 |c+1,hk,h=>by
  unfold cn;by_cases e:k=c
  .subst e;rw[h];simp
  .have:=tg (f:=f) (k:=k) c ab h;omega
theorem zeh{f:Nat->Bool}{c j k:Nat}(hj:j<c)(hk:k<c)(h8:j≠k)(h1:f j=true)(h2:f k=true):2<=cn f c:=by
 have e:=sC f j c hj h1;have:=tg (f:=λq=>f q && !(decide (q=j))) (k:=k) c hk (by rw[h2];simp;omega);omega
theorem LS{f:Nat->Bool}:∀c,1<=cn f c->∃k,k<c/\f k=true
 |0,h=>absurd h (by unfold cn;omega)
 |c+1,h=>by
  unfold cn at h
  cases hf:f c with
  |true=>exact⟨c,ab,hf⟩
  |false=>
   rw[hf] at h;obtain⟨k,hk,e⟩:=LS c av;exact⟨k,ab,e⟩
theorem kn(c k:Nat):nth (List.replicate c false) k=false:=by
 by_cases h:k<c
 .exact kO _ _ _ h
 .simp[nth,dZ,h]
structure MtI(x:Rd)(most:Int)(i:Nat)(tk:List Int)(cnt:Int):Prop where
 ln:tk.length=x.bD.length
 o1:∀o,occ tk (List.replicate x.bD.length false) x.bD.length o<=1
 o0:∀o,i<=o->occ tk (List.replicate x.bD.length false) x.bD.length o=0
 ct:cnt=(cn (λo=>decide (occ tk (List.replicate x.bD.length false) x.bD.length o=1)) i:Nat)
 ed:∀k,k<x.bD.length->nth tk k=-1\/∃o:Nat,nth tk k=(o:Int)/\o<i/\adm x most o k
 cl:∃S X,Clo x most S X tk/\(∀o,X o->o<i)/\∀o,o<i->occ tk (List.replicate x.bD.length false) x.bD.length o=0->X o
theorem EO{tk:List Int}{c k o:Nat}(hk:k<c)(h:nth tk k=(o:Int)):1<=occ tk (List.replicate c false) c o:=
 tg c hk (by rw[kn,h];simp)
theorem LW(x:Rd)(most:Int):∀i,i<=x.os.length->MtI x most i (bf x most i).1 (bf x most i).2
 |0,_=>by
  have hz:∀o,occ (List.replicate x.bD.length (-1)) (List.replicate x.bD.length false) x.bD.length o=0:=λo=>CO _ λk hk=>by
   have hm:¬((-1:Int)=(o:Int)):=ab
   rw[kn,kO _ _ _ hk,decide_eq_false hm,js]
  refine⟨by simp[bf],λo=>by rw[show (bf x most 0).1=List.replicate x.bD.length (-1) from rfl,hz o];omega,λo _=>hz o,rfl,λk hk=>.inl (kO _ _ _ hk),λ_=>False,λ_=>False,⟨λ_ _ h=>h.elim,λ_ _ h=>h.elim⟩,λ_ h=>h.elim,λo ho=>absurd ho ab⟩
 |i+1,h=>by
  have m:=LW x most i ab;obtain⟨okf,_,_⟩:=k7 x most i ab;obtain⟨s1,s2⟩:=D9 (x:=x) (most:=most) (x.bD.length+1) i ((bf x most i).1,List.replicate x.bD.length false) ab okf (by show bl (List.replicate x.bD.length false)<_;rw[k6];omega);have hgo:=kJ (x:=x) (most:=most) (x.bD.length+1) i ((bf x most i).1,List.replicate x.bD.length false) ab okf (by show bl (List.replicate x.bD.length false)<_;rw[k6];omega);have e1:(bf x most (i+1)).1=(bm x most (x.bD.length+1) i ((bf x most i).1,List.replicate x.bD.length false)).2.1:=rfl
  have e2:(bf x most (i+1)).2=if (bm x most (x.bD.length+1) i ((bf x most i).1,List.replicate x.bD.length false)).1 then (bf x most i).2+1 else (bf x most i).2:=rfl
  rw[e1,e2];generalize (bf x most i).1=tk at *;generalize (bf x most i).2=cnt at *;generalize bm x most (x.bD.length+1) i (tk,List.replicate x.bD.length false)=R at *;obtain⟨b,t2,sn2⟩:=R;obtain⟨S,X,c1,c2,c3⟩:=m.cl
  cases b with
  |false=>
   have f:=s1 rfl;have ft:t2=tk:=f.tk;subst ft;have fall:∀k,0<=k->adm x most i k->nth sn2 k=true:=f.all;have fnew:∀k,k<x.bD.length->nth sn2 k=true->nth (List.replicate x.bD.length false) k=false->0<=nth t2 k/\∀j,adm x most (nth t2 k).toNat j->nth sn2 j=true:=f.new;refine⟨m.ln,m.o1,λo ho=>m.o0 o ab,?_,λk hk=>?_,λk=>S k\/nth sn2 k=true,λo=>X o\/o=i\/∃k,k<x.bD.length/\nth sn2 k=true/\nth t2 k=(o:Int),⟨λk hk hs=>?_,λo k hx ha=>?_⟩,λo hx=>?_,λo ho hz=>?_⟩
   .show cnt=_;have e:=m.o0 i (bS _);rw[m.ct,show cn (λo=>decide (occ t2 (List.replicate x.bD.length false) x.bD.length o=1)) (i+1)=cn (λo=>decide (occ t2 (List.replicate x.bD.length false) x.bD.length o=1)) i+if decide (occ t2 (List.replicate x.bD.length false) x.bD.length i=1) then 1 else 0 from rfl,e];simp
   .rcases m.ed k hk with h|⟨o,h1,h2,h3⟩
    .exact .inl h
    .exact .inr ⟨o,h1,ab,h3⟩
   .rcases hs with hs|hs
    .have:=c1.s k hk hs;exact⟨this.1,.inl this.2⟩
    .have:=(fnew k hk hs (kn _ _)).1
     have e:nth t2 k=(((nth t2 k).toNat:Nat):Int):=ab
     exact⟨this,.inr (.inr ⟨k,hk,hs,e⟩)⟩
   .rcases hx with hx|rfl|⟨q,hq,hs,e⟩
    .exact .inl (c1.n o k hx ha)
    .exact .inr (fall k (cG _) ha)
    .have:=(fnew q hq hs (kn _ _)).2 k;rw[e,jr] at this;exact .inr (this ha)
   .rcases hx with hx|rfl|⟨q,hq,hs,e⟩
    .have:=c2 o hx;omega
    .omega
    .rcases m.ed q hq with h|⟨o',h1,h2,_⟩
     .omega
     .omega
   .by_cases e:o=i
    .exact .inr (.inl e)
    .exact .inl (c3 o ab hz)
  |true=>
   have w:=s2 rfl
   have woc:∀o:Nat,occ t2 (List.replicate x.bD.length false) x.bD.length o=occ tk (List.replicate x.bD.length false) x.bD.length o+if o=i then 1 else 0:=w.oc
   have wed:∀k,k<x.bD.length->nth t2 k=nth tk k\/∃o:Nat,nth t2 k=(o:Int)/\adm x most o k:=w.edg;have wcl:∀S X,Clo x most S X tk->¬X i/\∀k,k<x.bD.length->S k->nth t2 k=nth tk k:=w.clo;have a':=m.o0 i (bS _);refine⟨hgo.ok.l1,λo=>?_,λo ho=>?_,?_,λk hk=>?_,S,X,⟨λk hk hs=>?_,c1.n⟩,λo hx=>by have:=c2 o hx;omega,λo ho hz=>?_⟩
   .show occ t2 _ _ o<=1;rw[woc];by_cases e:o=i
    .subst e;rw[a'];simp
    .have:=m.o1 o;simp[e];exact this
   .show occ t2 _ _ o=0;rw[woc,m.o0 o ab,bP ab]
   .show (if true=true then cnt+1 else cnt)=(cn (λo=>decide (occ t2 _ _ o=1)) (i+1):Nat);rw[b8 rfl,m.ct];rw[show cn (λo=>decide (occ t2 (List.replicate x.bD.length false) x.bD.length o=1)) (i+1)=cn (λo=>decide (occ t2 (List.replicate x.bD.length false) x.bD.length o=1)) i+if decide (occ t2 (List.replicate x.bD.length false) x.bD.length i=1) then 1 else 0 from rfl];have e:=km (f:=λo=>decide (occ t2 (List.replicate x.bD.length false) x.bD.length o=1)) (g:=λo=>decide (occ tk (List.replicate x.bD.length false) x.bD.length o=1)) i (λo ho=>by rw[woc,bP ab,m8]);rw[e,woc,a'];simp
   .have ax:∀o:Nat,nth t2 k=(o:Int)->o<i+1:=λo ho=>by
     have h1:=EO hk ho;rw[woc] at h1;apply ry;intro hn;have:=m.o0 o ab;rw[this,bP ab] at h1;omega
    rcases wed k hk with e|⟨o,e,ha⟩
    .show nth t2 k=-1\/∃o:Nat,nth t2 k=_/\_;rw[e]
     rcases m.ed k hk with h|⟨o,h1,h2,h3⟩
     .exact .inl h
     .exact .inr ⟨o,h1,ab,h3⟩
    .exact .inr ⟨o,e,ax o e,ha⟩
   .have:=(wcl S X c1).2 k hk hs;show 0<=nth t2 k/\X (nth t2 k).toNat;rw[this];exact c1.s k hk hs
   .have hz:occ t2 (List.replicate x.bD.length false) x.bD.length o=0:=hz;rw[woc] at hz;by_cases e:o=i
    .rw[b8 e] at hz;omega
    .exact c3 o ab ab
structure MtF(x:Rd)(most:Int)(P:List Int)(cnt:Int):Prop where
 ok:eG x P
 wt:∀i,i<x.os.length->nth P i≠-1->nth (nth x.wt i) (nth P i).toNat<=most
 ct:cnt=(cn (λi=>!(decide (nth P i=-1))) x.os.length:Nat)
 cl:∃S X:Nat->Prop,(∀i,X i->i<x.os.length)/\(∀i k,X i->adm x most i k->S k)/\(∀i,i<x.os.length->nth P i=-1->X i)/\∃g:Nat->Nat,(∀k,k<x.bD.length->S k->g k<x.os.length/\X (g k)/\nth P (g k)=(k:Int))
theorem kH(x:Rd)(most:Int):MtF x most (ba x most).1 (ba x most).2:=by
 have m:=LW x most x.os.length (bS _);show MtF x most (bn (bf x most x.os.length).1 x.os.length x.bD.length) (bf x most x.os.length).2;generalize (bf x most x.os.length).1=tk at *;generalize (bf x most x.os.length).2=cnt at *
 have inj:∀j k,j<x.bD.length->k<x.bD.length->0<=nth tk j->nth tk j=nth tk k->j=k:=λj k hj hk h0 e=>by
  apply ry;intro h8;obtain⟨o,ho⟩:∃o:Nat,nth tk j=(o:Int):=⟨(nth tk j).toNat,ab⟩;have h2:2<=occ tk (List.replicate x.bD.length false) x.bD.length o:=zeh hj hk h8 (by rw[kn,ho];simp) (by rw[kn,<-e,ho];simp);have:=m.o1 o;omega
 have lt:∀k,k<x.bD.length->nth tk k<(x.os.length:Int):=λk hk=>by
  rcases m.ed k hk with h|⟨o,h1,h2,_⟩<;>omega
 have val:=Bd tk x.os.length x.bD.length lt inj;have hl:=eO tk x.os.length x.bD.length;generalize bn tk x.os.length x.bD.length=P at *
 have at_:∀i,i<x.os.length->nth P i≠-1->∃k,k<x.bD.length/\nth P i=(k:Int)/\nth tk k=(i:Int)/\adm x most i k:=λi hi hn=>by
  rcases val i hi with ⟨k,hk,e1,e2⟩|⟨_,e2⟩
  .refine⟨k,hk,e2,e1,?_⟩
   rcases m.ed k hk with h|⟨o,h1,_,h3⟩
   .omega
   .have:o=i:=ab
    subst this;exact h3
  .exact absurd e2 hn
 have oc:∀i,i<x.os.length->(nth P i≠-1↔occ tk (List.replicate x.bD.length false) x.bD.length i=1):=λi hi=>by
  constructor
  .intro hn;obtain⟨k,hk,_,e,_⟩:=at_ i hi hn;have:=EO hk e;have:=m.o1 i;omega
  .intro h1 e;obtain⟨k,hk,hf⟩:=LS x.bD.length (show 1<=cn _ _ by rw[show cn _ _=occ tk _ _ i from rfl,h1];exact bS _)
   have ay:nth tk k=(i:Int):=by
    rw[kn] at hf;simpa using hf
   rcases val i hi with ⟨q,_,_,e2⟩|⟨e1,_⟩
   .omega
   .exact e1 k hk ay
 refine⟨⟨⟨hl,λk hk=>?_⟩,λk hk hn=>?_,λk hk hn j hj e=>?_⟩,λi hi hn=>?_,?_,?_⟩
 .by_cases hn:nth P k=-1
  .exact .inl hn
  .obtain⟨q,hq,e,_⟩:=at_ k ab hn;exact .inr ⟨ab,ab⟩
 .obtain⟨q,hq,e,_,ha⟩:=at_ k ab hn;rw[e,jr];exact ha.2.1
 .obtain⟨q,hq,e1,e2,_⟩:=at_ k ab hn;obtain⟨q',bc,f1,f2,_⟩:=at_ j ab (by rw[e];exact hn)
  have:q=q':=ab
  subst this;omega
 .obtain⟨q,hq,e,_,ha⟩:=at_ i hi hn;rw[e,jr];exact ha.2.2
 .rw[m.ct];congr 1
  refine km _ λi hi=>?_
  rw[yL];have:=oc i hi;simp only[decide_eq_true_eq,qo,decide_eq_false_iff_not];exact this.symm
 .obtain⟨S,X,c1,c2,c3⟩:=m.cl;refine⟨S,X,c2,c1.n,λi hi e=>c3 i hi ?_,λk=>(nth tk k).toNat,λk hk hs=>?_⟩
  .have:=oc i hi;have h1:=m.o1 i;apply ry;intro hz;exact this.2 ab e
  .obtain⟨h1,h2⟩:=c1.s k hk hs;have h3:=lt k hk;refine⟨by show (nth tk k).toNat<_;omega,h2,?_⟩
   rcases val (nth tk k).toNat ab with ⟨q,hq,e1,e2⟩|⟨e1,_⟩
   .have:q=k:=inj q k hq hk ab ab;subst this;exact e2
   .exact absurd (show nth tk k=((nth tk k).toNat:Int) by omega) (e1 k hk)
theorem tl(x:Rd)(most:Int)(q:List Int)(hq:eG x q)(hw:∀i,i<x.os.length->nth q i≠-1->nth (nth x.wt i) (nth q i).toNat<=most):((cn (λi=>!(decide (nth q i=-1))) x.os.length:Nat):Int)<=(ba x most).2:=by
 have m:=kH x most;generalize (ba x most).1=P at m;generalize (ba x most).2=cnt at *;obtain⟨S,X,x1,x2,x3,g,hg⟩:=m.cl;rw[m.ct];have bb:=hq.len
 have qk:∀i,i<x.os.length->nth q i≠-1->∃k,k<x.bD.length/\nth q i=(k:Int)/\adm x most i k:=λi hi hn=>by
  have h1:=(hq.at_ i ab).resolve_left hn;exact⟨(nth q i).toNat,ab,ab,ab,hq.fit i ab hn,hw i hi hn⟩
 have dS:∀k,Decidable (S k):=λk=>Classical.propDecidable _
 have dX:∀k,Decidable (X k):=λk=>Classical.propDecidable _
 rw[lU (λi=>!(decide (nth q i=-1))) (λi=>decide (X i)),lU (λi=>!(decide (nth P i=-1))) (λi=>decide (X i))]
 have s1:cn (λi=>!(decide (nth q i=-1))&&decide (X i)) x.os.length<=cn (λk=>decide (S k)) x.bD.length:=by
  refine lV _ (λi=>(nth q i).toNat) _ _ (λi hi hf=>?_) (λi l hi hl a5 hh e=>?_)
  .simp only[eY,qo,decide_eq_true_eq,decide_eq_false_iff_not] at hf;obtain⟨k,hk,e,ha⟩:=qk i hi hf.1;rw[e,jr];exact⟨hk,decide_eq_true (x2 i k hf.2 ha)⟩
  .simp only[eY,qo,decide_eq_true_eq,decide_eq_false_iff_not] at a5 hh;obtain⟨k,_,e1,_⟩:=qk i hi a5.1;obtain⟨k',_,e2,_⟩:=qk l hl hh.1
   have e3:nth q i=nth q l:=by
    simp only[e1,e2,jr] at e ⊢;omega
   rcases DG i l with h|h|h
   .exact absurd e3 (hq.once l ab hh.1 i h)
   .exact h
   .exact absurd e3.symm (hq.once i ab a5.1 l h)
 have s2:cn (λk=>decide (S k)) x.bD.length<=cn (λi=>!(decide (nth P i=-1))&&decide (X i)) x.os.length:=by
  refine lV _ g _ _ (λk hk hf=>?_) (λk l hk hl aw hh e=>?_)
  .obtain⟨h1,h2,h3⟩:=hg k hk (of_decide_eq_true hf);refine⟨h1,?_⟩;rw[h3];simp only[eY,qo,decide_eq_true_eq,decide_eq_false_iff_not];exact⟨ab,h2⟩
  .have h1:=(hg k hk (of_decide_eq_true aw)).2.2;have h2:=(hg l hl (of_decide_eq_true hh)).2.2;rw[e] at h1;omega
 have s3:cn (λi=>!(decide (nth q i=-1)) && !decide (X i)) x.os.length<=cn (λi=>!(decide (nth P i=-1)) && !decide (X i)) x.os.length:=by
  refine mO _ λi hi hf=>?_
  simp only[eY,qo,decide_eq_false_iff_not] at hf ⊢;exact⟨λe=>hf.2 (x3 i hi e),hf.2⟩
 omega
noncomputable instance zg4:bI:=LD
noncomputable instance zg5:bI:=LD
noncomputable instance zg7:bI:=LD
theorem zei(r:Tw.RND)(h:ceR r≠0):bX Tz.prog 31 [Tw.dT r] (.tup [.int .i64 0,.int .i64 (ceR r)]) true:=by
 have c1:=pW r;rw[HG r h] at c1;generalize ceR r=e at *;unfold Tw.dT at *;generalize r.jY=p1 at *;generalize r.osP=p2 at *;generalize r.lW=p3 at *;generalize r.zsP=p4 at *;refine rcK Tz.func31 ?_;simp only[Tryz.results31,Tryz.ntmps31]
 repeat' first|(with_reducible first|apply bH|apply bT|apply bG|apply bQ|refine And.intro ?_ ?_|intro _)|simp[*,h]|(refine bN (c1) ?_ ?_;· simp[*];done)
 all_goals first|omega
theorem zej(r:Tw.RND)(h:ceR r=0):bX Tz.prog 31 [Tw.dT r] (.tup [.int .i64 (ba (dg r) 100000).2,.int .i64 0]) true:=by
 have c1:=pW r;rw[xF r h] at c1;have c2:=Ao (dg r) (kB r h) 100000;generalize (ba (dg r) 100000).1=P at *;generalize (ba (dg r) 100000).2=C at *;generalize dg r=x at *;unfold Tw.dT Rd.pv at *;generalize r.jY=p1 at *;generalize r.osP=p2 at *;generalize r.lW=p3 at *;generalize r.zsP=p4 at *;clear h;refine rcK Tz.func31 ?_;simp only[Tryz.results31,Tryz.ntmps31]
 repeat' first|(with_reducible first|apply bH|apply b7|apply bT|apply bG|apply bQ|refine And.intro ?_ ?_|intro _)|simp[*]|(refine bN (c1) ?_ ?_;· simp[*];done)|(refine bN (c2) ?_ ?_;· simp[*];done)
 all_goals first|omega
noncomputable instance instLDF11:bI:=LD
theorem tu(x:Rd)(plan:List Int):∀k,bB x plan k=cE x.wt plan k
 |0=>rfl
 |k+1=>by unfold bB cE;rw[tu x plan k]
theorem tv(x:Rd)(plan:List Int):eF x plan=cq x.wt plan:=tu x plan _
theorem EX(x:Rd)(plan:List Int)(B:Int)(hB:0<=B)(h:∀i,i<plan.length->nth plan i≠-1->nth (nth x.wt i) (nth plan i).toNat<=B):∀k,k<=plan.length->bB x plan k<=B
 |0,_=>hB
 |k+1,hk=>by
  have ih:=EX x plan B hB h k ab;unfold bB;split
  .exact ih
  .have:=h k ab ‹_›
   split<;>assumption
theorem E1(x:Rd)(plan:List Int):∀k,∀i,i<k->nth plan i≠-1->nth (nth x.wt i) (nth plan i).toNat<=bB x plan k
 |k+1,i,hi,hn=>by
  unfold bB
  rcases T3.1 hi with h|rfl
  .have:=E1 x plan k i h hn;split
   .exact this
   .split<;>omega
  .rw[bP hn]
   split<;>omega
theorem E2(x:Rd)(ok:bW x)(plan:List Int)(hp:PlanIn x plan):∀k,k<=plan.length->bB x plan k∈cL x k
 |0,_=>oS.2 rfl
 |k+1,hk=>by
  have ih:=E2 x ok plan hp k ab;unfold bB cL;have hl:=hp.len;split
  .exact vu _ ih
  .split
   .refine DV _ (iu ?_);have:=(hp.at_ k ab).resolve_left ‹_›;rw[ok.wr k ab];omega
   .exact vu _ ih
theorem E3(x:Rd)(most:Int):∀l:List Int,l.Pairwise (·<=·)->∀w,w∈l->(ba x w).2=most->∃w0,w0<=w/\(ba x w0).2=most/\er x most l=(eF x (ba x w0).1,(ba x w0).1)
 |a::l,hl,w,hw,h=>by
  obtain⟨h1,h2⟩:=DN.1 hl;unfold er;by_cases ha:(ba x a).2=most
  .rw[b8 ha];refine⟨a,?_,ha,rfl⟩
   rcases dM.1 hw with rfl|hw
   .exact Int.le_refl _
   .exact h1 _ hw
  .rw[bP ha]
   rcases dM.1 hw with rfl|hw
   .exact absurd h ha
   .exact E3 x most l h2 w hw h
theorem zek(x:Rd)(ok:bW x)(w:Int):(ba x w).2<=(ba x 100000).2:=by
 have m:=kH x w;rw[m.ct]
 refine tl x 100000 _ m.ok λi hi hn=>?_
 have hl:=m.ok.len;have:=(m.ok.at_ i ab).resolve_left hn;exact (ok.wn i hi (nth (ba x w).1 i).toNat ab).2
theorem zel(x:Rd):(eW x).Pairwise (·<=·):=by
 refine List.Pairwise.sublist (tS _) ?_;have:=List.pairwise_mergeSort (le:=λa b:Int=>decide (a<=b)) (λa b c h1 h2=>by simp at h1 h2 ⊢;omega) (λa b=>ar) (cM x)
 exact this.imp λh=>by simpa using h
theorem F2(x:Rd)(ok:bW x)(q:List Int)(hq:eG x q)(hc:((cn (λi=>!(decide (nth q i=-1))) x.os.length:Nat):Int)=(ba x 100000).2):∃w0,w0<=eF x q/\(ba x w0).2=(ba x 100000).2/\kG x=(eF x (ba x w0).1,(ba x w0).1):=by
 have hl:=hq.len;refine E3 x _ (eW x) (zel x) (eF x q) ?_ ?_
 .refine MO _ _ (List.mem_mergeSort.2 ?_);have:=E2 x ok q hq.toPlanIn q.length (bS _);rw[hl] at this;unfold eF cM;rw[hl];exact this
 .refine Int.le_antisymm (zek x ok _) ?_;rw[<-hc]
  exact tl x _ q hq λi hi hn=>E1 x q q.length i ab hn
theorem zem(x:Rd)(ok:bW x):∃P,kG x=(cq x.wt P,P)/\eG x P/\((cn (λi=>!(decide (nth P i=-1))) x.os.length:Nat):Int)=(ba x 100000).2/\∀q,eG x q->((cn (λi=>!(decide (nth q i=-1))) x.os.length:Nat):Int)=(ba x 100000).2->cq x.wt P<=cq x.wt q:=by
 have m0:=kH x 100000;obtain⟨w0,_,h2,h3⟩:=F2 x ok _ m0.ok m0.ct.symm;have m:=kH x w0;refine⟨(ba x w0).1,by rw[h3,tv],m.ok,by rw[<-m.ct,h2],λq hq hc=>?_⟩;obtain⟨w1,g1,g2,g3⟩:=F2 x ok q hq hc
 have e:(ba x w0).1=(ba x w1).1:=by rw[h3] at g3;exact (dq g3).2
 rw[e,<-tv,<-tv];have m1:=kH x w1;have hl:=m1.ok.len;have hb:=(lA x ok q hq.toPlanIn q.length (bS _)).1;exact EX x _ (eF x q) hb (λi hi hn=>Int.le_trans (m1.wt i ab hn) g1) _ (bS _)
theorem ml(plan:List Int):∀k,(cC plan k).length=cn (λi=>!(decide (nth plan i=-1))) k
 |0=>rfl
 |k+1=>by
  unfold cC cn;rw[<-ml plan k]
  by_cases h:nth plan k=-1<;>simp[h]
theorem zen(x:Rd)(ok:bW x)(p:List Int)(h:p.length=x.os.length):eB x.os 0 p=bZ p:=by
 unfold eB bZ eZ;rw[ml];congr 1
 refine km _ λi hi=>?_
 rw[decide_eq_true (ok.pr i ab).1,iZ]
theorem F3(r:Tw.RND)(he:ceR r=0):b9 r 0=(ba (dg r) 100000).2:=by
 have ok:=kB r he;have m:=kH (dg r) 100000
 have hs:∀p,p∈bu r->eB r.os 0 p=((cn (λi=>!(decide (nth p i=-1))) (dg r).os.length:Nat):Int):=λp hp=>by
  have hl:=((fz r p).2 hp).len;have:=zen (dg r) ok p hl;unfold bZ eZ at this;rw[ml,hl] at this;exact this
 obtain⟨h1,h2,h3⟩:=C4 (eB r.os 0) (bu r) 0
 change (b9 r 0=0\/∃p,p∈bu r/\b9 r 0=eB r.os 0 p) at h1
 have hP:=(fz r _).1 m.ok;have h4:eB r.os 0 (ba (dg r) 100000).1<=b9 r 0:=h3 _ hP;rw[hs _ hP,<-m.ct] at h4;have h5:=m.ct
 rcases h1 with h1|⟨p,hp,h1⟩
 .omega
 .have hq:=(fz r p).2 hp
  have:=tl (dg r) 100000 p hq λi hi hn=>by
   have hl:=hq.len;have:=(hq.at_ i ab).resolve_left hn;exact (ok.wn i hi (nth p i).toNat ab).2
  rw[hs p hp] at h1;omega
theorem F4(s g:List Int->Int)(m:Int):∀(l:List (List Int))(a:Int),(∀p,p∈l->0<=g p)->(llF s g m l a=a\/∃p,p∈l/\s p=m/\llF s g m l a=g p)/\(0<=a->0<=llF s g m l a/\llF s g m l a<=a)/\∀p,p∈l->s p=m->0<=llF s g m l a/\llF s g m l a<=g p
 |[],a,_=>⟨.inl rfl,λh=>⟨h,Int.le_refl _⟩,λp hp=>absurd hp ae⟩
 |q::l,a,hg=>by
  obtain⟨h1,h2,h3⟩:=F4 s g m l (if s q=m/\(a<0\/g q<a) then g q else a) λp hp=>hg p (eH _ hp)
  have hq:=hg q (gF);unfold llF;generalize hR:llF s g m l (if s q=m/\(a<0\/g q<a) then g q else a)=R at *;clear hR;by_cases hc:s q=m/\(a<0\/g q<a)
  .rw[b8 hc] at h1 h2;have h4:=h2 hq;refine⟨.inr ?_,λh0=>ab,λp hp hs=>?_⟩
   .rcases h1 with h1|⟨p,hp,h5,h6⟩
    .exact⟨q,gF,hc.1,h1⟩
    .exact⟨p,eH _ hp,h5,h6⟩
   .rcases dM.1 hp with rfl|hp
    .exact h4
    .exact h3 p hp hs
  .rw[bP hc] at h1 h2;refine⟨?_,h2,λp hp hs=>?_⟩
   .rcases h1 with h1|⟨p,hp,h5,h6⟩
    .exact .inl h1
    .exact .inr ⟨p,eH _ hp,h5,h6⟩
   .rcases dM.1 hp with rfl|hp
    .have h0:0<=a/\a<=g p:=by
      have:=λh=>hc ⟨hs,h⟩
      omega
     have:=h2 h0.1;omega
    .exact h3 p hp hs
theorem zeo(r:Tw.RND)(he:ceR r=0)(P:List Int)(hP:eG (dg r) P)(hc:((cn (λi=>!(decide (nth P i=-1))) (dg r).os.length:Nat):Int)=(ba (dg r) 100000).2)(hm:∀q,eG (dg r) q->((cn (λi=>!(decide (nth q i=-1))) (dg r).os.length:Nat):Int)=(ba (dg r) 100000).2->cq r.wt P<=cq r.wt q):llS r=cq r.wt P/\bZ P=b9 r 0:=by
 have ok:=kB r he
 have hs:∀p,eG (dg r) p->bZ p=((cn (λi=>!(decide (nth p i=-1))) (dg r).os.length:Nat):Int):=λp hp=>by
  unfold bZ eZ;rw[ml,hp.len]
 have hM:=F3 r he
 have hPs:bZ P=b9 r 0:=by rw[hs P hP,hc,hM]
 refine⟨?_,hPs⟩
 obtain⟨h1,_,h3⟩:=F4 bZ (cq r.wt) (b9 r 0) (bu r) (-1) λp hp=>by
  have hp:=(fz r p).2 hp;have:=(lA (dg r) ok p hp.toPlanIn p.length (bS _)).1;rw[tu] at this;exact this
 obtain⟨h4,h5⟩:=h3 P ((fz r P).1 hP) hPs
 change (llS r=-1\/_) at h1
 change 0<=llS r at h4
 change llS r<=_ at h5
 rcases h1 with h1|⟨p,hp,g1,g2⟩
 .omega
 .have hp:=(fz r p).2 hp;have:=hm p hp (by rw[<-hs p hp,g1,hM])
  change llS r=_ at g2
  omega
noncomputable instance instLDF12:bI:=LD
theorem zep(r:Tw.RND)(h:ceR r≠0):bX Tz.prog 32 [Tw.dT r] (.tup [.int .i64 0,.sl 0 [],.int .i64 (ceR r)]) false:=by
 have c1:=pW r;rw[HG r h] at c1;generalize ceR r=e at *;unfold Tw.dT at *;generalize r.jY=p1 at *;generalize r.osP=p2 at *;generalize r.lW=p3 at *;generalize r.zsP=p4 at *;refine rcK Tz.func32 ?_;simp only[Tryz.results32,Tryz.ntmps32]
 repeat' first|(with_reducible first|apply bH|apply bT|apply bG|apply bQ|refine And.intro ?_ ?_|intro _)|simp[*,h]|(refine bN (c1) ?_ ?_;· simp[*];done)
 all_goals first|omega
theorem zeq(bD:List Car)(os:List Ord)(wt:List (List Int))(zs:List Par):Dk Tz.prog Tryz.f6 (Tryz.f6.body.getD .skip) [.agg [.sl bD.length (dG bD),.sl os.length (dE os),.sl wt.length (dU wt),.sl zs.length (dI zs)]] (.bool true) true:=by
 have ca:=QE;have cf:=TL bD os wt zs;refine GV (gG aj) ?_;have hb:Tryz.f6.body=some _:=rfl;rw[hb];clear hb;simp only[oR,Tryz.ntmps6,Tryz.results6]
 cases hw:tq bD os wt zs with
 |false=>
  rw[hw] at cf;clear hw
  repeat' first|(with_reducible first|apply bH|apply b7|apply bT|apply bG|apply bQ|refine And.intro ?_ ?_|intro _)|simp[*]|(refine bN (ca) ?_ ?_;· simp[*];done)|(refine bN (cf) ?_ ?_;· simp[*];done)
  all_goals first|omega
 |true=>
  rw[hw] at cf;obtain⟨⟨l1,k1⟩,⟨l2,k2⟩,l3,l4,l5,l6,l7⟩:=HW hw
  have c1:bX Tz.prog 20 [.agg [.sl bD.length (dG bD),.sl os.length (dE os),.sl wt.length (dU wt),.sl zs.length (dI zs)]] (.int .i64 (ceR (JC bD os wt zs hw))) true:=
   zd2 bD os wt zs ab ab ab ab (λx hx=>by have:=l5 x hx;omega) (λx hx=>by have:=l6 x hx;omega) (λx hx=>by have:=l7 x hx;omega)
  obtain⟨r,hr⟩:∃r,r=JC bD os wt zs hw:=⟨_,rfl⟩
  have ev:Tw.dT r=.agg [.sl bD.length (dG bD),.sl os.length (dE os),.sl wt.length (dU wt),.sl zs.length (dI zs)]:=by rw[hr];rfl
  have cc:=Qh r;rw[<-hr] at c1;rw[ev] at cc;by_cases he:ceR r=0
  .have ok:=kB r he;have lo8:r.os.length<=8:=ok.lo;have cm:=zej r he;have cl:=zdu r he;have rm:=D8 r he;have rl:=zef r he;obtain⟨P,h1,h2,h3,h4⟩:=zem (dg r) ok;obtain⟨h5,h6⟩:=zeo r he P h2 h3 h4;have hl:=h2.len;have b5:P.length=r.os.length:=hl;have cp:=zd9 r ok P ab;have cs:=C9 P ab;have cg:=D3 r.bD r.os r.wt r.zs P (C6 r ok P h2.toPlanIn);rw[zdv _ _ h2] at cp;rw[h1,<-hl] at cl;rw[h5] at rl;rw[F3 r he] at rm h6;unfold bZ at h6;have ew:(dg r).wt=r.wt:=rfl;rw[ew] at cl;rw[he] at c1
   change bX Tz.prog _ [Tw.dT r,_] _ _ at cg
   rw[ev] at cm cl rm rl cp cg;dsimp only at cl cp;generalize (ba (dg r) 100000).2=M at *;generalize cq r.wt P=G at *;generalize eZ P=S at *;clear ok lo8 h1 h2 h3 h4 h5 hl b5 ew he ev l1 l2 l3 l4 l5 l6 l7 k1 k2 hr hw
   repeat' first|(with_reducible first|apply bH|apply b7|apply bT|apply bG|apply bQ|refine And.intro ?_ ?_|intro _)|simp[*,h6]|(refine bN (ca) ?_ ?_;· simp[*];done)|(refine bN (cf) ?_ ?_;· simp[*];done)|(refine bN (cc) ?_ ?_;· simp[*];done)|(refine bN (c1) ?_ ?_;· simp[*];done)|(refine bN (cm) ?_ ?_;· simp[*];done)|(refine bN (cl) ?_ ?_;· simp[*];done)|(refine bN (rm) ?_ ?_;· simp[*];done)|(refine bN (rl) ?_ ?_;· simp[*];done)|(refine bN (cp) ?_ ?_;· simp[*];done)|(refine bN (cs) ?_ ?_;· simp[*];done)|(refine bN (cg) ?_ ?_;· simp[*];done)
   all_goals first|omega|assumption
  .have cm:=zei r he;have cl:=zep r he;rw[ev] at cm cl;clear ev l1 l2 l3 l4 l5 l6 l7 k1 k2 hr hw;generalize ceR r=e at *
   repeat' first|(with_reducible first|apply bH|apply b7|apply bT|apply bG|apply bQ|refine And.intro ?_ ?_|intro _)|simp[*,he]|(refine bN (ca) ?_ ?_;· simp[*];done)|(refine bN (cf) ?_ ?_;· simp[*];done)|(refine bN (cc) ?_ ?_;· simp[*];done)|(refine bN (c1) ?_ ?_;· simp[*];done)|(refine bN (cm) ?_ ?_;· simp[*];done)|(refine bN (cl) ?_ ?_;· simp[*];done)
   all_goals first|omega
end Go.Proofs.YthpkmilhiganjaaGreat
