/- Lemmas. -/
import Derived.Test.YthpkmilhiganjaaGreatPLe
import Derived.ProofKit
import Derived.Carry
import Derived.ChangeSame
import Derived.ChangeArms
import Derived.OpenShut
import Derived.Shelf.Slices.Cells
set_option linter.all false
set_option maxHeartbeats 32000000
set_option maxRecDepth 100000
namespace Go.Fi
open Go Go.RowKit
variable[bI]
variable{fk:Fk}
def ra(D:List Nat):bE->bE
 |[]=>[]
 |(k,v)::r=>if k∈D then (k,v)::ra D r else ra D r
omit [bI] in
theorem xy{D:List Nat}:∀{h:bE}{id:Nat}{c:List AV},cJ (ra D h) id=some c->(id,c)∈h/\id∈D
 |[],id,c,e=>by cases e
 |(k,v)::r,id,c,e=>by
  simp only[ra] at e;split at e
  .rename_i hk;simp only[cJ] at e;split at e
   .simp_all
   .obtain⟨h1,h2⟩:=xy e;simp_all
  .obtain⟨h1,h2⟩:=xy e;simp_all
def AvF(h:bE)(x y:AV):Prop:=
 match y with
 |.w own false p=>frz h 6 x=some p/\(own=true->fO h 6 x=true)
 |_=>False
def yf(n n':Nat)(x y:AV):Prop:=
 match x,y with
 |.w _ true (.sl 0 []),.msl id 0 _ 0 0=>n<=id/\id<n'
 |_,_=>False
def pZ(D:List Nat)(h:bE)(n n':Nat)(x y:AV):Prop:=(sY x y/\y.lt n'=true)\/AvF (ra D h) x y\/yf n n' x y
def j0(D:List Nat)(h:bE)(n n':Nat):List AV->List AV->Prop
 |[],[]=>True
 |x::a,y::b=>pZ D h n n' x y/\j0 D h n n' a b
 |_,_=>False
def va(D:List Nat)(h:bE)(n n':Nat)(env:Env):Env->Prop
 |[]=>True
 |(t,v)::r=>pZ D h n n' (get env t) v/\va D h n n' env r
def jF(D:List Nat)(h:bE)(n n':Nat)(i:Nat)(c:List AV):Prop:=
 match cJ h i with
 |some c0=>i<n'/\¬i∈D/\j0 D h n n' c0 c
 |none=>n<=i/\i<n'/\c=[]
def nS(D:List Nat)(h:bE)(n n':Nat):bE->Prop
 |[]=>True
 |(i,c)::r=>jF D h n n' i c/\cJ r i=none/\nS D h n n' r
section
omit [bI]
theorem uC{D:List Nat}{h:bE}{n n':Nat}:∀{a b:List AV},j0 D h n n' a b->a.length=b.length/\∀(j:Nat)(y:AV),b[j]?=some y->∃x,a[j]?=some x/\pZ D h n n' x y
 |[],[],_=>⟨rfl,λj y h=>by simp at h⟩
 |x::a,y::b,hc=>by
  obtain⟨h1,h2⟩:=hc;obtain⟨h3,h4⟩:=uC h2
  grind
 |[],_::_,hc=>hc.elim
 |_::_,[],hc=>hc.elim
theorem xz{D:List Nat}{h:bE}{n n':Nat}(o f:Bool):∀l:List PV,j0 D h n n' (l.map (.w o f)) (l.map (.w o f))
 |[]=>trivial
 |p::r=>⟨.inl ⟨⟨λh=>h,λh=>h,.inl rfl⟩,rfl⟩,xz o f r⟩
theorem He{D:List Nat}{h:bE}{n n':Nat}:∀{env' env:Env},va D h n n' env env'->∀t,pZ D h n n' (get env t) (get env' t)\/get env' t=.w false false .undef
 |[],env,_,t=>.inr rfl
 |(k,v)::r,env,hh,t=>by
  obtain⟨h1,h2⟩:=hh;simp only[get];split
  .simp_all
  .exact He h2 t
theorem pf{D:List Nat}{h:bE}{n n':Nat}:∀{h':bE},nS D h n n' h'->∀i c,(i,c)∈h'->jF D h n n' i c
 |[],_,i,c,hin=>by cases hin
 |(k,v)::r,hh,i,c,hin=>by
  obtain⟨h1,h2,h3⟩:=hh
  rcases dM.1 hin with e|e
  .simp_all
  .exact pf h3 i c e
theorem Hf{D:List Nat}{h:bE}{n n':Nat}:∀{h':bE},nS D h n n' h'->h'.Pairwise λp q=>p.1≠q.1
 |[],_=>List.Pairwise.nil
 |(k,v)::r,hh=>by
  obtain⟨h1,h2,h3⟩:=hh;exact DN.2 ⟨λq hq e=>BE h2 q hq e.symm,Hf h3⟩
theorem Hg{D:List Nat}{h:bE}{n n':Nat}{c0 c:List AV}(hc:j0 D h n n' c0 c)(hm:jS c0=true):jS c=true/\∀l,fN c=some l->fN c0=some l:=by
 obtain⟨hl,hr⟩:=uC hc;have h1:=zL hm
 match c0,c,h1,hl with
 |[x],[y],_,_=>
  obtain⟨x',hx,d3⟩:=hr 0 y rfl;simp at hx;subst hx
  cases x with
  |w o f p=>
   rcases d3 with ⟨h2,_⟩|h2|h2
   .cases y with
    |w o' f' p'=>
     obtain⟨_,_,h3⟩:=h2
     rcases h3 with rfl|⟨rfl,_⟩
     .refine⟨?_,λl hl=>?_⟩
      .cases p'<;>simp_all[jS]
      .cases p'<;>simp_all[fN]
     .exact⟨rfl,λl hl=>aE⟩
    |_=>cases h2
   .cases y with
    |w o' f' p'=>
     cases f' with
     |true=>cases h2
     |false=>
      obtain⟨h3,_⟩:=h2;simp only[frz,db] at h3;subst h3;refine⟨?_,λl hl=>?_⟩
      .cases p<;>simp_all[jS]
      .cases p<;>simp_all[fN]
    |_=>cases h2
   .cases p<;>simp[jS] at hm<;>(unfold yf at h2;split at h2<;>first|exact h2.elim|simp_all)
  |_=>simp[jS] at hm
theorem r5{B:Base}{m:Mm}{w:World}{H h:bE}{G':Nat->Prop}{L:Nat->Prop}(hs:cX B H m w)(hL:L=LB m H)(h9:∀id cs,cJ h id=some cs->(id,cs)∈H)(own:Bool)(hG1:∀id cs b C,cJ h id=some cs->m.addr id cs.length=some (b,C)->B.n<=b->G' b)(hG2:∀b,Good B L own b->G' b)(hG3:own=true->∀b,Good B L true b->G' b):∀(d:Nat)(x:AV)(p:PV)(v:Value),frz h d x=some p->(own=true->fO h d x=true)->bJ B L m w x v->Rep G' w p v
 |d,.w o f q,p,v,hf,a4,hr=>by
  have:q=p:=by cases d<;>(simp[frz] at hf;exact hf)
  subst this
  cases hr with
  |w hr _=>
   cases bm:own with
   |false=>exact hr.imp λb hg=>hG2 b ⟨hg.1,(λh=>by rw[bm] at h;cases h),hg.2.2⟩
   |true=>
    have h1:=a4 bm
    have h2:(o || flat q)=true:=by cases d<;>exact h1
    cases o with
    |true=>exact hr.imp λb hg=>hG3 bm b hg
    |false=>exact wA ak hr
 |0,.ptr ..,_,_,hf,_,_=>by trivial
 |0,.msl ..,_,_,hf,_,_=>by trivial
 |0,.agg _,_,_,hf,_,_=>by trivial
 |0,.tup _,_,_,hf,_,_=>by trivial
 |0,.fn _ _,_,_,hf,_,_=>by trivial
 |0,.mp _,_,_,hf,_,_=>by trivial
 |_+1,.mp _,_,_,hf,_,_=>by trivial
 |d+1,.ptr id ver off,p,v,hf,a4,hr=>by
  simp only[frz] at hf;split at hf
  .rename_i cells hg;split at hf
   .rename_i b7
    cases hm:cells.mapM (frz h d) with
    |none=>grind
    |some r=>
     simp only[hm,eh,db] at hf;subst hf;obtain⟨h1,h2⟩:=kD hm;obtain⟨b,C,rfl,hd,hvC,ha⟩:=hr.pF;rw[<-b7] at ha hvC;obtain⟨cs,e,hh,hC,hle,hbB,h8⟩:=hs.read (h9 id cells hg) hd ha hvC.2
     have:=Rep.ip (G:=G') (w:=w) (o:=off) (b:=b) (off:=0) (cells:=r) (λj=>cs.getD j undef) (λj hj=>by
      have:j<cs.size:=ab
      rw[eI,oe hh];simp[this]) (λ_=>hG1 id cells b C hg ha hbB) (λj q hq=>by
      obtain⟨x,hx,aa⟩:=h2 j q hq
      have hj:j<cs.size:=by have:=(eX.1 hx).1;omega
      exact r5 hs hL h9 own hG1 hG2 hG3 d x q _ aa (λe=>by have:=a4 e;simp only[fO,hg] at this;grind) (by rw[hL];exact h8 j x _ hx (by simp[hj])))
     rw[eI] at this;exact this
   .cases hf
  .cases hf
 |d+1,.msl id ver sz off k,p,v,hf,a4,hr=>by
  simp only[frz] at hf;split at hf
  .rename_i cells hg;split at hf
   .rename_i b7
    cases hm:cells.mapM (frz h d) with
    |none=>grind
    |some r=>
     simp only[hm,eh,db,vX] at hf;subst hf;obtain⟨h1,h2⟩:=kD hm;obtain⟨a0,cap,rfl,hk,hd,_,h3,h4⟩:=hr.mJ;rw[<-b7] at h3 h4
     cases ha:m.addr id cells.length with
     |none=>
      obtain⟨rfl,h5⟩:=h3 ha;have cu:r=[]:=ja ab;subst cu
      have:k=0:=ab
      subst this
      cases a0 with
      |none=>simpa using Rep.slnil
      |some a1=>simpa using Rep.slz (bS _)
     |some bc=>
      obtain⟨b,C⟩:=bc;obtain⟨h5,h6,h7⟩:=h4 b C ha;obtain⟨cs,e,hh,hC,hle,hbB,h8⟩:=hs.read (h9 id cells hg) hd ha ab
      cases hL2:(r.drop off).take (k*sz) with
      |nil=>
       cases a0 with
       |none=>
        have ay:cap=0:=by
         simp_all
        subst ay
        have:k=0:=ab
        subst this;exact .slnil
       |some a1=>exact .slz hk
      |cons y ys=>
       have ay:0<cap:=by
        rcases ll cap with h|h
        .have:k=0:=ab
         rw[this] at hL2;simp at hL2
        .exact h
       rw[h5 ay,<-hL2]
       have a6:∀j,j<((r.drop off).take (k*sz)).length->off+j<cs.size/\j<k*sz:=by
        grind
       refine .sl (λj=>cs.getD (off+j) undef) hk (λj hj=>?_) (λ_=>hG1 id cells b C hg ha hbB) (λj q hq=>?_)
       .rw[oe hh];simp_all
       .have hj:=(eX.1 hq).1;rw[j5,b8 (a6 j hj).2,yB] at hq;obtain⟨x,hx,aa⟩:=h2 (off+j) q hq;exact r5 hs hL h9 own hG1 hG2 hG3 d x q _ aa (λe=>by have:=a4 e;simp only[fO,hg] at this;grind) (by rw[hL];exact h8 (off+j) x _ hx al)
   .cases hf
  .cases hf
 |d+1,.agg cs,p,v,hf,a4,hr=>by
  simp only[frz] at hf
  cases hm:cs.mapM (frz h d) with
  |none=>grind
  |some r=>
   simp only[hm,eh,db] at hf;subst hf;obtain⟨h1,h2⟩:=kD hm
   cases hr with
   |agg hl h8=>exact .agg ab (λj q u hq hu=>by
     obtain⟨x,hx,aa⟩:=h2 j q hq
     exact r5 hs hL h9 own hG1 hG2 hG3 d x q u aa (λe=>by have:=a4 e;simp only[fO] at this;grind) (h8 j x u hx hu))
 |d+1,.tup cs,p,v,hf,a4,hr=>by
  simp only[frz] at hf
  cases hm:cs.mapM (frz h d) with
  |none=>grind
  |some r=>
   simp only[hm,eh,db] at hf;subst hf;obtain⟨h1,h2⟩:=kD hm
   cases hr with
   |tup hl h8=>exact .tup ab (λj q u hq hu=>by
     obtain⟨x,hx,aa⟩:=h2 j q hq
     exact r5 hs hL h9 own hG1 hG2 hG3 d x q u aa (λe=>by have:=a4 e;simp only[fO] at this;grind) (h8 j x u hx hu))
 |d+1,.fn f cs,p,v,hf,a4,hr=>by
  simp only[frz] at hf
  cases hm:cs.mapM (frz h d) with
  |none=>grind
  |some r=>
   simp only[hm,eh,db] at hf;subst hf;obtain⟨h1,h2⟩:=kD hm
   cases hr with
   |fn hl h8=>exact .fn ab (λj q u hq hu=>by
     obtain⟨x,hx,aa⟩:=h2 j q hq
     exact r5 hs hL h9 own hG1 hG2 hG3 d x q u aa (λe=>by have:=a4 e;simp only[fO] at this;grind) (h8 j x u hx hu))
end
def Mm.cut(m:Mm)(n n':Nat):Mm:=⟨λid ver=>if n<=id then none else m.addr id ver,λid=>if n<=id then 0 else m.top id,λi=>i<n'⟩
omit [bI] in
theorem bJ.cut{B:Base}{L L':Nat->Prop}{m:Mm}{w:World}{x:AV}{v:Value}(h:bJ B L m w x v){n n':Nat}(hn:∀i,m.dom i->i<n)(hl:x.lt n'=true)(hL:∀b,L' b->L b):bJ B L' (m.cut n n') w x v:=by
 induction h with
 |w hr hf=>exact .w (hr.imp λb hg=>⟨λhb=>hg.1 (hL b hb),hg.2⟩) hf
 |ptr hd ht ha hC=>
  have:=hn _ hd;exact .ptr aY (by simp only[Mm.cut];rw[bP ab];exact ht) (by simp only[Mm.cut];rw[bP ab];exact ha) hC
 |mp hd ht ha=>
  have:=hn _ hd;exact .mp aY (by simp only[Mm.cut];rw[bP ab];exact ht) (by simp only[Mm.cut];rw[bP ab];exact ha)
 |msl hd ht hk h0 h1=>
  have:=hn _ hd;exact .msl aY (by simp only[Mm.cut];rw[bP ab];exact ht) hk (by simp only[Mm.cut];rw[bP ab];exact h0) (by simp only[Mm.cut];rw[bP ab];exact h1)
 |agg hlen _ ih=>exact .agg hlen (λj p v hp hv=>ih j p v hp hv (o6 aE j p hp))
 |tup hlen _ ih=>exact .tup hlen (λj p v hp hv=>ih j p v hp hv (o6 aE j p hp))
 |fn hlen _ ih=>exact .fn hlen (λj p v hp hv=>ih j p v hp hv (o6 aE j p hp))
theorem Hh(D:List Nat){env env':Env}{h h':bE}{n n' nt:Nat}(h1:va D h n n' env env')(h2:nS D h n n' h')(hk:fk.k<=n'){B:Base}{w0:Ctx fk}{a:Act}{w:World}{m:Mm}(hs:Sim B w0 ⟨env,h,n,nt⟩ a w m):∃m',Sim B w0 ⟨env',h',n',nt⟩ a w m'/\∀x y v,pZ D h n n' x y->bJ B (LB m h) m w x v->bJ B (LB m' h') m' w y v:=by
 have bv:∀i,m.dom i->i<n:=λi hd=>(hs.dom i).1 hd
 have cp:∀{i:Nat}{c c':List AV},(i,c)∈h->(i,c')∈h->c=c':=λh1 h2=>hs.heap.key h1 h2
 have hold:∀i c c0,(i,c)∈h'->cJ h i=some c0->c0.length=c.length:=λi c c0 hin hg=>by
  have:=pf h2 i c hin;simp only[jF,hg] at this;exact (uC this.2.2).1
 have hL:∀b,LB (m.cut n n') h' b->LB m h b:=by
  rintro b ⟨id,c,C,hin,_,ha⟩
  have he:=pf h2 id c hin
  cases hg:cJ h id with
  |none=>simp only[jF,hg] at he;simp only[Mm.cut] at ha;rw[b8 he.1] at ha;cases ha
  |some c0=>
   have hm:=fR hg;have hw:=hs.ids id c0 hm;simp only at hw;simp only[Mm.cut] at ha;rw[bP ab,<-hold id c c0 hin hg] at ha;exact⟨id,c0,C,hm,(hs.dom id).2 hw,ha⟩
 have hLD:∀id cs b C,cJ (ra D h) id=some cs->m.addr id cs.length=some (b,C)->¬LB (m.cut n n') h' b:=by
  rintro id cs b C hg ha ⟨id2,c2,C2,ba,_,ax⟩
  obtain⟨hm,hD⟩:=xy hg;have he:=pf h2 id2 c2 ba
  cases bi:cJ h id2 with
  |none=>simp only[jF,bi] at he;simp only[Mm.cut] at ax;rw[b8 he.1] at ax;cases ax
  |some c0=>
   have bw:=fR bi;have b4:=hs.ids id2 c0 bw;have hw:=hs.ids id cs hm;simp only at hw b4;simp only[Mm.cut] at ax;rw[bP ab,<-hold id2 c2 c0 ba bi] at ax;simp only[jF,bi] at he
   have bq:id≠id2:=λe=>he.2.1 (e▸hD)
   have jU:=hs.heap.inj;rw[vn] at jU;obtain⟨p,hp,ep⟩:=lZ hm;obtain⟨q,hq,eq⟩:=lZ bw
   rcases DG p q with bk|bk|bk
   .have:=(jU p q hp hq bk).2 b C C2;rw[ep,eq] at this;exact this ((hs.dom _).2 hw) ((hs.dom _).2 b4) ha ax
   .simp_all
   .have:=(jU q p hq hp bk).2 b C2 C;rw[ep,eq] at this;exact this ((hs.dom _).2 b4) ((hs.dom _).2 hw) ax ha
 have h8:∀x y v,pZ D h n n' x y->bJ B (LB m h) m w x v->bJ B (LB (m.cut n n') h') (m.cut n n') w y v:=by
  intro x y v hc hr
  rcases hc with ⟨g1,g2⟩|g|g
  .exact (GW g1 hr).cut bv g2 hL
  .unfold AvF at g;split at g
   .rename_i own p
    refine .w (r5 hs.heap rfl (λid cs e=>(xy e).1) own (λid cs b C hg ha hb=>⟨hLD id cs b C hg ha,λ_=>hb,λh=>ab⟩)
     (λb hg=>⟨λhl=>hg.1 (hL b hl),hg.2⟩) (λho b hg=>⟨λhl=>hg.1 (hL b hl),λ_=>hg.2.1 rfl,hg.2.2⟩) 6 x p v g.1 g.2 hr) nofun
   trivial
  .unfold yf at g;split at g
   .rename_i o id sz;obtain⟨a0,cap,hv,_,hf,_,_⟩:=hr.oF;rw[hv];have hc:=hf rfl;subst hc;exact .msl g.2 (by simp only[Mm.cut];rw[b8 g.1];exact bS _) (bS _) (λ_=>⟨rfl,rfl⟩) (λb C e=>by simp only[Mm.cut] at e;rw[b8 g.1] at e;cases e)
   trivial
 refine⟨m.cut n n',⟨hs.base,hs.below,hs.defers,hs.size,λt=>?_,⟨λid c hin hd=>?_,?_⟩,λi=>Iff.rfl,λid c hin=>?_,hk,λp hp=>⟨(hs.fr.2.1 p hp).1,(hs.fr.2.1 p hp).2.cut bv (AV.sA hk (hs.fr.2.1 p hp).1) hL⟩,λq hq=>let ⟨o1,o2,o3,o4⟩:=hs.fr.2.2 q hq;⟨o1,o2,λh=>o3 (hL _ h),o4⟩⟩,h8⟩
 .show bJ _ _ _ _ (get env' t) _
  rcases He h1 t with g1|g1
  .exact h8 _ _ _ g1 (hs.env t)
  .rw[g1];exact .w (.undef _) nofun
 .have he:=pf h2 id c hin
  cases hg:cJ h id with
  |none=>
   simp only[jF,hg] at he;obtain⟨e1,_,rfl⟩:=he;exact⟨by simp only[Mm.cut];rw[b8 e1];rfl,.inl ⟨by simp only[Mm.cut];rw[b8 e1],rfl⟩⟩
  |some c0=>
   have hm:=fR hg;have hw:=hs.ids id c0 hm;simp only at hw;have hlen:=hold id c c0 hin hg;simp only[jF,hg] at he;obtain⟨ht,cm⟩:=hs.heap.entry id c0 hm ((hs.dom id).2 hw);refine⟨by simp only[Mm.cut];rw[bP ab,ht,hlen],?_⟩
   rcases cm with ⟨g1,g2⟩|⟨b,C,cs,e,e1,e2,e3,e4,e5,e6⟩|⟨b,es,clk,e1,e2,e3,e4,e5⟩
   .refine .inl ⟨by simp only[Mm.cut];rw[bP ab,<-hlen];exact g1,?_⟩
    grind
   .refine .inr (.inl ⟨b,C,cs,e,by simp only[Mm.cut];rw[bP ab,<-hlen];exact e1,e2,e3,ab,e5,λj p v hp hv=>?_⟩);obtain⟨x,hx,d7⟩:=(uC he.2.2).2 j p hp
    grind
   .exact .inr (.inr ⟨b,es,clk,by simp only[Mm.cut];rw[bP ab,<-hlen];exact e1,(Hg he.2.2 e2).1,e3,e4,λl hl=>e5 l ((Hg he.2.2 e2).2 l hl)⟩)
 .have hk:=Hf h2;refine tH ?_ hk;intro x y hx hy bq;refine⟨bq,λb C C' _ _ b' bh=>?_⟩;have ex:=pf h2 x.1 x.2 hx;have ey:=pf h2 y.1 y.2 hy
  cases bn:cJ h x.1 with
  |none=>simp only[jF,bn] at ex;simp only[Mm.cut] at b';rw[b8 ex.1] at b';cases b'
  |some cx=>
   cases bo:cJ h y.1 with
   |none=>simp only[jF,bo] at ey;simp only[Mm.cut] at bh;rw[b8 ey.1] at bh;cases bh
   |some cy=>
    have mx:=fR bn;have my:=fR bo;have ix:=hs.ids _ _ mx;have iy:=hs.ids _ _ my;simp only at ix iy;simp only[Mm.cut] at b' bh;rw[bP ab,<-hold x.1 x.2 cx hx bn] at b';rw[bP ab,<-hold y.1 y.2 cy hy bo] at bh;have:=hs.heap.inj;rw[vn] at this;obtain⟨p,hp,ep⟩:=lZ mx;obtain⟨q,hq,eq⟩:=lZ my;have dx:m.dom x.1:=(hs.dom _).2 ix;have dy:m.dom y.1:=(hs.dom _).2 iy
    grind
 .have he:=pf h2 id c hin;show id<n'
  cases hg:cJ h id with
  |none=>simp only[jF,hg] at he;exact he.2.1
  |some c0=>simp only[jF,hg] at he;exact he.1
theorem eJ(D:List Nat){env env':Env}{h h':bE}{n n' nt:Nat}(h1:va D h n n' env env')(h2:nS D h n n' h')(hk:fk.k<=n':=by first|exact cG _|omega|(simp;done)):Lek fk ⟨env,h,n,nt⟩ ⟨env',h',n',nt⟩:=by
 intro B w0 a w m hs;obtain⟨m',d6,_⟩:=Hh D h1 h2 hk hs
 grind
attribute [simp] AvF yf pZ j0 va jF nS ra
section
omit [bI]
@[simp]theorem O3(h:bE)(d:Nat)(o f:Bool)(p:PV):fO h d (.w o f p)=(o || flat p):=by cases d<;>rfl
@[simp high] theorem BM(h:bE)(d:Nat)(o f:Bool):∀l:List PV,(l.map (AV.w o f)).mapM (frz h d)=some l
 |[]=>rfl
 |p::r=>by simp[yx,BM h d o f r]
@[simp high] theorem Zb(h:bE)(d:Nat)(f:Bool):∀l:List PV,(l.map (AV.w true f)).all (fO h d)=true
 |[]=>rfl
 |p::r=>by simp
@[simp high] theorem Hi(h:bE)(d:Nat)(o f:Bool):∀l:List PV,jA l=true->(l.map (AV.w o f)).all (fO h d)=true
 |[],_=>rfl
 |p::r,hl=>by
  simp only[jA,eY] at hl;simp only[oU,List.all_cons,O3,hl.1,ju,fQ];exact Hi h d o f r hl.2
end
def vc:PV->Bool
 |.undef=>false
 |.tup _=>false
 |.agg _=>false
 |_=>true
omit [bI] in
@[simp]theorem uD(o f:Bool):∀l:List PV,l.all vc=true->eo (l.map (AV.w o f))=true
 |[],_=>rfl
 |p::r,hl=>by
  simp only[List.all_cons,eY] at hl;simp only[oU,eo,uD o f r hl.2,iZ]
  cases p<;>first|rfl|(simp[vc] at hl)
omit [bI] in
@[simp]theorem xA(n:Nat)(o f:Bool):∀l:List PV,AV.lt.ltL n (l.map (AV.w o f))=true
 |[]=>rfl
 |p::r=>by simp[AV.lt.ltL,AV.lt,xA n o f r]
theorem kX{P:Program}{K:Exit->St->Prop}{c:Code}{id:Nat}{env:Env}{h:bE}{n nt:Nat}{α β:Type}(n':Nat)(J:α->Prop)(ks:List Nat)(mods:α->Env)(bj:List Nat)(hm:α->bE)(μ:α->Nat)(F:β->Prop)(fks:List Nat)(fmods:β->Env)(fhks:List Nat)(fhm:β->bE)(x0:α)(hJ:J x0)(h0:Lek fk ⟨env,h,n,nt⟩ ⟨mods x0++gA env ks,hm x0++iR h bj,n',nt⟩)(round:∀x,J x->cP fk P c ⟨mods x++gA env ks,hm x++iR h bj,n',nt⟩ (lN fk J (λx=>⟨mods x++gA env ks,hm x++iR h bj,n',nt⟩) μ x (oO fk id F (λy=>⟨fmods y++gA env fks,fhm y++iR h fhks,n',nt⟩) K)))(after:∀y,F y->K .normal ⟨fmods y++gA env fks,fhm y++iR h fhks,n',nt⟩):cP fk P (.block id (.loop c)) ⟨env,h,n,nt⟩ K:=by
 refine gS (G3 (Ag J (λx=>⟨mods x++gA env ks,hm x++iR h bj,n',nt⟩) μ x0 hJ h0 round) (λe s hk=>?_))
 cases e<;>first
  |exact hk.elim
  |exact⟨s,Lek.refl s,hk⟩
  |(simp only[oO] at hk
    simp only[jh];split at hk
    .rename_i hw;obtain⟨y,hy,hle⟩:=hk
     grind
    .rename_i hw
     exact⟨s,Lek.refl s,by rw[bP hw];exact hk⟩)
section
omit [bI]
@[simp]theorem Zc(z:List AV):jf 1 z=z:=by simp[jf]
@[simp]theorem Zd(z:List AV):jf 2 z=z++z:=by simp[jf,DK]
@[simp]theorem O4{D:List Nat}{h:bE}{n n':Nat}{x y:List AV}:∀a:List AV,j0 D h n n' (a++x) (a++y)=(j0 D h n n' a a/\j0 D h n n' x y)
 |[]=>propext ⟨λh=>⟨trivial,h⟩,λh=>h.2⟩
 |z::a=>by
  simp only[qm,j0,O4 a,and_assoc]
end
end Go.Fi
namespace Go.Fi
open Go Go.RowKit Go.ChangeShapes Go.WideShapes
variable[bI]
def Match(w:World)(ps:List PV)(cs:List Value):Prop:=ps.length=cs.length/\∀(j:Nat)(p:PV)(v:Value),ps[j]?=some p->cs[j]?=some v->Rep (λ_=>True) w p v
omit [bI] in
theorem Match.append{w:World}{a b:List PV}{x y:List Value}(h1:Match w a x)(h2:Match w b y):Match w (a++b) (x++y):=by
 refine⟨by rw[nX,nX,h1.1,h2.1],λj p v hp hv=>?_⟩;by_cases hj:j<a.length
 .rw[rA hj] at hp;rw[rA (by rw[<-h1.1];exact hj)] at hv;exact h1.2 j p v hp hv
 .have hj:a.length<=j:=ab
  rw[tI hj] at hp;rw[tI (by rw[<-h1.1];exact hj),<-h1.1] at hv;exact h2.2 _ p v hp hv
omit [bI] in
theorem Match.one{w:World}{p:PV}{v:Value}(h:Rep (λ_=>True) w p v):Match w [p] [v]:=by
 refine⟨rfl,λj q u hq hu=>?_⟩
 grind
def Reads(P:Program)(t:TypeId){α:Type}(c:α->List PV):Prop:=
 ∀(H:Type)(enc:TypeId×Value->H)(w:World)(held:Bool)(fuel:Nat)(cs:List Value)(x:DataW H×List MemPlace),DataW.trod enc P w 0 (λ_=>true) held fuel t cs=some x->∃y:α,Match w (c y) cs
def yr(P:Program)(fs:List Field)(off:Nat){α:Type}(c:α->List PV)(s:Nat):Prop:=
 ∀(H:Type)(enc:TypeId×Value->H)(w:World)(held:Bool)(n:Nat)(cs:List Value),(∀f∈fs,∃x:DataW H×List MemPlace,DataW.trod enc P w 0 (λ_=>true) held n f.type ((cs.drop f.offset).take (P.cellsOf f.type))=some x) ->
  ∃y:α,Match w (c y) ((cs.drop off).take s)
section
variable{P:Program}{t e:TypeId}
section
omit [bI]
theorem QI{k:IntKind}(ht:P.underlying t=some (.int k)):Reads P t (λn:Int=>[.int k n]):=by
 intro H enc w held fuel cs x h;obtain⟨n,rfl,_,_⟩:=DataW.trod_int ht h;exact⟨n,Match.one (.int _ _)⟩
theorem QJ(ht:P.underlying t=some .string):Reads P t (λs:ByteArray=>[.str s]):=by
 intro H enc w held fuel cs x h;obtain⟨n,rfl,_,_⟩:=DataW.trod_string ht h;exact⟨n,Match.one (.str _)⟩
theorem QK(ht:P.underlying t=some .bool):Reads P t (λb:Bool=>[.bool b]):=by
 intro H enc w held fuel cs x h;obtain⟨n,rfl,_⟩:=DataW.trod_bool ht h;exact⟨n,Match.one (.bool _)⟩
theorem xK{α β:Type}{c:α->List PV}{c':β->List PV}(f:α->β)(hc:∀y,c y=c' (f y))(h:Reads P t c):Reads P t c':=by
 intro H enc w held fuel cs x hx;obtain⟨y,hy⟩:=h H enc w held fuel cs x hx
 grind
theorem Cb{off:Nat}:yr P [] off (λ_:Unit=>[]) 0:=by
 intro H enc w held n cs _;exact⟨(),by simp[Match]⟩
theorem mq{f:Field}{fs:List Field}{off s S:Nat}{α β:Type}{c:α->List PV}{c':β->List PV}(ho:f.offset=off)(hs:P.cellsOf f.type=s)(h:Reads P f.type c)(hr:yr P fs (off+s) c' S):yr P (f::fs) off (λy:α×β=>c y.1++c' y.2) (s+S):=by
 intro H enc w held n cs a9;obtain⟨x,hx⟩:=a9 f gF;rw[ho,hs] at hx;obtain⟨y,hy⟩:=h H enc w held n _ x hx;obtain⟨z,hz⟩:=hr H enc w held n cs (λg hg=>a9 g (eH _ hg));refine⟨(y,z),?_⟩;rw[List.take_add,List.drop_drop];exact hy.append hz
theorem Ce{fs:Array Field}{s:Nat}{α:Type}{c:α->List PV}(ht:P.underlying t=some (.struct fs))(hs:P.cellsOf t=s)(h:yr P fs.toList 0 c s):Reads P t c:=by
 intro H enc w held fuel cs x hx;obtain⟨xs,n,_,_,hl,c5,hf⟩:=DataW.trod_struct ht hx
 obtain⟨y,hy⟩:=h H enc w held n cs (λf hin=>by
  obtain⟨i,hi⟩:=List.mem_iff_getElem?.1 hin;rw[iW] at hi
  have a6:i<xs.length:=by rw[c5];exact (cY.1 hi).1
  exact⟨xs[i],by rw[hf i f hi];exact dP a6⟩)
 grind
theorem xp{α:Type}{c:α->List PV}{s:Nat}(hl:∀x,(c x).length=s)(hs:0<s)(l:List α)(j:Nat)(hj:j<l.length*s):∃x,l[j / s]?=some x/\(l.flatMap c)[j]?=(c x)[j%s]?:=by
 induction l generalizing j with
 |nil=>simp at hj
 |cons a l ih=>
  simp only[oV];by_cases h:j<s
  .refine⟨a,by rw[Nat.div_eq_of_lt h];rfl,?_⟩;rw[rA (by rw[hl];exact h),Nat.mod_eq_of_lt h]
  .have h:s<=j:=ab
   rw[il,iY] at hj;obtain⟨x,h1,h2⟩:=ih (j-s) ab;refine⟨x,?_,?_⟩
   .rw[Nat.div_eq_sub_div hs h,yA];exact h1
   .rw[tI (by rw[hl];exact h),hl,h2,Nat.mod_eq_sub_mod h]
theorem uK{s:Nat}{α:Type}{c:α->List PV}(ht:P.underlying t=some (.slice e))(hs:P.cellsOf e=s)(a':0<s)(hl:∀x,(c x).length=s)(h:Reads P e c):Reads P t (λl:List α=>[.sl l.length (l.flatMap c)]):=by
 intro H enc w held fuel cs x hx
 rcases DataW.trod_slice ht hx with h0|⟨a,len,cap,elems,rest,n,_,rfl,_,_,hle,_,hlen,ck,_,_⟩
 .rw[h0.1];exact⟨[],Match.one .slnil⟩
 .have each:∀i,i<len->∃y:α,Match w (c y) ((List.range s).map λj=>(w.cell? ((a.add (i*s)).add j)).getD undef)/\∀j,j<s->∃v,w.cell? ((a.add (i*s)).add j)=some v:=by
   intro i hi;have h1:=ck i hi;rw[hs,dP ab] at h1;obtain⟨cs',c9,hy⟩:=Option.bind_eq_some_iff.1 h1;obtain⟨y,hy⟩:=h H enc w held n cs' _ hy;obtain⟨_,c8,h8⟩:=World.cells?_some c9;refine⟨y,?_,λj hj=>⟨cs'[j]'ab,by rw[h8 j ab];simp⟩⟩
   have e:(List.range s).map (λj=>(w.cell? ((a.add (i*s)).add j)).getD undef)=cs':=by
    apply List.ext_getElem
    .simp[c8]
    simp_all
   rw[e];exact hy
  have a9:∃l:List α,l.length=len/\∀i y,l[i]?=some y->Match w (c y) ((List.range s).map λj=>(w.cell? ((a.add (i*s)).add j)).getD undef):=by
   have:∀m,m<=len->∃l:List α,l.length=m/\∀i y,l[i]?=some y->Match w (c y) ((List.range s).map λj=>(w.cell? ((a.add (i*s)).add j)).getD undef):=by
    intro m
    induction m with
    |zero=>intro _;exact⟨[],rfl,λi y hy=>by simp at hy⟩
    |succ m ih=>
     intro hm;obtain⟨l,b5,bp⟩:=ih ab;obtain⟨y,hy,_⟩:=each m ab;refine⟨l++[y],by simp[b5],λi z hz=>?_⟩;by_cases hi:i<m
     .rw[rA ab] at hz;exact bp i z hz
     .have:i=m:=by
       have:=(eX.1 hz).1;simp[b5] at this;omega
      subst this;rw[tI ab,b5] at hz;simp at hz;subst hz;exact hy
   simp_all
  obtain⟨l,b5,bp⟩:=a9;refine⟨l,Match.one ?_⟩;rw[b5]
  cases c7:l.flatMap c with
  |nil=>exact .slz hle
  |cons p ps=>
   rw[<-c7]
   have ao:(l.flatMap c).length=len*s:=by rw[uw c s hl,b5]
   have bb:0<len:=by
    grind
   obtain⟨_,_,hex⟩:=each 0 bb;obtain⟨v0,c4⟩:=hex 0 a'
   have aq:a=⟨a.block,a.off,none⟩:=by
    obtain⟨b,o,sp⟩:=a
    cases sp with
    |none=>rfl
    |some sp=>
     simp only[World.cell?,Addr.add] at c4
     split at c4<;>simp_all
   have b9:∀i j,(a.add (i*s)).add j=⟨a.block,a.off+(i*s+j),none⟩:=by
    intro i j;rw[aq,Addr.jT,Addr.jT]
    grind
   rw[aq]
   have bu:∀j,j / s*s+j%s=j:=λj=>by rw[Nat.mul_comm];exact Nat.div_add_mod j s
   have co:∀j,j<len*s->j / s<len:=λj hj=>Nat.div_lt_of_lt_mul (by rw[Nat.mul_comm];exact hj)
   refine .sl (λj=>(w.cell? ⟨a.block,a.off+j,none⟩).getD undef) hle (λj hj=>?_) (λ_=>trivial) (λj q hq=>?_)
   .rw[ao] at hj;obtain⟨_,_,hex⟩:=each (j / s) (co j hj);obtain⟨v,hv⟩:=hex (j%s) (yz _ a');rw[b9,bu] at hv
    grind
   .have hj:j<len*s:=by rw[<-ao];grind
    obtain⟨y,d4,d5⟩:=xp hl a' l j (by rw[b5];exact hj);rw[d5] at hq
    have hm:=(bp (j / s) y d4).2 (j%s) q ((w.cell? ((a.add (j / s*s)).add (j%s))).getD undef) hq (by
     rw[im,yD (yz _ a')];rfl)
    rw[b9,bu] at hm;exact hm
end
end
section
variable{H:Type}{enc:TypeId×Value->H}{P:Program}
section
omit [bI]
theorem QL{f:Func}{s:ChangeSpec}{apart fresh handsOn again:Bool}{W W':World}{args:Array Value}{v:Value}{ds gs:List (DataW H)}{before pa pv:List MemPlace}(hW:DataW.Whole enc P f.params.toList s.vars apart W args.toList ds gs before)(bf:∀(b:Nat)(sp:Nat->Bool)(hd:Bool),DataW.TrodAll enc P W' b sp hd f.resultTypes.toList (v.resultList f.resultTypes.size) (s.fn H (ds++gs)).results [])(ag:∀sp:Nat->Bool,(∀p∈before,sp p.block=true)->DataW.TrodAll enc P W' 0 sp true f.params.toList args.toList (s.fn H (ds++gs)).args pa)(aw:∀sp:Nat->Bool,(∀p∈before,sp p.block=true)->DataW.TrodVars enc P W' sp s.vars (s.fn H (ds++gs)).vars pv)(br:before=pa++pv)(hb:Bel W.heap.size W W')(cq:∀(j:Nat)(t:TypeId)(r:Value),f.resultTypes[j]?=some t->(v.resultList f.resultTypes.size)[j]?=some r->Value.okWide P W' .any 0 t r):s.post enc P f apart fresh handsOn again W args v W':=by
 have a6:∀p∈before,p.block<W.heap.size:=λp hp=>hW.lt p hp
 have hold:∀p∈before,(λb=>decide (b<W.heap.size)) p.block=true:=λp hp=>by simp_all
 refine⟨ds,gs,before,[],pa,pv,hW,bf _ _ _,ag _ hold,aw _ hold,World.keptBut_mono (λp hp=>⟨hp,?_⟩) (hb.frame (·∈before)),λ_=>?_⟩
 .rw[br,iV] at hp
  grind
 .obtain⟨_,_,_,_,_,hz,hn⟩:=hW;refine⟨cq,_,_,([]++pa)++pv,⟨[]++pa,pv,trodAll_append (ag _ (λ_ _=>rfl)) (bf _ _ _),aw _ (λ_ _=>rfl),rfl,?_,?_⟩,?_⟩
  .intro b off hp
   have hin:MemPlace.cell b off∈before:=by rw[br];simpa using hp
   rw[hb.frozen (a6 _ hin)];exact hz b off hin
  .intro ha;have:=hn ha;rw[br] at this;simpa using this
  simp_all
theorem Ia(hl:laidOutB P=true){W W':World}(hb:Bel W.heap.size W W'){sp:Nat->Bool}:∀{ts:List TypeId}{vs:List Value}{ds:List (DataW H)}{ps:List MemPlace},(∀t∈ts,P.readableRec t=true/\t<P.types.size)->DataW.TrodAll enc P W 0 (λ_=>true) true ts vs ds ps->(∀x∈ps,x.block<W.heap.size)->(∀x∈ps,sp x.block=true)->DataW.TrodAll enc P W' 0 sp true ts vs ds ps
 |[],[],[],_,_,h,_,_=>h
 |t::ts,v::vs,d::ds,ps,hr,h,a6,bl=>by
  obtain⟨p,q,h1,h2,rfl⟩:=h;refine⟨p,q,?_,Ia hl hb (λt ht=>hr t (eH _ ht)) h2 (λx hx=>a6 x (DV _ hx)) (λx hx=>bl x (DV _ hx)),rfl⟩;obtain⟨r1,r2⟩:=hr t gF;exact WideElems.Trod_stays hl r1 r2 h1 (λx hx=>hb.same (a6 x (vu _ hx))) (λx hx=>bl x (vu _ hx))
 |[],[],_::_,_,_,h,_,_=>h.elim
 |[],_::_,_,_,_,h,_,_=>h.elim
 |_::_,[],_,_,_,h,_,_=>h.elim
 |_::_,_::_,[],_,_,h,_,_=>h.elim
theorem TR{f:Func}{s:ChangeSpec}{apart fresh handsOn again:Bool}{W W':World}{args:Array Value}{ds gs:List (DataW H)}{before:List MemPlace}{tb:TypeId}(hl:laidOutB P=true)(hW:DataW.Whole enc P f.params.toList s.vars apart W args.toList ds gs before)(hv:s.vars=[])(a5:s.fn H (ds++gs) = { results:=[.lit (.bool true)],args:=ds })(hr:f.resultTypes=#[tb])(c3:P.underlying tb=some .bool)(b6:(f.params.toList.all λt=>P.readableRec t&&decide (t<P.types.size))=true)(hb:Bel W.heap.size W W'):s.post enc P f apart fresh handsOn again W args (.bool true) W':=by
 have bd:∀t∈f.params.toList,P.readableRec t=true/\t<P.types.size:=λt ht=>by
  have:=gp.1 b6 t ht;simp_all
 have a6:∀p∈before,p.block<W.heap.size:=λp hp=>hW.lt p hp
 have c6:=hW;obtain⟨p,q,hA,hV,rfl,_,_⟩:=hW;rw[hv] at hV
 have hq:q=[]/\gs=[]:=by
  cases gs with
  |nil=>trivial
  |cons _ _=>exact hV.elim
 obtain⟨rfl,rfl⟩:=hq;refine QL (pa:=p) (pv:=[]) c6 (λb sp hd=>?_) (λsp bl=>?_) (λsp _=>?_) rfl hb ?_
 .rw[a5,hr];exact trodAll_mk1 (shut_bool c3 true)
 .rw[a5];exact Ia hl hb bd hA (λx hx=>a6 x ak) (λx hx=>bl x ak)
 .rw[a5,hv];rfl
 .rw[hr];intro j t r hj hv
  match j,hj,hv with
  |0,hj,hv=>
   simp[Value.resultList] at hj hv;subst hj;subst hv;simp only[Value.okWide,c3,Cell.okWide,Cell.ok]
end
end
section
variable{P:Program}{t:TypeId}{W:World}
omit [bI] in
theorem TT{α:Type}{c:α->List PV}(h:Reads P t c){fs:Array Field}(ht:P.underlying t=some (.struct fs)){r:Reach}{base:Nat}{v:Value}(bg:Value.okWide P W r base t v){H:Type}{enc:TypeId×Value->H}{held:Bool}{d:DataW H}{ps:List MemPlace}(hd:DataW.Trod enc P W 0 (λ_=>true) held t v d ps):∃y:α,Rep (λ_=>True) W (.agg (c y)) v:=by
 simp only[Value.okWide,ht] at bg;obtain⟨cs,rfl,_,_⟩:=bg;obtain⟨fuel,hd⟩:=hd;obtain⟨y,hy⟩:=h H enc W held fuel _ _ hd;simp only[Value.cells] at hy;exact⟨y,.agg (by simpa using hy.1) (λj p u hp hu=>hy.2 j p u hp (by rw[iW];exact hu))⟩
end
section
variable{P:Program}{t e:TypeId}{W:World}
omit [bI] in
theorem QM{s:Nat}{α:Type}{c:α->List PV}(ht:P.underlying t=some (.array 2 e))(hs:P.cellsOf e=s)(cv:P.cellsOf t=s+s)(h:Reads P e c):Reads P t (λy:α×α=>c y.1++c y.2):=by
 intro H enc w held fuel cs x hx;obtain⟨xs,n,_,_,hl,c5,hf⟩:=DataW.trod_array ht hx;have f0:=hf 0 ab;have f1:=hf 1 ab;rw[dP ab,hs] at f0 f1;obtain⟨y,hy⟩:=h H enc w held n _ _ f0;obtain⟨z,hz⟩:=h H enc w held n _ _ f1;refine⟨(y,z),?_⟩;rw[JP,List.drop_zero] at hy;rw[Nat.one_mul] at hz
 have e:cs=cs.take s++(cs.drop s).take s:=by
  rw[T5 (l:=cs.drop s) (by rw[yE,hl,cv];omega),yO]
 rw[e];exact hy.append hz
end
end Go.Fi
namespace Go.Fi
open Go Go.RowKit
variable[bI]
variable{fk:Fk}
theorem Pg{P:Program}{K:Exit->St->Prop}{rid d1 d2 t ty1 ty2 e:Nat}{p1 p2:String}{a1 a2:Array Edge}{st tt:TypeId}{env:Env}{h:bE}{n nt:Nat}{ow fl:Bool}{k:Nat}{cells:List PV}(hu:P.underlying st=some (.slice e))(hg:get env t=.w ow fl (.sl k cells))(cf:d1<nt)(cg:d2<nt)(hk:∀b:Bool,(b=true->k=0/\cells=[])->K .normal ⟨(d2,.w false false (.bool b))::(d1,.w ow fl (.sl k cells))::env,h,n,nt⟩):cP fk P (.region rid #[⟨some d1,.move (.tmp t),ty1,p1,a1,none⟩,⟨some d2,.binOp .eql st (.tmp d1) (.const (.slice none 0 0)) tt,ty2,p2,a2,none⟩] false) ⟨env,h,n,nt⟩ K:=by
 intro B w0 a w m hs;refine qv ?_;simp only[iB,Region.wanted,cz];intro w e1x;replace hs:=hs.move e1x;refine jK (λc e=>by cases e) (wJ w0 (⟨some d1,.move (.tmp t),ty1,p1,a1,none⟩:Oper) (K:=λv h' n'=>v=get env t/\h'=h/\n'=n) ae hs cf _ _ ?_)
 rintro v h' n' a w m ⟨rfl,rfl,rfl⟩ hs
 intro w e1x;replace hs:=hs.move e1x;refine jK (λc e=>by cases e) ?_;rw[hg] at hs
 have hx:bJ B (LB m h') m w (.w ow fl (.sl k cells)) (a.eval (.tmp d1)):=by
  have:=hs.env d1;rw[show get (St.env ⟨put env (some d1) (.w ow fl (.sl k cells)),h',n',nt⟩) d1=.w ow fl (.sl k cells) from ae] at this;exact this
 obtain⟨a0,cap,hv,_,_,bz,bq⟩:=hx.oF
 have bt:(execOp a.eval ⟨some d2,.binOp .eql st (.tmp d1) (.const (.slice none 0 0)) tt,ty2,p2,a2,none⟩).run P w=.ok (.value (.bool a0.isNone)) w:=by
  have cw:a.eval (.tmp d1)=.slice a0 k cap:=hv;have hc:a.eval (.const (.slice none 0 0))=.slice none 0 0:=rfl
  have cj:∀d,(Op.equalIn (d+1) st (.slice a0 k cap) (.slice none 0 0)).run P w=.ok a0.isNone w:=λd=>by
   rw[Op.equalIn,Sem.run_bind,run_underlying hu];simp only[Result.andThen_ok]
   cases a0<;>rfl
  have he:(Op.equal st (.slice a0 k cap) (.slice none 0 0)).run P w=.ok a0.isNone w:=cj 9999;have hg:(eqGuard .eql st (.tmp d1) (.const (.slice none 0 0)) (.slice a0 k cap) (.slice none 0 0)).run P w=.ok () w:=rfl;simp[execOp,cw,hc,hg,binOp,he]
 unfold Oper.wpt;rw[bt,Oper.pz];refine⟨_,m,hk a0.isNone (λhb=>?_),hs.base,hs.below,by rw[kI];exact hs.defers,by rw[kE];exact hs.size,?_,hs.heap,hs.dom,hs.ids,hs.fr⟩
 .have:a0=none:=by cases a0 with
   |none=>rfl
   |some x=>cases hb
  simp_all
 .exact ni _ a (some d2) _ _ (by show d2<a.tmps.size;rw[hs.size];exact cg) (iL _) hs.env
structure zcy(P:Program)(f:FuncId):Prop where
 ent:se P f
 nz:∀(b off n c:Nat)(zs:List Int)(w:World),n<=zs.length->n<=9223372036854775807->(∀j,j<zs.length->w.cell? ⟨b,off+j,none⟩=some (.int .i64 (zs.getD j 0)))->(∀j,j<n->w.frozen? ⟨b,off+j,none⟩=false) ->
  iw P f #[.slice (some ⟨b,off,none⟩) n c] w λe w'=>e=.returned (.tuple #[])/\∃q,w'=(w.drewN q).setCells b off ((zs.take n).reverse.map (Value.int .i64))
 ez:∀(a:Option Addr)(c:Nat)(w:World),iw P f #[.slice a 0 c] w λe w'=>e=.returned (.tuple #[])/\w'=w
def iC(l:List Int):List AV:=(l.map (PV.int .i64)).map (AV.w false false)
omit [bI] in
theorem HA{l:List Int}{j:Nat}{p:AV}(h:(iC l)[j]?=some p):∃x,l[j]?=some x/\p=.w false false (.int .i64 x):=by
 unfold iC at h;obtain⟨y,hy,rfl⟩:=fX h;obtain⟨x,hx,rfl⟩:=fX hy;exact⟨x,hx,rfl⟩
omit [bI] in
theorem Jp{l:List Int}{j:Nat}(h:j<l.length):(iC l)[j]?=some (.w false false (.int .i64 (l.getD j 0))):=by
 simp[iC,im,dP h,dZ]
def pS(M:List (ByteArray×Int)):List (PV×PV):=M.map λp=>(.str p.1,.int .i64 p.2)
def mS(M:List (ByteArray×Int)):List AV:=[gZ (pS M)]
omit [bI] in
@[simp]theorem zap(M:List (ByteArray×Int)):(mS M).length=1:=rfl
omit [bI] in
@[simp]theorem zc1(M:List (ByteArray×Int))(n:Nat):AV.lt.ltL n (mS M)=true:=rfl
def Dv(c:Bool)(r:Option Int):AV:=
 match c,r with
 |true,some v=>.w false false (.tup [.int .i64 v,.bool true])
 |true,none=>.w false false (.tup [.int .i64 0,.bool false])
 |false,some v=>.w false false (.int .i64 v)
 |false,none=>.w false false (.int .i64 0)
section
omit [bI]
@[simp]theorem zaq(v:Int):Dv true (some v)=.w false false (.tup [.int .i64 v,.bool true]):=rfl
@[simp]theorem zar:Dv true none=.w false false (.tup [.int .i64 0,.bool false]):=rfl
@[simp]theorem zas(h:bE)(id:Nat):mpC h (.mp id)=cJ h id:=rfl
end
def yo(h:bE)(id:Nat)(cells:Option (List AV))(r:Option (TypeDesc×PV))(k v:AV):Option (Prop×bE):=
 match cells.bind fN,k,v,r with
 |some l,.w _ _ kp,.w _ _ vp,some (d,_)=>some ((okM d kp l=true/\isLit vp=true),dQ h id [gZ (jR l kp vp)])
 |_,_,_,_=>none
def Dw(h:bE)(r:Option (TypeDesc×PV))(m k v:AV):Option (Prop×bE):=
 match m with
 |.mp id=>yo h id (cJ h id) r k v
 |_=>none
omit [bI] in
@[simp]theorem zat(h:bE)(r:Option (TypeDesc×PV))(id:Nat)(k v:AV):Dw h r (.mp id) k v=yo h id (cJ h id) r k v:=rfl
@[simp ↓]theorem zau{P:Program}{env:Env}{h:bE}{n:Nat}(t:TypeId)(x k:Operand)(c:Bool)(K:AV->bE->Nat->Prop):dp P env h n (.lookup t x k c) K=aW (aOp P h n (ev env) (.lookup t x k c)) (eK h n K) .it:=rfl
@[simp ↓]theorem zav{P:Program}{env:Env}{h:bE}{n:Nat}(t:TypeId)(x k:Operand)(c:Bool)(K:AV->List (List AV)->Prop):dk P env h n (.lookup t x k c) K=aW (aOp P h n (ev env) (.lookup t x k c)) K .it:=rfl
@[simp ↓]theorem zaw{P:Program}{env:Env}{h:bE}{n:Nat}(t:TypeId)(K:AV->bE->Nat->Prop):dp P env h n (.makeMap t none) K=pM (some ((nI P t).isSome=true,.mp n,(n,[gZ []])::h,n+1)) K .it:=rfl
@[simp ↓]theorem zax{P:Program}{env:Env}{h:bE}{n:Nat}(t:TypeId)(m k v:Operand)(K:AV->bE->Nat->Prop):dp P env h n (.mapUpdate t m k v) K=sM (Dw h (nI P t) (ev env m) (ev env k) (ev env v)) n K .it:=by
 show sD P env h n t m k v K=_;unfold sD Dw yo
 cases ev env m with
 |mp id=>
  dsimp only
  cases (cJ h id).bind fN<;>first
   |rfl
   |(cases ev env k<;>first
      |rfl
      |(cases ev env v<;>first
         |rfl
         |(cases nI P t<;>rfl)))
 |_=>rfl
section
omit [bI]
@[simp]theorem zay(a:Nat):qY (.mp a)=a:=rfl
@[simp]theorem zaz(a:Nat)(D:List Nat):yd (.mp a) D=(a∈D):=rfl
@[simp]theorem za0(env:Env)(t:TypeId)(x k:Operand)(c:Bool)(D:List Nat):touch env (.lookup t x k c) D=True:=rfl
@[simp]theorem za1(env:Env)(t:TypeId)(m k v:Operand)(D:List Nat):touch env (.mapUpdate t m k v) D=yd (ev env m) D:=rfl
end
def nA(l:List ByteArray):List AV:=(l.map PV.str).map (AV.w false false)
omit [bI] in
@[simp]theorem za2:nA []=[]:=rfl
end Go.Fi
