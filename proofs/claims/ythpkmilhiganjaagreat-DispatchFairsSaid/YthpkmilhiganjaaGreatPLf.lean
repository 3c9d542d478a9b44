/- Lemmas. -/
import Derived.Test.YthpkmilhiganjaaGreatPLe
import Derived.ProofKit
import Derived.Carry
import Derived.ChangeSame
import Derived.ChangeArms
import Derived.OpenShut
set_option linter.all false
set_option maxHeartbeats 32000000
set_option maxRecDepth 100000
namespace Go.Fi
open Go Go.RowKit
variable[bE]
variable{fk:Fk}
def oE(D:List Nat):bz->bz
 |[]=>[]
 |(k,v)::r=>if k∈D then (k,v)::oE D r else oE D r
omit [bE] in
theorem wW{D:List Nat}:∀{h:bz}{id:Nat}{c:List AV},bY (oE D h) id=some c->(id,c)∈h/\id∈D
 |[],id,c,e=>by cases e
 |(k,v)::r,id,c,e=>by
  simp only[oE] at e;split at e
  .rename_i hk;simp only[bY] at e;split at e
   .simp_all
   .obtain⟨h1,h2⟩:=wW e;simp_all
  .obtain⟨h1,h2⟩:=wW e;simp_all
def AvF(h:bz)(x y:AV):Prop:=
 match y with
 |.w own false p=>frz h 6 x=some p/\(own=true->eh h 6 x=true)
 |_=>False
def xH(n n':Nat)(x y:AV):Prop:=
 match x,y with
 |.w _ true (.sl 0 []),.msl id 0 _ 0 0=>n<=id/\id<n'
 |_,_=>False
def oF(D:List Nat)(h:bz)(n n':Nat)(x y:AV):Prop:=(sj x y/\y.lt n'=true)\/AvF (oE D h) x y\/xH n n' x y
def gF(D:List Nat)(h:bz)(n n':Nat):List AV->List AV->Prop
 |[],[]=>True
 |x::a,y::b=>oF D h n n' x y/\gF D h n n' a b
 |_,_=>False
def uK(D:List Nat)(h:bz)(n n':Nat)(env:Env):Env->Prop
 |[]=>True
 |(t,v)::r=>oF D h n n' (get env t) v/\uK D h n n' env r
def gS(D:List Nat)(h:bz)(n n':Nat)(i:Nat)(c:List AV):Prop:=
 match bY h i with
 |some c0=>i<n'/\¬i∈D/\gF D h n n' c0 c
 |none=>n<=i/\i<n'/\c=[]
def ji(D:List Nat)(h:bz)(n n':Nat):bz->Prop
 |[]=>True
 |(i,c)::r=>gS D h n n' i c/\bY r i=none/\ji D h n n' r
section
omit [bE]
theorem tY{D:List Nat}{h:bz}{n n':Nat}:∀{a b:List AV},gF D h n n' a b->a.length=b.length/\∀(j:Nat)(y:AV),b[j]?=some y->∃x,a[j]?=some x/\oF D h n n' x y
 |[],[],_=>⟨rfl,λj y h=>by simp at h⟩
 |x::a,y::b,hc=>by
  obtain⟨h1,h2⟩:=hc;obtain⟨h3,h4⟩:=tY h2
  grind
 |[],_::_,hc=>hc.elim
 |_::_,[],hc=>hc.elim
theorem tZ{D:List Nat}{h:bz}{n n':Nat}(o f:Bool):∀l:List PV,gF D h n n' (l.map (.w o f)) (l.map (.w o f))
 |[]=>trivial
 |p::r=>⟨.inl ⟨⟨λh=>h,λh=>h,.inl rfl⟩,rfl⟩,tZ o f r⟩
theorem Be{D:List Nat}{h:bz}{n n':Nat}:∀{l:List AV},AV.lt.ltL n' l=true->gF D h n n' l l
 |[],_=>trivial
 |x::r,hl=>by
  simp only[AV.lt.ltL,fe] at hl;refine⟨.inl ⟨?_,hl.1⟩,Be hl.2⟩
  cases x with
  |w o f p=>exact⟨λh=>h,λh=>h,.inl rfl⟩
  |_=>rfl
theorem Gz{D:List Nat}{h:bz}{n n':Nat}:∀{env' env:Env},uK D h n n' env env'->∀t,oF D h n n' (get env t) (get env' t)\/get env' t=.w false false .undef
 |[],env,_,t=>.inr rfl
 |(k,v)::r,env,hh,t=>by
  obtain⟨h1,h2⟩:=hh;simp only[get];split
  .simp_all
  .exact Gz h2 t
theorem oV{D:List Nat}{h:bz}{n n':Nat}:∀{h':bz},ji D h n n' h'->∀i c,(i,c)∈h'->gS D h n n' i c
 |[],_,i,c,hin=>by cases hin
 |(k,v)::r,hh,i,c,hin=>by
  obtain⟨h1,h2,h3⟩:=hh
  rcases dU.1 hin with e|e
  .simp_all
  .exact oV h3 i c e
theorem GA{D:List Nat}{h:bz}{n n':Nat}:∀{h':bz},ji D h n n' h'->h'.Pairwise λp q=>p.1≠q.1
 |[],_=>List.Pairwise.nil
 |(k,v)::r,hh=>by
  obtain⟨h1,h2,h3⟩:=hh;exact Ju.2 ⟨λq hq e=>AY h2 q hq e.symm,GA h3⟩
theorem GB{D:List Nat}{h:bz}{n n':Nat}{c0 c:List AV}(hc:gF D h n n' c0 c)(hm:jG c0=true):jG c=true/\∀l,fI c=some l->fI c0=some l:=by
 obtain⟨hl,hr⟩:=tY hc;have h1:=yK hm
 match c0,c,h1,hl with
 |[x],[y],_,_=>
  obtain⟨x',hx,d5⟩:=hr 0 y rfl;simp at hx;subst hx
  cases x with
  |w o f p=>
   rcases d5 with ⟨h2,_⟩|h2|h2
   .cases y with
    |w o' f' p'=>
     obtain⟨_,_,h3⟩:=h2
     rcases h3 with rfl|⟨rfl,_⟩
     .refine⟨?_,λl hl=>?_⟩
      .cases p'<;>simp_all[jG]
      .cases p'<;>simp_all[fI]
     .exact⟨rfl,λl hl=>aE⟩
    |_=>cases h2
   .cases y with
    |w o' f' p'=>
     cases f' with
     |true=>cases h2
     |false=>
      obtain⟨h3,_⟩:=h2;simp only[frz,cV] at h3;subst h3;refine⟨?_,λl hl=>?_⟩
      .cases p<;>simp_all[jG]
      .cases p<;>simp_all[fI]
    |_=>cases h2
   .cases p<;>simp[jG] at hm<;>(unfold xH at h2;split at h2<;>first|exact h2.elim|simp_all)
  |_=>simp[jG] at hm
theorem ry{B:Base}{m:Mm}{w:World}{H h:bz}{G':Nat->Prop}{L:Nat->Prop}(hs:cQ B H m w)(hL:L=LB m H)(h9:∀id cs,bY h id=some cs->(id,cs)∈H)(own:Bool)(hG1:∀id cs b C,bY h id=some cs->m.addr id cs.length=some (b,C)->B.n<=b->G' b)(hG2:∀b,Good B L own b->G' b)(hG3:own=true->∀b,Good B L true b->G' b):∀(d:Nat)(x:AV)(p:PV)(v:Value),frz h d x=some p->(own=true->eh h d x=true)->bG B L m w x v->Rep G' w p v
 |d,.w o f q,p,v,hf,a4,hr=>by
  have:q=p:=by cases d<;>(simp[frz] at hf;exact hf)
  subst this
  cases hr with
  |w hr _=>
   cases bm:own with
   |false=>exact hr.imp λb hg=>hG2 b ⟨hg.1,(λh=>by rw[bm] at h;cases h),hg.2.2⟩
   |true=>
    have h1:=a4 bm
    have h2:(o || flat q)=true:=by cases d<;>exact h1
    cases o with
    |true=>exact hr.imp λb hg=>hG3 bm b hg
    |false=>exact vq ak hr
 |0,.ptr ..,_,_,hf,_,_=>by trivial
 |0,.msl ..,_,_,hf,_,_=>by trivial
 |0,.agg _,_,_,hf,_,_=>by trivial
 |0,.tup _,_,_,hf,_,_=>by trivial
 |0,.fn _ _,_,_,hf,_,_=>by trivial
 |0,.mp _,_,_,hf,_,_=>by trivial
 |_+1,.mp _,_,_,hf,_,_=>by trivial
 |d+1,.ptr id ver off,p,v,hf,a4,hr=>by
  simp only[frz] at hf;split at hf
  .rename_i cells hg;split at hf
   .rename_i b8
    cases hm:cells.mapM (frz h d) with
    |none=>grind
    |some r=>
     simp only[hm,dZ,cV] at hf;subst hf;obtain⟨h1,h2⟩:=jU hm;obtain⟨b,C,rfl,hd,hvC,ha⟩:=hr.pb;rw[<-b8] at ha hvC;obtain⟨cs,e,hh,hC,hle,hbB,h8⟩:=hs.read (h9 id cells hg) hd ha hvC.2
     have:=Rep.ip (G:=G') (w:=w) (o:=off) (b:=b) (off:=0) (cells:=r) (λj=>cs.getD j undef) (λj hj=>by
      have:j<cs.size:=ab
      rw[dJ,nG hh];simp[this]) (λ_=>hG1 id cells b C hg ha hbB) (λj q hq=>by
      obtain⟨x,hx,ag⟩:=h2 j q hq
      have hj:j<cs.size:=by have:=(fg.1 hx).1;omega
      exact ry hs hL h9 own hG1 hG2 hG3 d x q _ ag (λe=>by have:=a4 e;simp only[eh,hg] at this;grind) (by rw[hL];exact h8 j x _ hx (by simp[hj])))
     rw[dJ] at this;exact this
   .cases hf
  .cases hf
 |d+1,.msl id ver sz off k,p,v,hf,a4,hr=>by
  simp only[frz] at hf;split at hf
  .rename_i cells hg;split at hf
   .rename_i b8
    cases hm:cells.mapM (frz h d) with
    |none=>grind
    |some r=>
     simp only[hm,dZ,cV,yJ] at hf;subst hf;obtain⟨h1,h2⟩:=jU hm;obtain⟨a0,cap,rfl,hk,hd,_,h3,h4⟩:=hr.nX;rw[<-b8] at h3 h4
     cases ha:m.addr id cells.length with
     |none=>
      obtain⟨rfl,h5⟩:=h3 ha;have cw:r=[]:=iJ ab;subst cw
      have:k=0:=ab
      subst this
      cases a0 with
      |none=>simpa using Rep.slnil
      |some a1=>simpa using Rep.slz (bU _)
     |some bc=>
      obtain⟨b,C⟩:=bc;obtain⟨h5,h6,h7⟩:=h4 b C ha;obtain⟨cs,e,hh,hC,hle,hbB,h8⟩:=hs.read (h9 id cells hg) hd ha ab
      cases hL2:(r.drop off).take (k*sz) with
      |nil=>
       cases a0 with
       |none=>
        have b4:cap=0:=by
         simp_all
        subst b4
        have:k=0:=ab
        subst this;exact .slnil
       |some a1=>exact .slz hk
      |cons y ys=>
       have b4:0<cap:=by
        rcases lR cap with h|h
        .have:k=0:=ab
         rw[this] at hL2;simp at hL2
        .exact h
       rw[h5 b4,<-hL2]
       have a6:∀j,j<((r.drop off).take (k*sz)).length->off+j<cs.size/\j<k*sz:=by
        grind
       refine .sl (λj=>cs.getD (off+j) undef) hk (λj hj=>?_) (λ_=>hG1 id cells b C hg ha hbB) (λj q hq=>?_)
       .rw[nG hh];simp_all
       .have hj:=(fg.1 hq).1;rw[lQ,cu (a6 j hj).2,xV] at hq;obtain⟨x,hx,ag⟩:=h2 (off+j) q hq;exact ry hs hL h9 own hG1 hG2 hG3 d x q _ ag (λe=>by have:=a4 e;simp only[eh,hg] at this;grind) (by rw[hL];exact h8 (off+j) x _ hx al)
   .cases hf
  .cases hf
 |d+1,.agg cs,p,v,hf,a4,hr=>by
  simp only[frz] at hf
  cases hm:cs.mapM (frz h d) with
  |none=>grind
  |some r=>
   simp only[hm,dZ,cV] at hf;subst hf;obtain⟨h1,h2⟩:=jU hm
   cases hr with
   |agg hl h8=>exact .agg ab (λj q u hq hu=>by
     obtain⟨x,hx,ag⟩:=h2 j q hq
     exact ry hs hL h9 own hG1 hG2 hG3 d x q u ag (λe=>by have:=a4 e;simp only[eh] at this;grind) (h8 j x u hx hu))
 |d+1,.tup cs,p,v,hf,a4,hr=>by
  simp only[frz] at hf
  cases hm:cs.mapM (frz h d) with
  |none=>grind
  |some r=>
   simp only[hm,dZ,cV] at hf;subst hf;obtain⟨h1,h2⟩:=jU hm
   cases hr with
   |tup hl h8=>exact .tup ab (λj q u hq hu=>by
     obtain⟨x,hx,ag⟩:=h2 j q hq
     exact ry hs hL h9 own hG1 hG2 hG3 d x q u ag (λe=>by have:=a4 e;simp only[eh] at this;grind) (h8 j x u hx hu))
 |d+1,.fn f cs,p,v,hf,a4,hr=>by
  simp only[frz] at hf
  cases hm:cs.mapM (frz h d) with
  |none=>grind
  |some r=>
   simp only[hm,dZ,cV] at hf;subst hf;obtain⟨h1,h2⟩:=jU hm
   cases hr with
   |fn hl h8=>exact .fn ab (λj q u hq hu=>by
     obtain⟨x,hx,ag⟩:=h2 j q hq
     exact ry hs hL h9 own hG1 hG2 hG3 d x q u ag (λe=>by have:=a4 e;simp only[eh] at this;grind) (h8 j x u hx hu))
end
def Mm.cut(m:Mm)(n n':Nat):Mm:=⟨λid ver=>if n<=id then none else m.addr id ver,λid=>if n<=id then 0 else m.top id,λi=>i<n'⟩
omit [bE] in
theorem bG.cut{B:Base}{L L':Nat->Prop}{m:Mm}{w:World}{x:AV}{v:Value}(h:bG B L m w x v){n n':Nat}(hn:∀i,m.dom i->i<n)(hl:x.lt n'=true)(hL:∀b,L' b->L b):bG B L' (m.cut n n') w x v:=by
 induction h with
 |w hr hf=>exact .w (hr.imp λb hg=>⟨λhb=>hg.1 (hL b hb),hg.2⟩) hf
 |ptr hd ht ha hC=>
  have:=hn _ hd;exact .ptr aY (by simp only[Mm.cut];rw[bN ab];exact ht) (by simp only[Mm.cut];rw[bN ab];exact ha) hC
 |mp hd ht ha=>
  have:=hn _ hd;exact .mp aY (by simp only[Mm.cut];rw[bN ab];exact ht) (by simp only[Mm.cut];rw[bN ab];exact ha)
 |msl hd ht hk h0 h1=>
  have:=hn _ hd;exact .msl aY (by simp only[Mm.cut];rw[bN ab];exact ht) hk (by simp only[Mm.cut];rw[bN ab];exact h0) (by simp only[Mm.cut];rw[bN ab];exact h1)
 |agg hlen _ ih=>exact .agg hlen (λj p v hp hv=>ih j p v hp hv (oL aE j p hp))
 |tup hlen _ ih=>exact .tup hlen (λj p v hp hv=>ih j p v hp hv (oL aE j p hp))
 |fn hlen _ ih=>exact .fn hlen (λj p v hp hv=>ih j p v hp hv (oL aE j p hp))
theorem GC(D:List Nat){env env':Env}{h h':bz}{n n' nt:Nat}(h1:uK D h n n' env env')(h2:ji D h n n' h')(hk:fk.k<=n'){B:Base}{w0:Ctx fk}{a:Act}{w:World}{m:Mm}(hs:Sim B w0 ⟨env,h,n,nt⟩ a w m):∃m',Sim B w0 ⟨env',h',n',nt⟩ a w m'/\∀x y v,oF D h n n' x y->bG B (LB m h) m w x v->bG B (LB m' h') m' w y v:=by
 have bv:∀i,m.dom i->i<n:=λi hd=>(hs.dom i).1 hd
 have ct:∀{i:Nat}{c c':List AV},(i,c)∈h->(i,c')∈h->c=c':=λh1 h2=>hs.heap.key h1 h2
 have hold:∀i c c0,(i,c)∈h'->bY h i=some c0->c0.length=c.length:=λi c c0 hin hg=>by
  have:=oV h2 i c hin;simp only[gS,hg] at this;exact (tY this.2.2).1
 have hL:∀b,LB (m.cut n n') h' b->LB m h b:=by
  rintro b ⟨id,c,C,hin,_,ha⟩
  have he:=oV h2 id c hin
  cases hg:bY h id with
  |none=>simp only[gS,hg] at he;simp only[Mm.cut] at ha;rw[cu he.1] at ha;cases ha
  |some c0=>
   have hm:=fZ hg;have hw:=hs.ids id c0 hm;simp only at hw;simp only[Mm.cut] at ha;rw[bN ab,<-hold id c c0 hin hg] at ha;exact⟨id,c0,C,hm,(hs.dom id).2 hw,ha⟩
 have hLD:∀id cs b C,bY (oE D h) id=some cs->m.addr id cs.length=some (b,C)->¬LB (m.cut n n') h' b:=by
  rintro id cs b C hg ha ⟨id2,c2,C2,ba,_,ay⟩
  obtain⟨hm,hD⟩:=wW hg;have he:=oV h2 id2 c2 ba
  cases bi:bY h id2 with
  |none=>simp only[gS,bi] at he;simp only[Mm.cut] at ay;rw[cu he.1] at ay;cases ay
  |some c0=>
   have bw:=fZ bi;have b5:=hs.ids id2 c0 bw;have hw:=hs.ids id cs hm;simp only at hw b5;simp only[Mm.cut] at ay;rw[bN ab,<-hold id2 c2 c0 ba bi] at ay;simp only[gS,bi] at he
   have bq:id≠id2:=λe=>he.2.1 (e▸hD)
   have jI:=hs.heap.inj;rw[sQ] at jI;obtain⟨p,hp,ep⟩:=kD hm;obtain⟨q,hq,eq⟩:=kD bw
   rcases Nat.lt_trichotomy p q with bk|bk|bk
   .have:=(jI p q hp hq bk).2 b C C2;rw[ep,eq] at this;exact this ((hs.dom _).2 hw) ((hs.dom _).2 b5) ha ay
   .simp_all
   .have:=(jI q p hq hp bk).2 b C2 C;rw[ep,eq] at this;exact this ((hs.dom _).2 b5) ((hs.dom _).2 hw) ay ha
 have h8:∀x y v,oF D h n n' x y->bG B (LB m h) m w x v->bG B (LB (m.cut n n') h') (m.cut n n') w y v:=by
  intro x y v hc hr
  rcases hc with ⟨g1,g2⟩|g|g
  .exact (Gf g1 hr).cut bv g2 hL
  .unfold AvF at g;split at g
   .rename_i own p
    refine .w (ry hs.heap rfl (λid cs e=>(wW e).1) own (λid cs b C hg ha hb=>⟨hLD id cs b C hg ha,λ_=>hb,λh=>ab⟩)
     (λb hg=>⟨λhl=>hg.1 (hL b hl),hg.2⟩) (λho b hg=>⟨λhl=>hg.1 (hL b hl),λ_=>hg.2.1 rfl,hg.2.2⟩) 6 x p v g.1 g.2 hr) nofun
   trivial
  .unfold xH at g;split at g
   .rename_i o id sz;obtain⟨a0,cap,hv,_,hf,_,_⟩:=hr.nW;rw[hv];have hc:=hf rfl;subst hc;exact .msl g.2 (by simp only[Mm.cut];rw[cu g.1];exact bU _) (bU _) (λ_=>⟨rfl,rfl⟩) (λb C e=>by simp only[Mm.cut] at e;rw[cu g.1] at e;cases e)
   trivial
 refine⟨m.cut n n',⟨hs.base,hs.below,hs.defers,hs.size,λt=>?_,⟨λid c hin hd=>?_,?_⟩,λi=>Iff.rfl,λid c hin=>?_,hk,λp hp=>⟨(hs.fr.2.1 p hp).1,(hs.fr.2.1 p hp).2.cut bv (AV.rQ hk (hs.fr.2.1 p hp).1) hL⟩,λq hq=>let ⟨o1,o2,o3,o4⟩:=hs.fr.2.2 q hq;⟨o1,o2,λh=>o3 (hL _ h),o4⟩⟩,h8⟩
 .show bG _ _ _ _ (get env' t) _
  rcases Gz h1 t with g1|g1
  .exact h8 _ _ _ g1 (hs.env t)
  .rw[g1];exact .w (.undef _) nofun
 .have he:=oV h2 id c hin
  cases hg:bY h id with
  |none=>
   simp only[gS,hg] at he;obtain⟨e1,_,rfl⟩:=he;exact⟨by simp only[Mm.cut];rw[cu e1];rfl,.inl ⟨by simp only[Mm.cut];rw[cu e1],rfl⟩⟩
  |some c0=>
   have hm:=fZ hg;have hw:=hs.ids id c0 hm;simp only at hw;have hlen:=hold id c c0 hin hg;simp only[gS,hg] at he;obtain⟨ht,cp⟩:=hs.heap.entry id c0 hm ((hs.dom id).2 hw);refine⟨by simp only[Mm.cut];rw[bN ab,ht,hlen],?_⟩
   rcases cp with ⟨g1,g2⟩|⟨b,C,cs,e,e1,e2,e3,e4,e5,e6⟩|⟨b,es,clk,e1,e2,e3,e4,e5⟩
   .refine .inl ⟨by simp only[Mm.cut];rw[bN ab,<-hlen];exact g1,?_⟩
    grind
   .refine .inr (.inl ⟨b,C,cs,e,by simp only[Mm.cut];rw[bN ab,<-hlen];exact e1,e2,e3,ab,e5,λj p v hp hv=>?_⟩);obtain⟨x,hx,d9⟩:=(tY he.2.2).2 j p hp
    grind
   .exact .inr (.inr ⟨b,es,clk,by simp only[Mm.cut];rw[bN ab,<-hlen];exact e1,(GB he.2.2 e2).1,e3,e4,λl hl=>e5 l ((GB he.2.2 e2).2 l hl)⟩)
 .have hk:=GA h2;refine sJ ?_ hk;intro x y hx hy bq;refine⟨bq,λb C C' _ _ b' bh=>?_⟩;have ex:=oV h2 x.1 x.2 hx;have ey:=oV h2 y.1 y.2 hy
  cases bn:bY h x.1 with
  |none=>simp only[gS,bn] at ex;simp only[Mm.cut] at b';rw[cu ex.1] at b';cases b'
  |some cx=>
   cases bo:bY h y.1 with
   |none=>simp only[gS,bo] at ey;simp only[Mm.cut] at bh;rw[cu ey.1] at bh;cases bh
   |some cy=>
    have mx:=fZ bn;have my:=fZ bo;have ix:=hs.ids _ _ mx;have iy:=hs.ids _ _ my;simp only at ix iy;simp only[Mm.cut] at b' bh;rw[bN ab,<-hold x.1 x.2 cx hx bn] at b';rw[bN ab,<-hold y.1 y.2 cy hy bo] at bh;have:=hs.heap.inj;rw[sQ] at this;obtain⟨p,hp,ep⟩:=kD mx;obtain⟨q,hq,eq⟩:=kD my;have dx:m.dom x.1:=(hs.dom _).2 ix;have dy:m.dom y.1:=(hs.dom _).2 iy
    grind
 .have he:=oV h2 id c hin;show id<n'
  cases hg:bY h id with
  |none=>simp only[gS,hg] at he;exact he.2.1
  |some c0=>simp only[gS,hg] at he;exact he.1
theorem eJ(D:List Nat){env env':Env}{h h':bz}{n n' nt:Nat}(h1:uK D h n n' env env')(h2:ji D h n n' h')(hk:fk.k<=n':=by first|exact cG _|omega|(simp;done)):Lek fk ⟨env,h,n,nt⟩ ⟨env',h',n',nt⟩:=by
 intro B w0 a w m hs;obtain⟨m',d8,_⟩:=GC D h1 h2 hk hs
 grind
attribute [simp] AvF xH oF gF uK gS ji oE
section
omit [bE]
@[simp]theorem OA(h:bz)(d:Nat)(o f:Bool)(p:PV):eh h d (.w o f p)=(o || flat p):=by cases d<;>rfl
@[simp high] theorem GD(h:bz)(d:Nat)(o f:Bool):∀l:List PV,(l.map (AV.w o f)).mapM (frz h d)=some l
 |[]=>rfl
 |p::r=>by simp[sK,GD h d o f r]
@[simp high] theorem Y0(h:bz)(d:Nat)(f:Bool):∀l:List PV,(l.map (AV.w true f)).all (eh h d)=true
 |[]=>rfl
 |p::r=>by simp
@[simp high] theorem rz(h:bz)(d:Nat)(o f:Bool):∀l:List PV,gA l=true->(l.map (AV.w o f)).all (eh h d)=true
 |[],_=>rfl
 |p::r,hl=>by
  simp only[gA,fe] at hl;simp only[jr,De,OA,hl.1,jv,fY];exact rz h d o f r hl.2
end
def uL:PV->Bool
 |.undef=>false
 |.tup _=>false
 |.agg _=>false
 |_=>true
omit [bE] in
@[simp]theorem wX(o f:Bool):∀l:List PV,l.all uL=true->eD (l.map (AV.w o f))=true
 |[],_=>rfl
 |p::r,hl=>by
  simp only[De,fe] at hl;simp only[jr,eD,wX o f r hl.2,ia]
  cases p<;>first|rfl|(simp[uL] at hl)
omit [bE] in
@[simp]theorem GF(n:Nat)(o f:Bool):∀l:List PV,AV.lt.ltL n (l.map (AV.w o f))=true
 |[]=>rfl
 |p::r=>by simp[AV.lt.ltL,AV.lt,GF n o f r]
theorem Bf{P:Program}{K:Exit->St->Prop}{c:Code}{id:Nat}{env:Env}{h:bz}{n nt:Nat}{α β:Type}(n':Nat)(J:α->Prop)(ks:List Nat)(mods:α->Env)(bj:List Nat)(hm:α->bz)(μ:α->Nat)(F:β->Prop)(fks:List Nat)(fmods:β->Env)(fhks:List Nat)(fhm:β->bz)(x0:α)(hJ:J x0)(h0:Lek fk ⟨env,h,n,nt⟩ ⟨mods x0++fE env ks,hm x0++fX h bj,n',nt⟩)(round:∀x,J x->cK fk P c ⟨mods x++fE env ks,hm x++fX h bj,n',nt⟩ (j5 fk J (λx=>⟨mods x++fE env ks,hm x++fX h bj,n',nt⟩) μ x (mD fk id F (λy=>⟨fmods y++fE env fks,fhm y++fX h fhks,n',nt⟩) K)))(after:∀y,F y->K .normal ⟨fmods y++fE env fks,fhm y++fX h fhks,n',nt⟩):cK fk P (.block id (.loop c)) ⟨env,h,n,nt⟩ K:=by
 refine gw (Ba (vH J (λx=>⟨mods x++fE env ks,hm x++fX h bj,n',nt⟩) μ x0 hJ h0 round) (λe s hk=>?_))
 cases e<;>first
  |exact hk.elim
  |exact⟨s,Lek.refl s,hk⟩
  |(simp only[mD] at hk
    simp only[iB];split at hk
    .rename_i hw;obtain⟨y,hy,hle⟩:=hk
     grind
    .rename_i hw
     exact⟨s,Lek.refl s,by rw[bN hw];exact hk⟩)
section
omit [bE]
@[simp]theorem Y1(z:List AV):iN 1 z=z:=by simp[iN]
@[simp]theorem Y2(z:List AV):iN 2 z=z++z:=by simp[iN,Jn]
@[simp]theorem OB{D:List Nat}{h:bz}{n n':Nat}{x y:List AV}:∀a:List AV,gF D h n n' (a++x) (a++y)=(gF D h n n' a a/\gF D h n n' x y)
 |[]=>propext ⟨λh=>⟨trivial,h⟩,λh=>h.2⟩
 |z::a=>by
  simp only[lP,gF,OB a,and_assoc]
end
end Go.Fi
namespace Go.Fi
open Go Go.RowKit Go.ChangeShapes Go.WideShapes
variable[bE]
def Match(w:World)(ps:List PV)(cs:List Value):Prop:=ps.length=cs.length/\∀(j:Nat)(p:PV)(v:Value),ps[j]?=some p->cs[j]?=some v->Rep (λ_=>True) w p v
omit [bE] in
theorem Match.append{w:World}{a b:List PV}{x y:List Value}(h1:Match w a x)(h2:Match w b y):Match w (a++b) (x++y):=by
 refine⟨by rw[uW,uW,h1.1,h2.1],λj p v hp hv=>?_⟩;by_cases hj:j<a.length
 .rw[sN hj] at hp;rw[sN (by rw[<-h1.1];exact hj)] at hv;exact h1.2 j p v hp hv
 .have hj:a.length<=j:=ab
  rw[sP hj] at hp;rw[sP (by rw[<-h1.1];exact hj),<-h1.1] at hv;exact h2.2 _ p v hp hv
omit [bE] in
theorem Match.one{w:World}{p:PV}{v:Value}(h:Rep (λ_=>True) w p v):Match w [p] [v]:=by
 refine⟨rfl,λj q u hq hu=>?_⟩
 grind
def Reads(P:Program)(t:TypeId){α:Type}(c:α->List PV):Prop:=
 ∀(H:Type)(enc:TypeId×Value->H)(w:World)(held:Bool)(fuel:Nat)(cs:List Value)(x:DataW H×List MemPlace),DataW.trod enc P w 0 (λ_=>true) held fuel t cs=some x->∃y:α,Match w (c y) cs
def xR(P:Program)(fs:List Field)(off:Nat){α:Type}(c:α->List PV)(s:Nat):Prop:=
 ∀(H:Type)(enc:TypeId×Value->H)(w:World)(held:Bool)(n:Nat)(cs:List Value),(∀f∈fs,∃x:DataW H×List MemPlace,DataW.trod enc P w 0 (λ_=>true) held n f.type ((cs.drop f.offset).take (P.cellsOf f.type))=some x) ->
  ∃y:α,Match w (c y) ((cs.drop off).take s)
section
variable{P:Program}{t e:TypeId}
section
omit [bE]
theorem Qv{k:IntKind}(ht:P.underlying t=some (.int k)):Reads P t (λn:Int=>[.int k n]):=by
 intro H enc w held fuel cs x h;obtain⟨n,rfl,_,_⟩:=DataW.trod_int ht h;exact⟨n,Match.one (.int _ _)⟩
theorem Qw(ht:P.underlying t=some .string):Reads P t (λs:ByteArray=>[.str s]):=by
 intro H enc w held fuel cs x h;obtain⟨n,rfl,_,_⟩:=DataW.trod_string ht h;exact⟨n,Match.one (.str _)⟩
theorem Qx(ht:P.underlying t=some .bool):Reads P t (λb:Bool=>[.bool b]):=by
 intro H enc w held fuel cs x h;obtain⟨n,rfl,_⟩:=DataW.trod_bool ht h;exact⟨n,Match.one (.bool _)⟩
theorem xj{α β:Type}{c:α->List PV}{c':β->List PV}(f:α->β)(hc:∀y,c y=c' (f y))(h:Reads P t c):Reads P t c':=by
 intro H enc w held fuel cs x hx;obtain⟨y,hy⟩:=h H enc w held fuel cs x hx
 grind
theorem Bz{off:Nat}:xR P [] off (λ_:Unit=>[]) 0:=by
 intro H enc w held n cs _;exact⟨(),by simp[Match]⟩
theorem lY{f:Field}{fs:List Field}{off s S:Nat}{α β:Type}{c:α->List PV}{c':β->List PV}(ho:f.offset=off)(hs:P.cellsOf f.type=s)(h:Reads P f.type c)(hr:xR P fs (off+s) c' S):xR P (f::fs) off (λy:α×β=>c y.1++c' y.2) (s+S):=by
 intro H enc w held n cs a9;obtain⟨x,hx⟩:=a9 f iZ;rw[ho,hs] at hx;obtain⟨y,hy⟩:=h H enc w held n _ x hx;obtain⟨z,hz⟩:=hr H enc w held n cs (λg hg=>a9 g (eY _ hg));refine⟨(y,z),?_⟩;rw[List.take_add,List.drop_drop];exact hy.append hz
theorem BA{fs:Array Field}{s:Nat}{α:Type}{c:α->List PV}(ht:P.underlying t=some (.struct fs))(hs:P.cellsOf t=s)(h:xR P fs.toList 0 c s):Reads P t c:=by
 intro H enc w held fuel cs x hx;obtain⟨xs,n,_,_,hl,c6,hf⟩:=DataW.trod_struct ht hx
 obtain⟨y,hy⟩:=h H enc w held n cs (λf hin=>by
  obtain⟨i,hi⟩:=List.mem_iff_getElem?.1 hin;rw[jo] at hi
  have a6:i<xs.length:=by rw[c6];exact (cT.1 hi).1
  exact⟨xs[i],by rw[hf i f hi];exact dO a6⟩)
 grind
theorem wQ{α:Type}{c:α->List PV}{s:Nat}(hl:∀x,(c x).length=s)(hs:0<s)(l:List α)(j:Nat)(hj:j<l.length*s):∃x,l[j / s]?=some x/\(l.flatMap c)[j]?=(c x)[j%s]?:=by
 induction l generalizing j with
 |nil=>simp at hj
 |cons a l ih=>
  simp only[pQ];by_cases h:j<s
  .refine⟨a,by rw[Nat.div_eq_of_lt h];rfl,?_⟩;rw[sN (by rw[hl];exact h),Nat.mod_eq_of_lt h]
  .have h:s<=j:=ab
   rw[fS,eU] at hj;obtain⟨x,h1,h2⟩:=ih (j-s) ab;refine⟨x,?_,?_⟩
   .rw[Nat.div_eq_sub_div hs h,sG];exact h1
   .rw[sP (by rw[hl];exact h),hl,h2,Nat.mod_eq_sub_mod h]
theorem uk{s:Nat}{α:Type}{c:α->List PV}(ht:P.underlying t=some (.slice e))(hs:P.cellsOf e=s)(a':0<s)(hl:∀x,(c x).length=s)(h:Reads P e c):Reads P t (λl:List α=>[.sl l.length (l.flatMap c)]):=by
 intro H enc w held fuel cs x hx
 rcases DataW.trod_slice ht hx with h0|⟨a,len,cap,elems,rest,n,_,rfl,_,_,hle,_,hlen,co,_,_⟩
 .rw[h0.1];exact⟨[],Match.one .slnil⟩
 .have each:∀i,i<len->∃y:α,Match w (c y) ((List.range s).map λj=>(w.cell? ((a.add (i*s)).add j)).getD undef)/\∀j,j<s->∃v,w.cell? ((a.add (i*s)).add j)=some v:=by
   intro i hi;have h1:=co i hi;rw[hs,dO ab] at h1;obtain⟨cs',cf,hy⟩:=Option.bind_eq_some_iff.1 h1;obtain⟨y,hy⟩:=h H enc w held n cs' _ hy;obtain⟨_,c9,h8⟩:=World.cells?_some cf;refine⟨y,?_,λj hj=>⟨cs'[j]'ab,by rw[h8 j ab];simp⟩⟩
   have e:(List.range s).map (λj=>(w.cell? ((a.add (i*s)).add j)).getD undef)=cs':=by
    apply List.ext_getElem
    .simp[c9]
    simp_all
   rw[e];exact hy
  have a9:∃l:List α,l.length=len/\∀i y,l[i]?=some y->Match w (c y) ((List.range s).map λj=>(w.cell? ((a.add (i*s)).add j)).getD undef):=by
   have:∀m,m<=len->∃l:List α,l.length=m/\∀i y,l[i]?=some y->Match w (c y) ((List.range s).map λj=>(w.cell? ((a.add (i*s)).add j)).getD undef):=by
    intro m
    induction m with
    |zero=>intro _;exact⟨[],rfl,λi y hy=>by simp at hy⟩
    |succ m ih=>
     intro hm;obtain⟨l,b6,bp⟩:=ih ab;obtain⟨y,hy,_⟩:=each m ab;refine⟨l++[y],by simp[b6],λi z hz=>?_⟩;by_cases hi:i<m
     .rw[sN ab] at hz;exact bp i z hz
     .have:i=m:=by
       have:=(fg.1 hz).1;simp[b6] at this;omega
      subst this;rw[sP ab,b6] at hz;simp at hz;subst hz;exact hy
   simp_all
  obtain⟨l,b6,bp⟩:=a9;refine⟨l,Match.one ?_⟩;rw[b6]
  cases c8:l.flatMap c with
  |nil=>exact .slz hle
  |cons p ps=>
   rw[<-c8]
   have aq:(l.flatMap c).length=len*s:=by rw[tT c s hl,b6]
   have bb:0<len:=by
    grind
   obtain⟨_,_,hex⟩:=each 0 bb;obtain⟨v0,c5⟩:=hex 0 a'
   have aw:a=⟨a.block,a.off,none⟩:=by
    obtain⟨b,o,sp⟩:=a
    cases sp with
    |none=>rfl
    |some sp=>
     simp only[World.cell?,Addr.add] at c5
     split at c5<;>simp_all
   have b9:∀i j,(a.add (i*s)).add j=⟨a.block,a.off+(i*s+j),none⟩:=by
    intro i j;rw[aw,Addr.jH,Addr.jH]
    grind
   rw[aw]
   have bu:∀j,j / s*s+j%s=j:=λj=>by rw[Nat.mul_comm];exact Nat.div_add_mod j s
   have cq:∀j,j<len*s->j / s<len:=λj hj=>Nat.div_lt_of_lt_mul (by rw[Nat.mul_comm];exact hj)
   refine .sl (λj=>(w.cell? ⟨a.block,a.off+j,none⟩).getD undef) hle (λj hj=>?_) (λ_=>trivial) (λj q hq=>?_)
   .rw[aq] at hj;obtain⟨_,_,hex⟩:=each (j / s) (cq j hj);obtain⟨v,hv⟩:=hex (j%s) (xU _ a');rw[b9,bu] at hv
    grind
   .have hj:j<len*s:=by rw[<-aq];grind
    obtain⟨y,d6,d7⟩:=wQ hl a' l j (by rw[b6];exact hj);rw[d7] at hq
    have hm:=(bp (j / s) y d6).2 (j%s) q ((w.cell? ((a.add (j / s*s)).add (j%s))).getD undef) hq (by
     rw[jm,CV (xU _ a')];rfl)
    rw[b9,bu] at hm;exact hm
end
end
section
variable{H:Type}{enc:TypeId×Value->H}{P:Program}
section
omit [bE]
theorem Qy{f:Func}{s:ChangeSpec}{apart fresh handsOn again:Bool}{W W':World}{args:Array Value}{v:Value}{ds gs:List (DataW H)}{before pa pv:List MemPlace}(hW:DataW.Whole enc P f.params.toList s.vars apart W args.toList ds gs before)(bg:∀(b:Nat)(sp:Nat->Bool)(hd:Bool),DataW.TrodAll enc P W' b sp hd f.resultTypes.toList (v.resultList f.resultTypes.size) (s.fn H (ds++gs)).results [])(ao:∀sp:Nat->Bool,(∀p∈before,sp p.block=true)->DataW.TrodAll enc P W' 0 sp true f.params.toList args.toList (s.fn H (ds++gs)).args pa)(ax:∀sp:Nat->Bool,(∀p∈before,sp p.block=true)->DataW.TrodVars enc P W' sp s.vars (s.fn H (ds++gs)).vars pv)(br:before=pa++pv)(hb:Bel W.heap.size W W')(cv:∀(j:Nat)(t:TypeId)(r:Value),f.resultTypes[j]?=some t->(v.resultList f.resultTypes.size)[j]?=some r->Value.okWide P W' .any 0 t r):s.post enc P f apart fresh handsOn again W args v W':=by
 have a6:∀p∈before,p.block<W.heap.size:=λp hp=>hW.lt p hp
 have hold:∀p∈before,(λb=>decide (b<W.heap.size)) p.block=true:=λp hp=>by simp_all
 refine⟨ds,gs,before,[],pa,pv,hW,bg _ _ _,ao _ hold,ax _ hold,World.keptBut_mono (λp hp=>⟨hp,?_⟩) (hb.frame (·∈before)),λ_=>?_⟩
 .rw[br,js] at hp
  grind
 .obtain⟨_,_,_,_,_,hz,hn⟩:=hW;refine⟨cv,_,_,([]++pa)++pv,⟨[]++pa,pv,trodAll_append (ao _ (λ_ _=>rfl)) (bg _ _ _),ax _ (λ_ _=>rfl),rfl,?_,?_⟩,?_⟩
  .intro b off hp
   have hin:MemPlace.cell b off∈before:=by rw[br];simpa using hp
   rw[hb.frozen (a6 _ hin)];exact hz b off hin
  .intro ha;have:=hn ha;rw[br] at this;simpa using this
  simp_all
theorem HJ(hl:laidOutB P=true){W W':World}(hb:Bel W.heap.size W W'){sp:Nat->Bool}:∀{ts:List TypeId}{vs:List Value}{ds:List (DataW H)}{ps:List MemPlace},(∀t∈ts,P.readableRec t=true/\t<P.types.size)->DataW.TrodAll enc P W 0 (λ_=>true) true ts vs ds ps->(∀x∈ps,x.block<W.heap.size)->(∀x∈ps,sp x.block=true)->DataW.TrodAll enc P W' 0 sp true ts vs ds ps
 |[],[],[],_,_,h,_,_=>h
 |t::ts,v::vs,d::ds,ps,hr,h,a6,bl=>by
  obtain⟨p,q,h1,h2,rfl⟩:=h;refine⟨p,q,?_,HJ hl hb (λt ht=>hr t (eY _ ht)) h2 (λx hx=>a6 x (List.mem_append_right _ hx)) (λx hx=>bl x (List.mem_append_right _ hx)),rfl⟩;obtain⟨r1,r2⟩:=hr t iZ;exact WideElems.Trod_stays hl r1 r2 h1 (λx hx=>hb.same (a6 x (List.mem_append_left _ hx))) (λx hx=>bl x (List.mem_append_left _ hx))
 |[],[],_::_,_,_,h,_,_=>h.elim
 |[],_::_,_,_,_,h,_,_=>h.elim
 |_::_,[],_,_,_,h,_,_=>h.elim
 |_::_,_::_,[],_,_,h,_,_=>h.elim
theorem TF{f:Func}{s:ChangeSpec}{apart fresh handsOn again:Bool}{W W':World}{args:Array Value}{ds gs:List (DataW H)}{before:List MemPlace}{tb:TypeId}(hl:laidOutB P=true)(hW:DataW.Whole enc P f.params.toList s.vars apart W args.toList ds gs before)(hv:s.vars=[])(a5:s.fn H (ds++gs) = { results:=[.lit (.bool true)],args:=ds })(hr:f.resultTypes=#[tb])(c4:P.underlying tb=some .bool)(b7:(f.params.toList.all λt=>P.readableRec t&&decide (t<P.types.size))=true)(hb:Bel W.heap.size W W'):s.post enc P f apart fresh handsOn again W args (.bool true) W':=by
 have bf:∀t∈f.params.toList,P.readableRec t=true/\t<P.types.size:=λt ht=>by
  have:=gm.1 b7 t ht;simp_all
 have a6:∀p∈before,p.block<W.heap.size:=λp hp=>hW.lt p hp
 have c7:=hW;obtain⟨p,q,hA,hV,rfl,_,_⟩:=hW;rw[hv] at hV
 have hq:q=[]/\gs=[]:=by
  cases gs with
  |nil=>trivial
  |cons _ _=>exact hV.elim
 obtain⟨rfl,rfl⟩:=hq;refine Qy (pa:=p) (pv:=[]) c7 (λb sp hd=>?_) (λsp bl=>?_) (λsp _=>?_) rfl hb ?_
 .rw[a5,hr];exact trodAll_mk1 (shut_bool c4 true)
 .rw[a5];exact HJ hl hb bf hA (λx hx=>a6 x ak) (λx hx=>bl x ak)
 .rw[a5,hv];rfl
 .rw[hr];intro j t r hj hv
  match j,hj,hv with
  |0,hj,hv=>
   simp[Value.resultList] at hj hv;subst hj;subst hv;simp only[Value.okWide,c4,Cell.okWide,Cell.ok]
end
end
section
variable{P:Program}{t:TypeId}{W:World}
omit [bE] in
theorem TG{α:Type}{c:α->List PV}(h:Reads P t c){fs:Array Field}(ht:P.underlying t=some (.struct fs)){r:Reach}{base:Nat}{v:Value}(aa:Value.okWide P W r base t v){H:Type}{enc:TypeId×Value->H}{held:Bool}{d:DataW H}{ps:List MemPlace}(hd:DataW.Trod enc P W 0 (λ_=>true) held t v d ps):∃y:α,Rep (λ_=>True) W (.agg (c y)) v:=by
 simp only[Value.okWide,ht] at aa;obtain⟨cs,rfl,_,_⟩:=aa;obtain⟨fuel,hd⟩:=hd;obtain⟨y,hy⟩:=h H enc W held fuel _ _ hd;simp only[Value.cells] at hy;exact⟨y,.agg (by simpa using hy.1) (λj p u hp hu=>hy.2 j p u hp (by rw[jo];exact hu))⟩
end
section
variable{P:Program}{t e:TypeId}{W:World}
section
omit [bE]
theorem Qz{s:Nat}{α:Type}{c:α->List PV}(ht:P.underlying t=some (.array 2 e))(hs:P.cellsOf e=s)(d3:P.cellsOf t=s+s)(h:Reads P e c):Reads P t (λy:α×α=>c y.1++c y.2):=by
 intro H enc w held fuel cs x hx;obtain⟨xs,n,_,_,hl,c6,hf⟩:=DataW.trod_array ht hx;have f0:=hf 0 ab;have f1:=hf 1 ab;rw[dO ab,hs] at f0 f1;obtain⟨y,hy⟩:=h H enc w held n _ _ f0;obtain⟨z,hz⟩:=h H enc w held n _ _ f1;refine⟨(y,z),?_⟩;rw[pO,List.drop_zero] at hy;rw[Nat.one_mul] at hz
 have e:cs=cs.take s++(cs.drop s).take s:=by
  rw[qX (l:=cs.drop s) (by rw[xX,hl,d3];omega),yd]
 rw[e];exact hy.append hz
theorem QA{α:Type}{p:α->PV}(h:Reads P t (λy=>[p y])){v:Value}(hv:v.cells=#[v]){H:Type}{enc:TypeId×Value->H}{held:Bool}{d:DataW H}{ps:List MemPlace}(hd:DataW.Trod enc P W 0 (λ_=>true) held t v d ps):∃y:α,Rep (λ_=>True) W (p y) v:=by
 obtain⟨fuel,hd⟩:=hd;obtain⟨y,hy⟩:=h H enc W held fuel _ _ hd;rw[hv] at hy;exact⟨y,hy.2 0 _ v rfl rfl⟩
theorem TH{α:Type}{p:α->PV}(h:Reads P t (λy=>[p y]))(ht:P.underlying t=some (.slice e)){r:Reach}{base:Nat}{v:Value}(aa:Value.okWide P W r base t v){H:Type}{enc:TypeId×Value->H}{held:Bool}{d:DataW H}{ps:List MemPlace}(hd:DataW.Trod enc P W 0 (λ_=>true) held t v d ps):∃y:α,Rep (λ_=>True) W (p y) v:=by
 obtain⟨a,len,cap,rfl⟩:=okWide_slice ht aa;exact QA h rfl hd
end
end
end Go.Fi
namespace Go.Fi
open Go Go.RowKit
variable[bE]
variable{fk:Fk}
theorem ON{P:Program}{K:Exit->St->Prop}{rid d1 d2 t ty1 ty2 e:Nat}{p1 p2:String}{a1 a2:Array Edge}{st tt:TypeId}{env:Env}{h:bz}{n nt:Nat}{ow fl:Bool}{k:Nat}{cells:List PV}(hu:P.underlying st=some (.slice e))(hg:get env t=.w ow fl (.sl k cells))(cg:d1<nt)(cl:d2<nt)(hk:∀b:Bool,(b=true->k=0/\cells=[])->K .normal ⟨(d2,.w false false (.bool b))::(d1,.w ow fl (.sl k cells))::env,h,n,nt⟩):cK fk P (.region rid #[⟨some d1,.move (.tmp t),ty1,p1,a1,none⟩,⟨some d2,.binOp .eql st (.tmp d1) (.const (.slice none 0 0)) tt,ty2,p2,a2,none⟩] false) ⟨env,h,n,nt⟩ K:=by
 intro B w0 a w m hs;refine qY ?_;simp only[ir,Region.wanted,cz];intro w e1x;replace hs:=hs.move e1x;refine jS (λc e=>by cases e) (vG w0 (⟨some d1,.move (.tmp t),ty1,p1,a1,none⟩:Oper) (K:=λv h' n'=>v=get env t/\h'=h/\n'=n) ae hs cg _ _ ?_)
 rintro v h' n' a w m ⟨rfl,rfl,rfl⟩ hs
 intro w e1x;replace hs:=hs.move e1x;refine jS (λc e=>by cases e) ?_;rw[hg] at hs
 have hx:bG B (LB m h') m w (.w ow fl (.sl k cells)) (a.eval (.tmp d1)):=by
  have:=hs.env d1;rw[show get (St.env ⟨put env (some d1) (.w ow fl (.sl k cells)),h',n',nt⟩) d1=.w ow fl (.sl k cells) from ae] at this;exact this
 obtain⟨a0,cap,hv,_,_,c3,bq⟩:=hx.nW
 have bt:(execOp a.eval ⟨some d2,.binOp .eql st (.tmp d1) (.const (.slice none 0 0)) tt,ty2,p2,a2,none⟩).run P w=.ok (.value (.bool a0.isNone)) w:=by
  have d4:a.eval (.tmp d1)=.slice a0 k cap:=hv;have hc:a.eval (.const (.slice none 0 0))=.slice none 0 0:=rfl
  have cm:∀d,(Op.equalIn (d+1) st (.slice a0 k cap) (.slice none 0 0)).run P w=.ok a0.isNone w:=λd=>by
   rw[Op.equalIn,Sem.run_bind,run_underlying hu];simp only[Result.andThen_ok]
   cases a0<;>rfl
  have he:(Op.equal st (.slice a0 k cap) (.slice none 0 0)).run P w=.ok a0.isNone w:=cm 9999;have hg:(eqGuard .eql st (.tmp d1) (.const (.slice none 0 0)) (.slice a0 k cap) (.slice none 0 0)).run P w=.ok () w:=rfl;simp[execOp,d4,hc,hg,binOp,he]
 unfold Oper.wpt;rw[bt,Oper.oZ];refine⟨_,m,hk a0.isNone (λhb=>?_),hs.base,hs.below,by rw[kX];exact hs.defers,by rw[kU];exact hs.size,?_,hs.heap,hs.dom,hs.ids,hs.fr⟩
 .have:a0=none:=by cases a0 with
   |none=>rfl
   |some x=>cases hb
  simp_all
 .exact nJ _ a (some d2) _ _ (by show d2<a.tmps.size;rw[hs.size];exact cl) (il _) hs.env
def pS(M:List (ByteArray×Int)):List (PV×PV):=M.map λp=>(.str p.1,.int .i64 p.2)
def mS(M:List (ByteArray×Int)):List AV:=[gz (pS M)]
section
omit [bE]
theorem Px{D:List Nat}{h:bz}{n n':Nat}(o f:Bool)(p:PV):oF D h n n' (.w o f p) (.w false false p):=.inl ⟨⟨nofun,nofun,.inl rfl⟩,rfl⟩
@[simp]theorem Z7(M:List (ByteArray×Int)):(mS M).length=1:=rfl
@[simp]theorem zc9(M:List (ByteArray×Int))(n:Nat):AV.lt.ltL n (mS M)=true:=rfl
end
def xN(c:Bool)(r:Option Int):AV:=
 match c,r with
 |true,some v=>.w false false (.tup [.int .i64 v,.bool true])
 |true,none=>.w false false (.tup [.int .i64 0,.bool false])
 |false,some v=>.w false false (.int .i64 v)
 |false,none=>.w false false (.int .i64 0)
section
omit [bE]
@[simp]theorem Z8(v:Int):xN true (some v)=.w false false (.tup [.int .i64 v,.bool true]):=rfl
@[simp]theorem Z9:xN true none=.w false false (.tup [.int .i64 0,.bool false]):=rfl
@[simp]theorem zaa(h:bz)(id:Nat):mpC h (.mp id)=bY h id:=rfl
end
def sA(h:bz)(id:Nat)(cells:Option (List AV))(r:Option (TypeDesc×PV))(k v:AV):Option (Prop×bz):=
 match cells.bind fI,k,v,r with
 |some l,.w _ _ kp,.w _ _ vp,some (d,_)=>some ((okM d kp l=true/\isLit vp=true),dm h id [gz (iO l kp vp)])
 |_,_,_,_=>none
def CL(h:bz)(r:Option (TypeDesc×PV))(m k v:AV):Option (Prop×bz):=
 match m with
 |.mp id=>sA h id (bY h id) r k v
 |_=>none
omit [bE] in
@[simp]theorem zab(h:bz)(r:Option (TypeDesc×PV))(id:Nat)(k v:AV):CL h r (.mp id) k v=sA h id (bY h id) r k v:=rfl
@[simp ↓]theorem zac{P:Program}{env:Env}{h:bz}{n:Nat}(t:TypeId)(x k:Operand)(c:Bool)(K:AV->bz->Nat->Prop):df P env h n (.lookup t x k c) K=aW (aOp P h n (ev env) (.lookup t x k c)) (eK h n K) .it:=rfl
@[simp ↓]theorem zad{P:Program}{env:Env}{h:bz}{n:Nat}(t:TypeId)(x k:Operand)(c:Bool)(K:AV->List (List AV)->Prop):de P env h n (.lookup t x k c) K=aW (aOp P h n (ev env) (.lookup t x k c)) K .it:=rfl
@[simp ↓]theorem zae{P:Program}{env:Env}{h:bz}{n:Nat}(t:TypeId)(K:AV->bz->Nat->Prop):df P env h n (.makeMap t none) K=pM (some ((lq P t).isSome=true,.mp n,(n,[gz []])::h,n+1)) K .it:=rfl
@[simp ↓]theorem zaf{P:Program}{env:Env}{h:bz}{n:Nat}(t:TypeId)(m k v:Operand)(K:AV->bz->Nat->Prop):df P env h n (.mapUpdate t m k v) K=sM (CL h (lq P t) (ev env m) (ev env k) (ev env v)) n K .it:=by
 show oe P env h n t m k v K=_;unfold oe CL sA
 cases ev env m with
 |mp id=>
  dsimp only
  cases (bY h id).bind fI<;>first
   |rfl
   |(cases ev env k<;>first
      |rfl
      |(cases ev env v<;>first
         |rfl
         |(cases lq P t<;>rfl)))
 |_=>rfl
section
omit [bE]
@[simp]theorem zag(a:Nat):qK (.mp a)=a:=rfl
@[simp]theorem zah(a:Nat)(D:List Nat):xF (.mp a) D=(a∈D):=rfl
@[simp]theorem zai(env:Env)(t:TypeId)(x k:Operand)(c:Bool)(D:List Nat):touch env (.lookup t x k c) D=True:=rfl
@[simp]theorem zaj(env:Env)(t:TypeId)(m k v:Operand)(D:List Nat):touch env (.mapUpdate t m k v) D=xF (ev env m) D:=rfl
end
def nA(l:List ByteArray):List AV:=(l.map PV.str).map (AV.w false false)
omit [bE] in
@[simp]theorem zak:nA []=[]:=rfl
end Go.Fi
