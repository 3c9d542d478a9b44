/- Lemmas. -/
import Derived.Test.YthpkmilhiganjaaGreatPLe
import Derived.ProofKit
import Derived.Carry
import Derived.ChangeSame
import Derived.ChangeArms
import Derived.OpenShut
set_option linter.all false
set_option maxHeartbeats 32000000
set_option maxRecDepth 100000
namespace Go.Fi
open Go Go.RowKit
variable[bJ]
variable{fk:Fk}
def qM(D:List Nat):bD->bD
 |[]=>[]
 |(k,v)::r=>if k∈D then (k,v)::qM D r else qM D r
omit [bJ] in
theorem xc{D:List Nat}:∀{h:bD}{id:Nat}{c:List AV},cV (qM D h) id=some c->(id,c)∈h/\id∈D
 |[],id,c,e=>by cases e
 |(k,v)::r,id,c,e=>by
  simp only[qM] at e;split at e
  .rename_i hk;simp only[cV] at e;split at e
   .simp_all
   .obtain⟨h1,h2⟩:=xc e;simp_all
  .obtain⟨h1,h2⟩:=xc e;simp_all
def AvF(h:bD)(x y:AV):Prop:=
 match y with
 |.w own false p=>frz h 6 x=some p/\(own=true->fF h 6 x=true)
 |_=>False
def xL(n n':Nat)(x y:AV):Prop:=
 match x,y with
 |.w _ true (.sl 0 []),.msl id 0 _ 0 0=>n<=id/\id<n'
 |_,_=>False
def oF(D:List Nat)(h:bD)(n n':Nat)(x y:AV):Prop:=(sr x y/\y.lt n'=true)\/AvF (qM D h) x y\/xL n n' x y
def iq(D:List Nat)(h:bD)(n n':Nat):List AV->List AV->Prop
 |[],[]=>True
 |x::a,y::b=>oF D h n n' x y/\iq D h n n' a b
 |_,_=>False
def uK(D:List Nat)(h:bD)(n n':Nat)(env:Env):Env->Prop
 |[]=>True
 |(t,v)::r=>oF D h n n' (get env t) v/\uK D h n n' env r
def jy(D:List Nat)(h:bD)(n n':Nat)(i:Nat)(c:List AV):Prop:=
 match cV h i with
 |some c0=>i<n'/\¬i∈D/\iq D h n n' c0 c
 |none=>n<=i/\i<n'/\c=[]
def nH(D:List Nat)(h:bD)(n n':Nat):bD->Prop
 |[]=>True
 |(i,c)::r=>jy D h n n' i c/\cV r i=none/\nH D h n n' r
section
omit [bJ]
theorem tV{D:List Nat}{h:bD}{n n':Nat}:∀{a b:List AV},iq D h n n' a b->a.length=b.length/\∀(j:Nat)(y:AV),b[j]?=some y->∃x,a[j]?=some x/\oF D h n n' x y
 |[],[],_=>⟨rfl,λj y h=>by simp at h⟩
 |x::a,y::b,hc=>by
  obtain⟨h1,h2⟩:=hc;obtain⟨h3,h4⟩:=tV h2
  grind
 |[],_::_,hc=>hc.elim
 |_::_,[],hc=>hc.elim
theorem qu{D:List Nat}{h:bD}{n n':Nat}(o f:Bool):∀l:List PV,iq D h n n' (l.map (.w o f)) (l.map (.w o f))
 |[]=>trivial
 |p::r=>⟨.inl ⟨⟨λh=>h,λh=>h,.inl rfl⟩,rfl⟩,qu o f r⟩
theorem Gw{D:List Nat}{h:bD}{n n':Nat}:∀{env' env:Env},uK D h n n' env env'->∀t,oF D h n n' (get env t) (get env' t)\/get env' t=.w false false .undef
 |[],env,_,t=>.inr rfl
 |(k,v)::r,env,hh,t=>by
  obtain⟨h1,h2⟩:=hh;simp only[get];split
  .simp_all
  .exact Gw h2 t
theorem oX{D:List Nat}{h:bD}{n n':Nat}:∀{h':bD},nH D h n n' h'->∀i c,(i,c)∈h'->jy D h n n' i c
 |[],_,i,c,hin=>by cases hin
 |(k,v)::r,hh,i,c,hin=>by
  obtain⟨h1,h2,h3⟩:=hh
  rcases ew.1 hin with e|e
  .simp_all
  .exact oX h3 i c e
theorem Gx{D:List Nat}{h:bD}{n n':Nat}:∀{h':bD},nH D h n n' h'->h'.Pairwise λp q=>p.1≠q.1
 |[],_=>List.Pairwise.nil
 |(k,v)::r,hh=>by
  obtain⟨h1,h2,h3⟩:=hh;exact I4.2 ⟨λq hq e=>Be h2 q hq e.symm,Gx h3⟩
theorem Gy{D:List Nat}{h:bD}{n n':Nat}{c0 c:List AV}(hc:iq D h n n' c0 c)(hm:jP c0=true):jP c=true/\∀l,fM c=some l->fM c0=some l:=by
 obtain⟨hl,hr⟩:=tV hc;have h1:=yS hm
 match c0,c,h1,hl with
 |[x],[y],_,_=>
  obtain⟨x',hx,cv⟩:=hr 0 y rfl;simp at hx;subst hx
  cases x with
  |w o f p=>
   rcases cv with ⟨h2,_⟩|h2|h2
   .cases y with
    |w o' f' p'=>
     obtain⟨_,_,h3⟩:=h2
     rcases h3 with rfl|⟨rfl,_⟩
     .refine⟨?_,λl hl=>?_⟩
      .cases p'<;>simp_all[jP]
      .cases p'<;>simp_all[fM]
     .exact⟨rfl,λl hl=>aE⟩
    |_=>cases h2
   .cases y with
    |w o' f' p'=>
     cases f' with
     |true=>cases h2
     |false=>
      obtain⟨h3,_⟩:=h2;simp only[frz,dg] at h3;subst h3;refine⟨?_,λl hl=>?_⟩
      .cases p<;>simp_all[jP]
      .cases p<;>simp_all[fM]
    |_=>cases h2
   .cases p<;>simp[jP] at hm<;>(unfold xL at h2;split at h2<;>first|exact h2.elim|simp_all)
  |_=>simp[jP] at hm
theorem rz{B:Base}{m:Mm}{w:World}{H h:bD}{G':Nat->Prop}{L:Nat->Prop}(hs:dc B H m w)(hL:L=LB m H)(h9:∀id cs,cV h id=some cs->(id,cs)∈H)(own:Bool)(hG1:∀id cs b C,cV h id=some cs->m.addr id cs.length=some (b,C)->B.n<=b->G' b)(hG2:∀b,Good B L own b->G' b)(hG3:own=true->∀b,Good B L true b->G' b):∀(d:Nat)(x:AV)(p:PV)(v:Value),frz h d x=some p->(own=true->fF h d x=true)->bI B L m w x v->Rep G' w p v
 |d,.w o f q,p,v,hf,a4,hr=>by
  have:q=p:=by cases d<;>(simp[frz] at hf;exact hf)
  subst this
  cases hr with
  |w hr _=>
   cases bl:own with
   |false=>exact hr.imp λb hg=>hG2 b ⟨hg.1,(λh=>by rw[bl] at h;cases h),hg.2.2⟩
   |true=>
    have h1:=a4 bl
    have h2:(o || flat q)=true:=by cases d<;>exact h1
    cases o with
    |true=>exact hr.imp λb hg=>hG3 bl b hg
    |false=>exact vB ak hr
 |0,.ptr ..,_,_,hf,_,_=>by trivial
 |0,.msl ..,_,_,hf,_,_=>by trivial
 |0,.agg _,_,_,hf,_,_=>by trivial
 |0,.tup _,_,_,hf,_,_=>by trivial
 |0,.fn _ _,_,_,hf,_,_=>by trivial
 |0,.mp _,_,_,hf,_,_=>by trivial
 |_+1,.mp _,_,_,hf,_,_=>by trivial
 |d+1,.ptr id ver off,p,v,hf,a4,hr=>by
  simp only[frz] at hf;split at hf
  .rename_i cells hg;split at hf
   .rename_i b8
    cases hm:cells.mapM (frz h d) with
    |none=>grind
    |some r=>
     simp only[hm,eI,dg] at hf;subst hf;obtain⟨h1,h2⟩:=j1 hm;obtain⟨b,C,rfl,hd,hvC,ha⟩:=hr.pg;rw[<-b8] at ha hvC;obtain⟨cs,e,hh,hC,hle,hbB,h8⟩:=hs.read (h9 id cells hg) hd ha hvC.2
     have:=Rep.ip (G:=G') (w:=w) (o:=off) (b:=b) (off:=0) (cells:=r) (λj=>cs.getD j undef) (λj hj=>by
      have:j<cs.size:=ab
      rw[eo,nL hh];simp[this]) (λ_=>hG1 id cells b C hg ha hbB) (λj q hq=>by
      obtain⟨x,hx,ag⟩:=h2 j q hq
      have hj:j<cs.size:=by have:=(fu.1 hx).1;omega
      exact rz hs hL h9 own hG1 hG2 hG3 d x q _ ag (λe=>by have:=a4 e;simp only[fF,hg] at this;grind) (by rw[hL];exact h8 j x _ hx (by simp[hj])))
     rw[eo] at this;exact this
   .cases hf
  .cases hf
 |d+1,.msl id ver sz off k,p,v,hf,a4,hr=>by
  simp only[frz] at hf;split at hf
  .rename_i cells hg;split at hf
   .rename_i b8
    cases hm:cells.mapM (frz h d) with
    |none=>grind
    |some r=>
     simp only[hm,eI,dg,yR] at hf;subst hf;obtain⟨h1,h2⟩:=j1 hm;obtain⟨a0,cap,rfl,hk,hd,_,h3,h4⟩:=hr.oe;rw[<-b8] at h3 h4
     cases ha:m.addr id cells.length with
     |none=>
      obtain⟨rfl,h5⟩:=h3 ha;have cq:r=[]:=iW ab;subst cq
      have:k=0:=ab
      subst this
      cases a0 with
      |none=>simpa using Rep.slnil
      |some a1=>simpa using Rep.slz (bV _)
     |some bc=>
      obtain⟨b,C⟩:=bc;obtain⟨h5,h6,h7⟩:=h4 b C ha;obtain⟨cs,e,hh,hC,hle,hbB,h8⟩:=hs.read (h9 id cells hg) hd ha ab
      cases hL2:(r.drop off).take (k*sz) with
      |nil=>
       cases a0 with
       |none=>
        have b4:cap=0:=by
         simp_all
        subst b4
        have:k=0:=ab
        subst this;exact .slnil
       |some a1=>exact .slz hk
      |cons y ys=>
       have b4:0<cap:=by
        rcases k9 cap with h|h
        .have:k=0:=ab
         rw[this] at hL2;simp at hL2
        .exact h
       rw[h5 b4,<-hL2]
       have a6:∀j,j<((r.drop off).take (k*sz)).length->off+j<cs.size/\j<k*sz:=by
        grind
       refine .sl (λj=>cs.getD (off+j) undef) hk (λj hj=>?_) (λ_=>hG1 id cells b C hg ha hbB) (λj q hq=>?_)
       .rw[nL hh];simp_all
       .have hj:=(fu.1 hq).1;rw[k8,bX (a6 j hj).2,x9] at hq;obtain⟨x,hx,ag⟩:=h2 (off+j) q hq;exact rz hs hL h9 own hG1 hG2 hG3 d x q _ ag (λe=>by have:=a4 e;simp only[fF,hg] at this;grind) (by rw[hL];exact h8 (off+j) x _ hx al)
   .cases hf
  .cases hf
 |d+1,.agg cs,p,v,hf,a4,hr=>by
  simp only[frz] at hf
  cases hm:cs.mapM (frz h d) with
  |none=>grind
  |some r=>
   simp only[hm,eI,dg] at hf;subst hf;obtain⟨h1,h2⟩:=j1 hm
   cases hr with
   |agg hl h8=>exact .agg ab (λj q u hq hu=>by
     obtain⟨x,hx,ag⟩:=h2 j q hq
     exact rz hs hL h9 own hG1 hG2 hG3 d x q u ag (λe=>by have:=a4 e;simp only[fF] at this;grind) (h8 j x u hx hu))
 |d+1,.tup cs,p,v,hf,a4,hr=>by
  simp only[frz] at hf
  cases hm:cs.mapM (frz h d) with
  |none=>grind
  |some r=>
   simp only[hm,eI,dg] at hf;subst hf;obtain⟨h1,h2⟩:=j1 hm
   cases hr with
   |tup hl h8=>exact .tup ab (λj q u hq hu=>by
     obtain⟨x,hx,ag⟩:=h2 j q hq
     exact rz hs hL h9 own hG1 hG2 hG3 d x q u ag (λe=>by have:=a4 e;simp only[fF] at this;grind) (h8 j x u hx hu))
 |d+1,.fn f cs,p,v,hf,a4,hr=>by
  simp only[frz] at hf
  cases hm:cs.mapM (frz h d) with
  |none=>grind
  |some r=>
   simp only[hm,eI,dg] at hf;subst hf;obtain⟨h1,h2⟩:=j1 hm
   cases hr with
   |fn hl h8=>exact .fn ab (λj q u hq hu=>by
     obtain⟨x,hx,ag⟩:=h2 j q hq
     exact rz hs hL h9 own hG1 hG2 hG3 d x q u ag (λe=>by have:=a4 e;simp only[fF] at this;grind) (h8 j x u hx hu))
end
def Mm.cut(m:Mm)(n n':Nat):Mm:=⟨λid ver=>if n<=id then none else m.addr id ver,λid=>if n<=id then 0 else m.top id,λi=>i<n'⟩
omit [bJ] in
theorem bI.cut{B:Base}{L L':Nat->Prop}{m:Mm}{w:World}{x:AV}{v:Value}(h:bI B L m w x v){n n':Nat}(hn:∀i,m.dom i->i<n)(hl:x.lt n'=true)(hL:∀b,L' b->L b):bI B L' (m.cut n n') w x v:=by
 induction h with
 |w hr hf=>exact .w (hr.imp λb hg=>⟨λhb=>hg.1 (hL b hb),hg.2⟩) hf
 |ptr hd ht ha hC=>
  have:=hn _ hd;exact .ptr aY (by simp only[Mm.cut];rw[bH ab];exact ht) (by simp only[Mm.cut];rw[bH ab];exact ha) hC
 |mp hd ht ha=>
  have:=hn _ hd;exact .mp aY (by simp only[Mm.cut];rw[bH ab];exact ht) (by simp only[Mm.cut];rw[bH ab];exact ha)
 |msl hd ht hk h0 h1=>
  have:=hn _ hd;exact .msl aY (by simp only[Mm.cut];rw[bH ab];exact ht) hk (by simp only[Mm.cut];rw[bH ab];exact h0) (by simp only[Mm.cut];rw[bH ab];exact h1)
 |agg hlen _ ih=>exact .agg hlen (λj p v hp hv=>ih j p v hp hv (oO aE j p hp))
 |tup hlen _ ih=>exact .tup hlen (λj p v hp hv=>ih j p v hp hv (oO aE j p hp))
 |fn hlen _ ih=>exact .fn hlen (λj p v hp hv=>ih j p v hp hv (oO aE j p hp))
theorem Gz(D:List Nat){env env':Env}{h h':bD}{n n' nt:Nat}(h1:uK D h n n' env env')(h2:nH D h n n' h')(hk:fk.k<=n'){B:Base}{w0:Ctx fk}{a:Act}{w:World}{m:Mm}(hs:Sim B w0 ⟨env,h,n,nt⟩ a w m):∃m',Sim B w0 ⟨env',h',n',nt⟩ a w m'/\∀x y v,oF D h n n' x y->bI B (LB m h) m w x v->bI B (LB m' h') m' w y v:=by
 have bu:∀i,m.dom i->i<n:=λi hd=>(hs.dom i).1 hd
 have co:∀{i:Nat}{c c':List AV},(i,c)∈h->(i,c')∈h->c=c':=λh1 h2=>hs.heap.key h1 h2
 have hold:∀i c c0,(i,c)∈h'->cV h i=some c0->c0.length=c.length:=λi c c0 hin hg=>by
  have:=oX h2 i c hin;simp only[jy,hg] at this;exact (tV this.2.2).1
 have hL:∀b,LB (m.cut n n') h' b->LB m h b:=by
  rintro b ⟨id,c,C,hin,_,ha⟩
  have he:=oX h2 id c hin
  cases hg:cV h id with
  |none=>simp only[jy,hg] at he;simp only[Mm.cut] at ha;rw[bX he.1] at ha;cases ha
  |some c0=>
   have hm:=gj hg;have hw:=hs.ids id c0 hm;simp only at hw;simp only[Mm.cut] at ha;rw[bH ab,<-hold id c c0 hin hg] at ha;exact⟨id,c0,C,hm,(hs.dom id).2 hw,ha⟩
 have hLD:∀id cs b C,cV (qM D h) id=some cs->m.addr id cs.length=some (b,C)->¬LB (m.cut n n') h' b:=by
  rintro id cs b C hg ha ⟨id2,c2,C2,ba,_,ay⟩
  obtain⟨hm,hD⟩:=xc hg;have he:=oX h2 id2 c2 ba
  cases bg:cV h id2 with
  |none=>simp only[jy,bg] at he;simp only[Mm.cut] at ay;rw[bX he.1] at ay;cases ay
  |some c0=>
   have bv:=gj bg;have b5:=hs.ids id2 c0 bv;have hw:=hs.ids id cs hm;simp only at hw b5;simp only[Mm.cut] at ay;rw[bH ab,<-hold id2 c2 c0 ba bg] at ay;simp only[jy,bg] at he
   have bp:id≠id2:=λe=>he.2.1 (e▸hD)
   have fA:=hs.heap.inj;rw[sQ] at fA;obtain⟨p,hp,ep⟩:=mV hm;obtain⟨q,hq,eq⟩:=mV bv
   rcases Jb p q with bj|bj|bj
   .have:=(fA p q hp hq bj).2 b C C2;rw[ep,eq] at this;exact this ((hs.dom _).2 hw) ((hs.dom _).2 b5) ha ay
   .simp_all
   .have:=(fA q p hq hp bj).2 b C2 C;rw[ep,eq] at this;exact this ((hs.dom _).2 b5) ((hs.dom _).2 hw) ay ha
 have h8:∀x y v,oF D h n n' x y->bI B (LB m h) m w x v->bI B (LB (m.cut n n') h') (m.cut n n') w y v:=by
  intro x y v hc hr
  rcases hc with ⟨g1,g2⟩|g|g
  .exact (Gc g1 hr).cut bu g2 hL
  .unfold AvF at g;split at g
   .rename_i own p
    refine .w (rz hs.heap rfl (λid cs e=>(xc e).1) own (λid cs b C hg ha hb=>⟨hLD id cs b C hg ha,λ_=>hb,λh=>ab⟩)
     (λb hg=>⟨λhl=>hg.1 (hL b hl),hg.2⟩) (λho b hg=>⟨λhl=>hg.1 (hL b hl),λ_=>hg.2.1 rfl,hg.2.2⟩) 6 x p v g.1 g.2 hr) nofun
   trivial
  .unfold xL at g;split at g
   .rename_i o id sz;obtain⟨a0,cap,hv,_,hf,_,_⟩:=hr.n9;rw[hv];have hc:=hf rfl;subst hc;exact .msl g.2 (by simp only[Mm.cut];rw[bX g.1];exact bV _) (bV _) (λ_=>⟨rfl,rfl⟩) (λb C e=>by simp only[Mm.cut] at e;rw[bX g.1] at e;cases e)
   trivial
 refine⟨m.cut n n',⟨hs.base,hs.below,hs.defers,hs.size,λt=>?_,⟨λid c hin hd=>?_,?_⟩,λi=>Iff.rfl,λid c hin=>?_,hk,λp hp=>⟨(hs.fr.2.1 p hp).1,(hs.fr.2.1 p hp).2.cut bu (AV.rR hk (hs.fr.2.1 p hp).1) hL⟩,λq hq=>let ⟨o1,o2,o3,o4⟩:=hs.fr.2.2 q hq;⟨o1,o2,λh=>o3 (hL _ h),o4⟩⟩,h8⟩
 .show bI _ _ _ _ (get env' t) _
  rcases Gw h1 t with g1|g1
  .exact h8 _ _ _ g1 (hs.env t)
  .rw[g1];exact .w (.undef _) nofun
 .have he:=oX h2 id c hin
  cases hg:cV h id with
  |none=>
   simp only[jy,hg] at he;obtain⟨e1,_,rfl⟩:=he;exact⟨by simp only[Mm.cut];rw[bX e1];rfl,.inl ⟨by simp only[Mm.cut];rw[bX e1],rfl⟩⟩
  |some c0=>
   have hm:=gj hg;have hw:=hs.ids id c0 hm;simp only at hw;have hlen:=hold id c c0 hin hg;simp only[jy,hg] at he;obtain⟨ht,cl⟩:=hs.heap.entry id c0 hm ((hs.dom id).2 hw);refine⟨by simp only[Mm.cut];rw[bH ab,ht,hlen],?_⟩
   rcases cl with ⟨g1,g2⟩|⟨b,C,cs,e,e1,e2,e3,e4,e5,e6⟩|⟨b,es,clk,e1,e2,e3,e4,e5⟩
   .refine .inl ⟨by simp only[Mm.cut];rw[bH ab,<-hlen];exact g1,?_⟩
    grind
   .refine .inr (.inl ⟨b,C,cs,e,by simp only[Mm.cut];rw[bH ab,<-hlen];exact e1,e2,e3,ab,e5,λj p v hp hv=>?_⟩);obtain⟨x,hx,d4⟩:=(tV he.2.2).2 j p hp
    grind
   .exact .inr (.inr ⟨b,es,clk,by simp only[Mm.cut];rw[bH ab,<-hlen];exact e1,(Gy he.2.2 e2).1,e3,e4,λl hl=>e5 l ((Gy he.2.2 e2).2 l hl)⟩)
 .have hk:=Gx h2;refine sL ?_ hk;intro x y hx hy bp;refine⟨bp,λb C C' _ _ b' bh=>?_⟩;have ex:=oX h2 x.1 x.2 hx;have ey:=oX h2 y.1 y.2 hy
  cases bm:cV h x.1 with
  |none=>simp only[jy,bm] at ex;simp only[Mm.cut] at b';rw[bX ex.1] at b';cases b'
  |some cx=>
   cases bn:cV h y.1 with
   |none=>simp only[jy,bn] at ey;simp only[Mm.cut] at bh;rw[bX ey.1] at bh;cases bh
   |some cy=>
    have mx:=gj bm;have my:=gj bn;have ix:=hs.ids _ _ mx;have iy:=hs.ids _ _ my;simp only at ix iy;simp only[Mm.cut] at b' bh;rw[bH ab,<-hold x.1 x.2 cx hx bm] at b';rw[bH ab,<-hold y.1 y.2 cy hy bn] at bh;have:=hs.heap.inj;rw[sQ] at this;obtain⟨p,hp,ep⟩:=mV mx;obtain⟨q,hq,eq⟩:=mV my;have dx:m.dom x.1:=(hs.dom _).2 ix;have dy:m.dom y.1:=(hs.dom _).2 iy
    grind
 .have he:=oX h2 id c hin;show id<n'
  cases hg:cV h id with
  |none=>simp only[jy,hg] at he;exact he.2.1
  |some c0=>simp only[jy,hg] at he;exact he.1
theorem de(D:List Nat){env env':Env}{h h':bD}{n n' nt:Nat}(h1:uK D h n n' env env')(h2:nH D h n n' h')(hk:fk.k<=n':=by first|exact cG _|omega|(simp;done)):Lek fk ⟨env,h,n,nt⟩ ⟨env',h',n',nt⟩:=by
 intro B w0 a w m hs;obtain⟨m',d3,_⟩:=Gz D h1 h2 hk hs
 grind
attribute [simp] AvF xL oF iq uK jy nH qM
section
omit [bJ]
@[simp]theorem N6(h:bD)(d:Nat)(o f:Bool)(p:PV):fF h d (.w o f p)=(o || flat p):=by cases d<;>rfl
@[simp high] theorem xd(h:bD)(d:Nat)(o f:Bool):∀l:List PV,(l.map (AV.w o f)).mapM (frz h d)=some l
 |[]=>rfl
 |p::r=>by simp[yc,xd h d o f r]
@[simp high] theorem Yj(h:bD)(d:Nat)(f:Bool):∀l:List PV,(l.map (AV.w true f)).all (fF h d)=true
 |[]=>rfl
 |p::r=>by simp
@[simp high] theorem tW(h:bD)(d:Nat)(o f:Bool):∀l:List PV,ij l=true->(l.map (AV.w o f)).all (fF h d)=true
 |[],_=>rfl
 |p::r,hl=>by
  simp only[ij,eT] at hl;simp only[oK,List.all_cons,N6,hl.1,jo,fV];exact tW h d o f r hl.2
end
def sA:PV->Bool
 |.undef=>false
 |.tup _=>false
 |.agg _=>false
 |_=>true
omit [bJ] in
@[simp]theorem tX(o f:Bool):∀l:List PV,l.all sA=true->eh (l.map (AV.w o f))=true
 |[],_=>rfl
 |p::r,hl=>by
  simp only[List.all_cons,eT] at hl;simp only[oK,eh,tX o f r hl.2,jm]
  cases p<;>first|rfl|(simp[sA] at hl)
omit [bJ] in
@[simp]theorem tY(n:Nat)(o f:Bool):∀l:List PV,AV.lt.ltL n (l.map (AV.w o f))=true
 |[]=>rfl
 |p::r=>by simp[AV.lt.ltL,AV.lt,tY n o f r]
theorem fI{P:Program}{K:Exit->St->Prop}{c:Code}{id:Nat}{env:Env}{h:bD}{n nt:Nat}{α β:Type}(n':Nat)(J:α->Prop)(ks:List Nat)(mods:α->Env)(bi:List Nat)(hm:α->bD)(μ:α->Nat)(F:β->Prop)(fks:List Nat)(fmods:β->Env)(fhks:List Nat)(fhm:β->bD)(x0:α)(hJ:J x0)(h0:Lek fk ⟨env,h,n,nt⟩ ⟨mods x0++gF env ks,hm x0++iO h bi,n',nt⟩)(round:∀x,J x->cX fk P c ⟨mods x++gF env ks,hm x++iO h bi,n',nt⟩ (lK fk J (λx=>⟨mods x++gF env ks,hm x++iO h bi,n',nt⟩) μ x (oE fk id F (λy=>⟨fmods y++gF env fks,fhm y++iO h fhks,n',nt⟩) K)))(after:∀y,F y->K .normal ⟨fmods y++gF env fks,fhm y++iO h fhks,n',nt⟩):cX fk P (.block id (.loop c)) ⟨env,h,n,nt⟩ K:=by
 refine gS (Gk (zq J (λx=>⟨mods x++gF env ks,hm x++iO h bi,n',nt⟩) μ x0 hJ h0 round) (λe s hk=>?_))
 cases e<;>first
  |exact hk.elim
  |exact⟨s,Lek.refl s,hk⟩
  |(simp only[oE] at hk
    simp only[jd];split at hk
    .rename_i hw;obtain⟨y,hy,hle⟩:=hk
     grind
    .rename_i hw
     exact⟨s,Lek.refl s,by rw[bH hw];exact hk⟩)
section
omit [bJ]
@[simp]theorem Yk(z:List AV):ja 1 z=z:=by simp[ja]
@[simp]theorem Yl(z:List AV):ja 2 z=z++z:=by simp[ja,Dd]
@[simp]theorem N7{D:List Nat}{h:bD}{n n':Nat}{x y:List AV}:∀a:List AV,iq D h n n' (a++x) (a++y)=(iq D h n n' a a/\iq D h n n' x y)
 |[]=>propext ⟨λh=>⟨trivial,h⟩,λh=>h.2⟩
 |z::a=>by
  simp only[pQ,iq,N7 a,and_assoc]
end
end Go.Fi
namespace Go.Fi
open Go Go.RowKit Go.ChangeShapes Go.WideShapes
variable[bJ]
def Match(w:World)(ps:List PV)(cs:List Value):Prop:=ps.length=cs.length/\∀(j:Nat)(p:PV)(v:Value),ps[j]?=some p->cs[j]?=some v->Rep (λ_=>True) w p v
omit [bJ] in
theorem Match.append{w:World}{a b:List PV}{x y:List Value}(h1:Match w a x)(h2:Match w b y):Match w (a++b) (x++y):=by
 refine⟨by rw[nK,nK,h1.1,h2.1],λj p v hp hv=>?_⟩;by_cases hj:j<a.length
 .rw[qU hj] at hp;rw[qU (by rw[<-h1.1];exact hj)] at hv;exact h1.2 j p v hp hv
 .have hj:a.length<=j:=ab
  rw[sP hj] at hp;rw[sP (by rw[<-h1.1];exact hj),<-h1.1] at hv;exact h2.2 _ p v hp hv
omit [bJ] in
theorem Match.one{w:World}{p:PV}{v:Value}(h:Rep (λ_=>True) w p v):Match w [p] [v]:=by
 refine⟨rfl,λj q u hq hu=>?_⟩
 grind
def Reads(P:Program)(t:TypeId){α:Type}(c:α->List PV):Prop:=
 ∀(H:Type)(enc:TypeId×Value->H)(w:World)(held:Bool)(fuel:Nat)(cs:List Value)(x:DataW H×List MemPlace),DataW.trod enc P w 0 (λ_=>true) held fuel t cs=some x->∃y:α,Match w (c y) cs
def xV(P:Program)(fs:List Field)(off:Nat){α:Type}(c:α->List PV)(s:Nat):Prop:=
 ∀(H:Type)(enc:TypeId×Value->H)(w:World)(held:Bool)(n:Nat)(cs:List Value),(∀f∈fs,∃x:DataW H×List MemPlace,DataW.trod enc P w 0 (λ_=>true) held n f.type ((cs.drop f.offset).take (P.cellsOf f.type))=some x) ->
  ∃y:α,Match w (c y) ((cs.drop off).take s)
section
variable{P:Program}{t e:TypeId}
section
omit [bJ]
theorem Pw{k:IntKind}(ht:P.underlying t=some (.int k)):Reads P t (λn:Int=>[.int k n]):=by
 intro H enc w held fuel cs x h;obtain⟨n,rfl,_,_⟩:=DataW.trod_int ht h;exact⟨n,Match.one (.int _ _)⟩
theorem Px(ht:P.underlying t=some .string):Reads P t (λs:ByteArray=>[.str s]):=by
 intro H enc w held fuel cs x h;obtain⟨n,rfl,_,_⟩:=DataW.trod_string ht h;exact⟨n,Match.one (.str _)⟩
theorem Py(ht:P.underlying t=some .bool):Reads P t (λb:Bool=>[.bool b]):=by
 intro H enc w held fuel cs x h;obtain⟨n,rfl,_⟩:=DataW.trod_bool ht h;exact⟨n,Match.one (.bool _)⟩
theorem xn{α β:Type}{c:α->List PV}{c':β->List PV}(f:α->β)(hc:∀y,c y=c' (f y))(h:Reads P t c):Reads P t c':=by
 intro H enc w held fuel cs x hx;obtain⟨y,hy⟩:=h H enc w held fuel cs x hx
 grind
theorem BI{off:Nat}:xV P [] off (λ_:Unit=>[]) 0:=by
 intro H enc w held n cs _;exact⟨(),by simp[Match]⟩
theorem mf{f:Field}{fs:List Field}{off s S:Nat}{α β:Type}{c:α->List PV}{c':β->List PV}(ho:f.offset=off)(hs:P.cellsOf f.type=s)(h:Reads P f.type c)(hr:xV P fs (off+s) c' S):xV P (f::fs) off (λy:α×β=>c y.1++c' y.2) (s+S):=by
 intro H enc w held n cs a9;obtain⟨x,hx⟩:=a9 f jB;rw[ho,hs] at hx;obtain⟨y,hy⟩:=h H enc w held n _ x hx;obtain⟨z,hz⟩:=hr H enc w held n cs (λg hg=>a9 g (fw _ hg));refine⟨(y,z),?_⟩;rw[List.take_add,List.drop_drop];exact hy.append hz
theorem BJ{fs:Array Field}{s:Nat}{α:Type}{c:α->List PV}(ht:P.underlying t=some (.struct fs))(hs:P.cellsOf t=s)(h:xV P fs.toList 0 c s):Reads P t c:=by
 intro H enc w held fuel cs x hx;obtain⟨xs,n,_,_,hl,c5,hf⟩:=DataW.trod_struct ht hx
 obtain⟨y,hy⟩:=h H enc w held n cs (λf hin=>by
  obtain⟨i,hi⟩:=List.mem_iff_getElem?.1 hin;rw[jA] at hi
  have a6:i<xs.length:=by rw[c5];exact (df.1 hi).1
  exact⟨xs[i],by rw[hf i f hi];exact dY a6⟩)
 grind
theorem wV{α:Type}{c:α->List PV}{s:Nat}(hl:∀x,(c x).length=s)(hs:0<s)(l:List α)(j:Nat)(hj:j<l.length*s):∃x,l[j / s]?=some x/\(l.flatMap c)[j]?=(c x)[j%s]?:=by
 induction l generalizing j with
 |nil=>simp at hj
 |cons a l ih=>
  simp only[jq];by_cases h:j<s
  .refine⟨a,by rw[Nat.div_eq_of_lt h];rfl,?_⟩;rw[qU (by rw[hl];exact h),Nat.mod_eq_of_lt h]
  .have h:s<=j:=ab
   rw[gw,ga] at hj;obtain⟨x,h1,h2⟩:=ih (j-s) ab;refine⟨x,?_,?_⟩
   .rw[Nat.div_eq_sub_div hs h,xZ];exact h1
   .rw[sP (by rw[hl];exact h),hl,h2,Nat.mod_eq_sub_mod h]
theorem uj{s:Nat}{α:Type}{c:α->List PV}(ht:P.underlying t=some (.slice e))(hs:P.cellsOf e=s)(a':0<s)(hl:∀x,(c x).length=s)(h:Reads P e c):Reads P t (λl:List α=>[.sl l.length (l.flatMap c)]):=by
 intro H enc w held fuel cs x hx
 rcases DataW.trod_slice ht hx with h0|⟨a,len,cap,elems,rest,n,_,rfl,_,_,hle,_,hlen,ck,_,_⟩
 .rw[h0.1];exact⟨[],Match.one .slnil⟩
 .have each:∀i,i<len->∃y:α,Match w (c y) ((List.range s).map λj=>(w.cell? ((a.add (i*s)).add j)).getD undef)/\∀j,j<s->∃v,w.cell? ((a.add (i*s)).add j)=some v:=by
   intro i hi;have h1:=ck i hi;rw[hs,dY ab] at h1;obtain⟨cs',c9,hy⟩:=Option.bind_eq_some_iff.1 h1;obtain⟨y,hy⟩:=h H enc w held n cs' _ hy;obtain⟨_,c8,h8⟩:=World.cells?_some c9;refine⟨y,?_,λj hj=>⟨cs'[j]'ab,by rw[h8 j ab];simp⟩⟩
   have e:(List.range s).map (λj=>(w.cell? ((a.add (i*s)).add j)).getD undef)=cs':=by
    apply Jg
    .simp[c8]
    simp_all
   rw[e];exact hy
  have a9:∃l:List α,l.length=len/\∀i y,l[i]?=some y->Match w (c y) ((List.range s).map λj=>(w.cell? ((a.add (i*s)).add j)).getD undef):=by
   have:∀m,m<=len->∃l:List α,l.length=m/\∀i y,l[i]?=some y->Match w (c y) ((List.range s).map λj=>(w.cell? ((a.add (i*s)).add j)).getD undef):=by
    intro m
    induction m with
    |zero=>intro _;exact⟨[],rfl,λi y hy=>by simp at hy⟩
    |succ m ih=>
     intro hm;obtain⟨l,b6,bo⟩:=ih ab;obtain⟨y,hy,_⟩:=each m ab;refine⟨l++[y],by simp[b6],λi z hz=>?_⟩;by_cases hi:i<m
     .rw[qU ab] at hz;exact bo i z hz
     .have:i=m:=by
       have:=(fu.1 hz).1;simp[b6] at this;omega
      subst this;rw[sP ab,b6] at hz;simp at hz;subst hz;exact hy
   simp_all
  obtain⟨l,b6,bo⟩:=a9;refine⟨l,Match.one ?_⟩;rw[b6]
  cases c7:l.flatMap c with
  |nil=>exact .slz hle
  |cons p ps=>
   rw[<-c7]
   have aq:(l.flatMap c).length=len*s:=by rw[tO c s hl,b6]
   have bb:0<len:=by
    grind
   obtain⟨_,_,hex⟩:=each 0 bb;obtain⟨v0,c4⟩:=hex 0 a'
   have aw:a=⟨a.block,a.off,none⟩:=by
    obtain⟨b,o,sp⟩:=a
    cases sp with
    |none=>rfl
    |some sp=>
     simp only[World.cell?,Addr.add] at c4
     split at c4<;>simp_all
   have b9:∀i j,(a.add (i*s)).add j=⟨a.block,a.off+(i*s+j),none⟩:=by
    intro i j;rw[aw,Addr.jQ,Addr.jQ]
    grind
   rw[aw]
   have bt:∀j,j / s*s+j%s=j:=λj=>by rw[Nat.mul_comm];exact Nat.div_add_mod j s
   have cm:∀j,j<len*s->j / s<len:=λj hj=>Nat.div_lt_of_lt_mul (by rw[Nat.mul_comm];exact hj)
   refine .sl (λj=>(w.cell? ⟨a.block,a.off+j,none⟩).getD undef) hle (λj hj=>?_) (λ_=>trivial) (λj q hq=>?_)
   .rw[aq] at hj;obtain⟨_,_,hex⟩:=each (j / s) (cm j hj);obtain⟨v,hv⟩:=hex (j%s) (xY _ a');rw[b9,bt] at hv
    grind
   .have hj:j<len*s:=by rw[<-aq];grind
    obtain⟨y,cw,cz⟩:=wV hl a' l j (by rw[b6];exact hj);rw[cz] at hq
    have hm:=(bo (j / s) y cw).2 (j%s) q ((w.cell? ((a.add (j / s*s)).add (j%s))).getD undef) hq (by
     rw[jk,yb (xY _ a')];rfl)
    rw[b9,bt] at hm;exact hm
end
end
section
variable{H:Type}{enc:TypeId×Value->H}{P:Program}
section
omit [bJ]
theorem Pz{f:Func}{s:ChangeSpec}{apart fresh handsOn again:Bool}{W W':World}{args:Array Value}{v:Value}{ds gs:List (DataW H)}{before pa pv:List MemPlace}(hW:DataW.Whole enc P f.params.toList s.vars apart W args.toList ds gs before)(bf:∀(b:Nat)(sp:Nat->Bool)(hd:Bool),DataW.TrodAll enc P W' b sp hd f.resultTypes.toList (v.resultList f.resultTypes.size) (s.fn H (ds++gs)).results [])(ao:∀sp:Nat->Bool,(∀p∈before,sp p.block=true)->DataW.TrodAll enc P W' 0 sp true f.params.toList args.toList (s.fn H (ds++gs)).args pa)(ax:∀sp:Nat->Bool,(∀p∈before,sp p.block=true)->DataW.TrodVars enc P W' sp s.vars (s.fn H (ds++gs)).vars pv)(bq:before=pa++pv)(hb:Bel W.heap.size W W')(cp:∀(j:Nat)(t:TypeId)(r:Value),f.resultTypes[j]?=some t->(v.resultList f.resultTypes.size)[j]?=some r->Value.okWide P W' .any 0 t r):s.post enc P f apart fresh handsOn again W args v W':=by
 have a6:∀p∈before,p.block<W.heap.size:=λp hp=>hW.lt p hp
 have hold:∀p∈before,(λb=>decide (b<W.heap.size)) p.block=true:=λp hp=>by simp_all
 refine⟨ds,gs,before,[],pa,pv,hW,bf _ _ _,ao _ hold,ax _ hold,World.keptBut_mono (λp hp=>⟨hp,?_⟩) (hb.frame (·∈before)),λ_=>?_⟩
 .rw[bq,jC] at hp
  grind
 .obtain⟨_,_,_,_,_,hz,hn⟩:=hW;refine⟨cp,_,_,([]++pa)++pv,⟨[]++pa,pv,trodAll_append (ao _ (λ_ _=>rfl)) (bf _ _ _),ax _ (λ_ _=>rfl),rfl,?_,?_⟩,?_⟩
  .intro b off hp
   have hin:MemPlace.cell b off∈before:=by rw[bq];simpa using hp
   rw[hb.frozen (a6 _ hin)];exact hz b off hin
  .intro ha;have:=hn ha;rw[bq] at this;simpa using this
  simp_all
theorem Hl(hl:laidOutB P=true){W W':World}(hb:Bel W.heap.size W W'){sp:Nat->Bool}:∀{ts:List TypeId}{vs:List Value}{ds:List (DataW H)}{ps:List MemPlace},(∀t∈ts,P.readableRec t=true/\t<P.types.size)->DataW.TrodAll enc P W 0 (λ_=>true) true ts vs ds ps->(∀x∈ps,x.block<W.heap.size)->(∀x∈ps,sp x.block=true)->DataW.TrodAll enc P W' 0 sp true ts vs ds ps
 |[],[],[],_,_,h,_,_=>h
 |t::ts,v::vs,d::ds,ps,hr,h,a6,bk=>by
  obtain⟨p,q,h1,h2,rfl⟩:=h;refine⟨p,q,?_,Hl hl hb (λt ht=>hr t (fw _ ht)) h2 (λx hx=>a6 x (List.mem_append_right _ hx)) (λx hx=>bk x (List.mem_append_right _ hx)),rfl⟩;obtain⟨r1,r2⟩:=hr t jB;exact WideElems.Trod_stays hl r1 r2 h1 (λx hx=>hb.same (a6 x (List.mem_append_left _ hx))) (λx hx=>bk x (List.mem_append_left _ hx))
 |[],[],_::_,_,_,h,_,_=>h.elim
 |[],_::_,_,_,_,h,_,_=>h.elim
 |_::_,[],_,_,_,h,_,_=>h.elim
 |_::_,_::_,[],_,_,h,_,_=>h.elim
theorem SL{f:Func}{s:ChangeSpec}{apart fresh handsOn again:Bool}{W W':World}{args:Array Value}{ds gs:List (DataW H)}{before:List MemPlace}{tb:TypeId}(hl:laidOutB P=true)(hW:DataW.Whole enc P f.params.toList s.vars apart W args.toList ds gs before)(hv:s.vars=[])(a5:s.fn H (ds++gs) = { results:=[.lit (.bool true)],args:=ds })(hr:f.resultTypes=#[tb])(c3:P.underlying tb=some .bool)(b7:(f.params.toList.all λt=>P.readableRec t&&decide (t<P.types.size))=true)(hb:Bel W.heap.size W W'):s.post enc P f apart fresh handsOn again W args (.bool true) W':=by
 have bd:∀t∈f.params.toList,P.readableRec t=true/\t<P.types.size:=λt ht=>by
  have:=gz.1 b7 t ht;simp_all
 have a6:∀p∈before,p.block<W.heap.size:=λp hp=>hW.lt p hp
 have c6:=hW;obtain⟨p,q,hA,hV,rfl,_,_⟩:=hW;rw[hv] at hV
 have hq:q=[]/\gs=[]:=by
  cases gs with
  |nil=>trivial
  |cons _ _=>exact hV.elim
 obtain⟨rfl,rfl⟩:=hq;refine Pz (pa:=p) (pv:=[]) c6 (λb sp hd=>?_) (λsp bk=>?_) (λsp _=>?_) rfl hb ?_
 .rw[a5,hr];exact trodAll_mk1 (shut_bool c3 true)
 .rw[a5];exact Hl hl hb bd hA (λx hx=>a6 x ak) (λx hx=>bk x ak)
 .rw[a5,hv];rfl
 .rw[hr];intro j t r hj hv
  match j,hj,hv with
  |0,hj,hv=>
   simp[Value.resultList] at hj hv;subst hj;subst hv;simp only[Value.okWide,c3,Cell.okWide,Cell.ok]
end
end
section
variable{P:Program}{t:TypeId}{W:World}
omit [bJ] in
theorem SN{α:Type}{c:α->List PV}(h:Reads P t c){fs:Array Field}(ht:P.underlying t=some (.struct fs)){r:Reach}{base:Nat}{v:Value}(aa:Value.okWide P W r base t v){H:Type}{enc:TypeId×Value->H}{held:Bool}{d:DataW H}{ps:List MemPlace}(hd:DataW.Trod enc P W 0 (λ_=>true) held t v d ps):∃y:α,Rep (λ_=>True) W (.agg (c y)) v:=by
 simp only[Value.okWide,ht] at aa;obtain⟨cs,rfl,_,_⟩:=aa;obtain⟨fuel,hd⟩:=hd;obtain⟨y,hy⟩:=h H enc W held fuel _ _ hd;simp only[Value.cells] at hy;exact⟨y,.agg (by simpa using hy.1) (λj p u hp hu=>hy.2 j p u hp (by rw[jA];exact hu))⟩
end
section
variable{P:Program}{t e:TypeId}{W:World}
section
omit [bJ]
theorem PD{s:Nat}{α:Type}{c:α->List PV}(ht:P.underlying t=some (.array 2 e))(hs:P.cellsOf e=s)(ct:P.cellsOf t=s+s)(h:Reads P e c):Reads P t (λy:α×α=>c y.1++c y.2):=by
 intro H enc w held fuel cs x hx;obtain⟨xs,n,_,_,hl,c5,hf⟩:=DataW.trod_array ht hx;have f0:=hf 0 ab;have f1:=hf 1 ab;rw[dY ab,hs] at f0 f1;obtain⟨y,hy⟩:=h H enc w held n _ _ f0;obtain⟨z,hz⟩:=h H enc w held n _ _ f1;refine⟨(y,z),?_⟩;rw[IZ,List.drop_zero] at hy;rw[Nat.one_mul] at hz
 have e:cs=cs.take s++(cs.drop s).take s:=by
  rw[SZ (l:=cs.drop s) (by rw[uR,hl,ct];omega),yi]
 rw[e];exact hy.append hz
theorem PF{α:Type}{p:α->PV}(h:Reads P t (λy=>[p y])){v:Value}(hv:v.cells=#[v]){H:Type}{enc:TypeId×Value->H}{held:Bool}{d:DataW H}{ps:List MemPlace}(hd:DataW.Trod enc P W 0 (λ_=>true) held t v d ps):∃y:α,Rep (λ_=>True) W (p y) v:=by
 obtain⟨fuel,hd⟩:=hd;obtain⟨y,hy⟩:=h H enc W held fuel _ _ hd;rw[hv] at hy;exact⟨y,hy.2 0 _ v rfl rfl⟩
theorem SO{α:Type}{p:α->PV}(h:Reads P t (λy=>[p y]))(ht:P.underlying t=some (.slice e)){r:Reach}{base:Nat}{v:Value}(aa:Value.okWide P W r base t v){H:Type}{enc:TypeId×Value->H}{held:Bool}{d:DataW H}{ps:List MemPlace}(hd:DataW.Trod enc P W 0 (λ_=>true) held t v d ps):∃y:α,Rep (λ_=>True) W (p y) v:=by
 obtain⟨a,len,cap,rfl⟩:=okWide_slice ht aa;exact PF h rfl hd
end
end
end Go.Fi
namespace Go.Fi
open Go Go.RowKit
variable[bJ]
variable{fk:Fk}
theorem Oh{P:Program}{K:Exit->St->Prop}{rid d1 d2 t ty1 ty2 e:Nat}{p1 p2:String}{a1 a2:Array Edge}{st tt:TypeId}{env:Env}{h:bD}{n nt:Nat}{ow fl:Bool}{k:Nat}{cells:List PV}(hu:P.underlying st=some (.slice e))(hg:get env t=.w ow fl (.sl k cells))(cf:d1<nt)(cg:d2<nt)(hk:∀b:Bool,(b=true->k=0/\cells=[])->K .normal ⟨(d2,.w false false (.bool b))::(d1,.w ow fl (.sl k cells))::env,h,n,nt⟩):cX fk P (.region rid #[⟨some d1,.move (.tmp t),ty1,p1,a1,none⟩,⟨some d2,.binOp .eql st (.tmp d1) (.const (.slice none 0 0)) tt,ty2,p2,a2,none⟩] false) ⟨env,h,n,nt⟩ K:=by
 intro B w0 a w m hs;refine qY ?_;simp only[iI,Region.wanted,cD];intro w e1x;replace hs:=hs.move e1x;refine jZ (λc e=>by cases e) (vM w0 (⟨some d1,.move (.tmp t),ty1,p1,a1,none⟩:Oper) (K:=λv h' n'=>v=get env t/\h'=h/\n'=n) ae hs cf _ _ ?_)
 rintro v h' n' a w m ⟨rfl,rfl,rfl⟩ hs
 intro w e1x;replace hs:=hs.move e1x;refine jZ (λc e=>by cases e) ?_;rw[hg] at hs
 have hx:bI B (LB m h') m w (.w ow fl (.sl k cells)) (a.eval (.tmp d1)):=by
  have:=hs.env d1;rw[show get (St.env ⟨put env (some d1) (.w ow fl (.sl k cells)),h',n',nt⟩) d1=.w ow fl (.sl k cells) from ae] at this;exact this
 obtain⟨a0,cap,hv,_,_,bw,bp⟩:=hx.n9
 have br:(execOp a.eval ⟨some d2,.binOp .eql st (.tmp d1) (.const (.slice none 0 0)) tt,ty2,p2,a2,none⟩).run P w=.ok (.value (.bool a0.isNone)) w:=by
  have cu:a.eval (.tmp d1)=.slice a0 k cap:=hv;have hc:a.eval (.const (.slice none 0 0))=.slice none 0 0:=rfl
  have cj:∀d,(Op.equalIn (d+1) st (.slice a0 k cap) (.slice none 0 0)).run P w=.ok a0.isNone w:=λd=>by
   rw[Op.equalIn,Sem.run_bind,run_underlying hu];simp only[Result.andThen_ok]
   cases a0<;>rfl
  have he:(Op.equal st (.slice a0 k cap) (.slice none 0 0)).run P w=.ok a0.isNone w:=cj 9999;have hg:(eqGuard .eql st (.tmp d1) (.const (.slice none 0 0)) (.slice a0 k cap) (.slice none 0 0)).run P w=.ok () w:=rfl;simp[execOp,cu,hc,hg,binOp,he]
 unfold Oper.wpt;rw[br,Oper.o8];refine⟨_,m,hk a0.isNone (λhb=>?_),hs.base,hs.below,by rw[lj];exact hs.defers,by rw[lh];exact hs.size,?_,hs.heap,hs.dom,hs.ids,hs.fr⟩
 .have:a0=none:=by cases a0 with
   |none=>rfl
   |some x=>cases hb
  simp_all
 .exact nO _ a (some d2) _ _ (by show d2<a.tmps.size;rw[hs.size];exact cg) (iC _) hs.env
def pS(M:List (ByteArray×Int)):List (PV×PV):=M.map λp=>(.str p.1,.int .i64 p.2)
def mS(M:List (ByteArray×Int)):List AV:=[gK (pS M)]
section
omit [bJ]
theorem OQ{D:List Nat}{h:bD}{n n':Nat}(o f:Bool)(p:PV):oF D h n n' (.w o f p) (.w false false p):=.inl ⟨⟨nofun,nofun,.inl rfl⟩,rfl⟩
@[simp]theorem Zk(M:List (ByteArray×Int)):(mS M).length=1:=rfl
@[simp]theorem zbj(M:List (ByteArray×Int))(n:Nat):AV.lt.ltL n (mS M)=true:=rfl
end
def xS(c:Bool)(r:Option Int):AV:=
 match c,r with
 |true,some v=>.w false false (.tup [.int .i64 v,.bool true])
 |true,none=>.w false false (.tup [.int .i64 0,.bool false])
 |false,some v=>.w false false (.int .i64 v)
 |false,none=>.w false false (.int .i64 0)
section
omit [bJ]
@[simp]theorem Zl(v:Int):xS true (some v)=.w false false (.tup [.int .i64 v,.bool true]):=rfl
@[simp]theorem Zm:xS true none=.w false false (.tup [.int .i64 0,.bool false]):=rfl
@[simp]theorem Zn(h:bD)(id:Nat):mpC h (.mp id)=cV h id:=rfl
end
def sE(h:bD)(id:Nat)(cells:Option (List AV))(r:Option (TypeDesc×PV))(k v:AV):Option (Prop×bD):=
 match cells.bind fM,k,v,r with
 |some l,.w _ _ kp,.w _ _ vp,some (d,_)=>some ((okM d kp l=true/\isLit vp=true),dz h id [gK (jb l kp vp)])
 |_,_,_,_=>none
def CX(h:bD)(r:Option (TypeDesc×PV))(m k v:AV):Option (Prop×bD):=
 match m with
 |.mp id=>sE h id (cV h id) r k v
 |_=>none
omit [bJ] in
@[simp]theorem Zo(h:bD)(r:Option (TypeDesc×PV))(id:Nat)(k v:AV):CX h r (.mp id) k v=sE h id (cV h id) r k v:=rfl
@[simp ↓]theorem Zp{P:Program}{env:Env}{h:bD}{n:Nat}(t:TypeId)(x k:Operand)(c:Bool)(K:AV->bD->Nat->Prop):dA P env h n (.lookup t x k c) K=aW (aOp P h n (ev env) (.lookup t x k c)) (eK h n K) .it:=rfl
@[simp ↓]theorem Zq{P:Program}{env:Env}{h:bD}{n:Nat}(t:TypeId)(x k:Operand)(c:Bool)(K:AV->List (List AV)->Prop):du P env h n (.lookup t x k c) K=aW (aOp P h n (ev env) (.lookup t x k c)) K .it:=rfl
@[simp ↓]theorem Zr{P:Program}{env:Env}{h:bD}{n:Nat}(t:TypeId)(K:AV->bD->Nat->Prop):dA P env h n (.makeMap t none) K=pM (some ((lI P t).isSome=true,.mp n,(n,[gK []])::h,n+1)) K .it:=rfl
@[simp ↓]theorem Zs{P:Program}{env:Env}{h:bD}{n:Nat}(t:TypeId)(m k v:Operand)(K:AV->bD->Nat->Prop):dA P env h n (.mapUpdate t m k v) K=sM (CX h (lI P t) (ev env m) (ev env k) (ev env v)) n K .it:=by
 show rU P env h n t m k v K=_;unfold rU CX sE
 cases ev env m with
 |mp id=>
  dsimp only
  cases (cV h id).bind fM<;>first
   |rfl
   |(cases ev env k<;>first
      |rfl
      |(cases ev env v<;>first
         |rfl
         |(cases lI P t<;>rfl)))
 |_=>rfl
section
omit [bJ]
@[simp]theorem Zt(a:Nat):qK (.mp a)=a:=rfl
@[simp]theorem Zu(a:Nat)(D:List Nat):xJ (.mp a) D=(a∈D):=rfl
@[simp]theorem Zv(env:Env)(t:TypeId)(x k:Operand)(c:Bool)(D:List Nat):touch env (.lookup t x k c) D=True:=rfl
@[simp]theorem Zw(env:Env)(t:TypeId)(m k v:Operand)(D:List Nat):touch env (.mapUpdate t m k v) D=xJ (ev env m) D:=rfl
end
def nA(l:List ByteArray):List AV:=(l.map PV.str).map (AV.w false false)
omit [bJ] in
@[simp]theorem Zx:nA []=[]:=rfl
end Go.Fi
