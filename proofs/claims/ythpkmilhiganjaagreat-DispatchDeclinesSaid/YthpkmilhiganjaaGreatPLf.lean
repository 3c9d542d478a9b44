/- Lemmas. -/
import Derived.Test.YthpkmilhiganjaaGreatPLe
import Derived.ProofKit
import Derived.Carry
import Derived.ChangeSame
import Derived.ChangeArms
import Derived.OpenShut
set_option linter.all false
set_option maxHeartbeats 32000000
set_option maxRecDepth 100000
namespace Go.Fi
open Go Go.RowKit
variable[ak]
variable{fk:Fk}
def p9(D:List Nat):ae->ae
 |[]=>[]
 |(k,v)::r=>if k∈D then (k,v)::p9 D r else p9 D r
omit [ak] in
theorem vY{D:List Nat}:∀{h:ae}{id:Nat}{c:List AV},aU (p9 D h) id=some c->(id,c)∈h/\id∈D
 |[],id,c,e=>by cases e
 |(k,v)::r,id,c,e=>by
  simp only[p9] at e;split at e
  .rename_i hk;simp only[aU] at e;split at e
   .simp_all
   .obtain⟨h1,h2⟩:=vY e;simp_all
  .obtain⟨h1,h2⟩:=vY e;simp_all
def AvF(h:ae)(x y:AV):Prop:=
 match y with
 |.w own false p=>frz h 6 x=some p/\(own=true->dY h 6 x=true)
 |_=>False
def wV(n n':Nat)(x y:AV):Prop:=
 match x,y with
 |.w _ true (.sl 0 []),.msl id 0 _ 0 0=>n<=id/\id<n'
 |_,_=>False
def nI(D:List Nat)(h:ae)(n n':Nat)(x y:AV):Prop:=(rz x y/\y.lt n'=true)\/AvF (p9 D h) x y\/wV n n' x y
def gD(D:List Nat)(h:ae)(n n':Nat):List AV->List AV->Prop
 |[],[]=>True
 |x::a,y::b=>nI D h n n' x y/\gD D h n n' a b
 |_,_=>False
def tO(D:List Nat)(h:ae)(n n':Nat)(env:Env):Env->Prop
 |[]=>True
 |(t,v)::r=>nI D h n n' (get env t) v/\tO D h n n' env r
def iO(D:List Nat)(h:ae)(n n':Nat)(i:Nat)(c:List AV):Prop:=
 match aU h i with
 |some c0=>i<n'/\¬i∈D/\gD D h n n' c0 c
 |none=>n<=i/\i<n'/\c=[]
def mA(D:List Nat)(h:ae)(n n':Nat):ae->Prop
 |[]=>True
 |(i,c)::r=>iO D h n n' i c/\aU r i=none/\mA D h n n' r
section
omit [ak]
theorem sQ{D:List Nat}{h:ae}{n n':Nat}:∀{a b:List AV},gD D h n n' a b->a.length=b.length/\∀(j:Nat)(y:AV),b[j]?=some y->∃x,a[j]?=some x/\nI D h n n' x y
 |[],[],_=>⟨rfl,λj y h=>by simp at h⟩
 |x::a,y::b,hc=>by
  obtain⟨h1,h2⟩:=hc;obtain⟨h3,h4⟩:=sQ h2
  grind
 |[],_::_,hc=>hc.elim
 |_::_,[],hc=>hc.elim
theorem og{D:List Nat}{h:ae}{n n':Nat}(o f:Bool):∀l:List PV,gD D h n n' (l.map (.w o f)) (l.map (.w o f))
 |[]=>trivial
 |p::r=>⟨.inl ⟨⟨λh=>h,λh=>h,.inl rfl⟩,rfl⟩,og o f r⟩
theorem FW{D:List Nat}{h:ae}{n n':Nat}:∀{env' env:Env},tO D h n n' env env'->∀t,nI D h n n' (get env t) (get env' t)\/get env' t=.w false false .undef
 |[],env,_,t=>.inr rfl
 |(k,v)::r,env,hh,t=>by
  obtain⟨h1,h2⟩:=hh;simp only[get];split
  .simp_all
  .exact FW h2 t
theorem oh{D:List Nat}{h:ae}{n n':Nat}:∀{h':ae},mA D h n n' h'->∀i c,(i,c)∈h'->iO D h n n' i c
 |[],_,i,c,hin=>by cases hin
 |(k,v)::r,hh,i,c,hin=>by
  obtain⟨h1,h2,h3⟩:=hh
  rcases db.1 hin with e|e
  .simp_all
  .exact oh h3 i c e
theorem FX{D:List Nat}{h:ae}{n n':Nat}:∀{h':ae},mA D h n n' h'->h'.Pairwise λp q=>p.1≠q.1
 |[],_=>List.Pairwise.nil
 |(k,v)::r,hh=>by
  obtain⟨h1,h2,h3⟩:=hh;exact Il.2 ⟨λq hq e=>Ar h2 q hq e.symm,FX h3⟩
theorem FY{D:List Nat}{h:ae}{n n':Nat}{c0 c:List AV}(hc:gD D h n n' c0 c)(hm:iZ c0=true):iZ c=true/\∀l,eH c=some l->eH c0=some l:=by
 obtain⟨hl,hr⟩:=sQ hc;have h1:=yb hm
 match c0,c,h1,hl with
 |[x],[y],_,_=>
  obtain⟨x',hx,d4⟩:=hr 0 y rfl;simp at hx;subst hx
  cases x with
  |w o f p=>
   rcases d4 with ⟨h2,_⟩|h2|h2
   .cases y with
    |w o' f' p'=>
     obtain⟨_,_,h3⟩:=h2
     rcases h3 with rfl|⟨rfl,_⟩
     .refine⟨?_,λl hl=>?_⟩
      .cases p'<;>simp_all[iZ]
      .cases p'<;>simp_all[eH]
     .exact⟨rfl,λl hl=>by trivial⟩
    |_=>cases h2
   .cases y with
    |w o' f' p'=>
     cases f' with
     |true=>cases h2
     |false=>
      obtain⟨h3,_⟩:=h2;simp only[frz,a7] at h3;subst h3;refine⟨?_,λl hl=>?_⟩
      .cases p<;>simp_all[iZ]
      .cases p<;>simp_all[eH]
    |_=>cases h2
   .cases p<;>simp[iZ] at hm<;>(unfold wV at h2;split at h2<;>first|exact h2.elim|simp_all)
  |_=>simp[iZ] at hm
theorem qG{B:Base}{m:Mm}{w:World}{H h:ae}{G':Nat->Prop}{L:Nat->Prop}(hs:aY B H m w)(hL:L=LB m H)(h9:∀id cs,aU h id=some cs->(id,cs)∈H)(own:Bool)(hG1:∀id cs b C,aU h id=some cs->m.addr id cs.length=some (b,C)->B.n<=b->G' b)(hG2:∀b,Good B L own b->G' b)(hG3:own=true->∀b,Good B L true b->G' b):∀(d:Nat)(x:AV)(p:PV)(v:Value),frz h d x=some p->(own=true->dY h d x=true)->al B L m w x v->Rep G' w p v
 |d,.w o f q,p,v,hf,a4,hr=>by
  have:q=p:=by cases d<;>(simp[frz] at hf;exact hf)
  subst this
  cases hr with
  |w hr _=>
   cases bk:own with
   |false=>exact hr.imp λb hg=>hG2 b ⟨hg.1,(λh=>by rw[bk] at h;cases h),hg.2.2⟩
   |true=>
    have h1:=a4 bk
    have h2:(o || flat q)=true:=by cases d<;>exact h1
    cases o with
    |true=>exact hr.imp λb hg=>hG3 bk b hg
    |false=>exact uI (by grind) hr
 |0,.ptr ..,_,_,hf,_,_=>by trivial
 |0,.msl ..,_,_,hf,_,_=>by trivial
 |0,.agg _,_,_,hf,_,_=>by trivial
 |0,.tup _,_,_,hf,_,_=>by trivial
 |0,.fn _ _,_,_,hf,_,_=>by trivial
 |0,.mp _,_,_,hf,_,_=>by trivial
 |_+1,.mp _,_,_,hf,_,_=>by trivial
 |d+1,.ptr id ver off,p,v,hf,a4,hr=>by
  simp only[frz] at hf;split at hf
  .rename_i cells hg;split at hf
   .rename_i ay
    cases hm:cells.mapM (frz h d) with
    |none=>grind
    |some r=>
     simp only[hm,cQ,a7] at hf;subst hf;obtain⟨h1,h2⟩:=jo hm;obtain⟨b,C,rfl,hd,hvC,ha⟩:=hr.oC;rw[<-ay] at ha hvC;obtain⟨cs,e,hh,hC,hle,hbB,h8⟩:=hs.read (h9 id cells hg) hd ha hvC.2
     have:=Rep.ip (G:=G') (w:=w) (o:=off) (b:=b) (off:=0) (cells:=r) (λj=>cs.getD j undef) (λj hj=>by
      have:j<cs.size:=by omega
      rw[cY,mJ hh];simp[this]) (λ_=>hG1 id cells b C hg ha hbB) (λj q hq=>by
      obtain⟨x,hx,af⟩:=h2 j q hq
      have hj:j<cs.size:=by have:=(dP.1 hx).1;omega
      exact qG hs hL h9 own hG1 hG2 hG3 d x q _ af (λe=>by have:=a4 e;simp only[dY,hg] at this;grind) (by rw[hL];exact h8 j x _ hx (by simp[hj])))
     rw[cY] at this;exact this
   .cases hf
  .cases hf
 |d+1,.msl id ver sz off k,p,v,hf,a4,hr=>by
  simp only[frz] at hf;split at hf
  .rename_i cells hg;split at hf
   .rename_i ay
    cases hm:cells.mapM (frz h d) with
    |none=>grind
    |some r=>
     simp only[hm,cQ,a7,ya] at hf;subst hf;obtain⟨h1,h2⟩:=jo hm;obtain⟨a0,cap,rfl,hk,hd,_,h3,h4⟩:=hr.m8;rw[<-ay] at h3 h4
     cases ha:m.addr id cells.length with
     |none=>
      obtain⟨rfl,h5⟩:=h3 ha;have cv:r=[]:=ia (by omega);subst cv
      have:k=0:=by omega
      subst this
      cases a0 with
      |none=>simpa using Rep.slnil
      |some a1=>simpa using Rep.slz (aD _)
     |some bc=>
      obtain⟨b,C⟩:=bc;obtain⟨h5,h6,h7⟩:=h4 b C ha;obtain⟨cs,e,hh,hC,hle,hbB,h8⟩:=hs.read (h9 id cells hg) hd ha (by omega)
      cases hL2:(r.drop off).take (k*sz) with
      |nil=>
       cases a0 with
       |none=>
        have au:cap=0:=by
         simp_all
        subst au
        have:k=0:=by omega
        subst this;exact .slnil
       |some a1=>exact .slz hk
      |cons y ys=>
       have au:0<cap:=by
        rcases jI cap with h|h
        .have:k=0:=by omega
         rw[this] at hL2;simp at hL2
        .exact h
       rw[h5 au,<-hL2]
       have a6:∀j,j<((r.drop off).take (k*sz)).length->off+j<cs.size/\j<k*sz:=by
        grind
       refine .sl (λj=>cs.getD (off+j) undef) hk (λj hj=>?_) (λ_=>hG1 id cells b C hg ha hbB) (λj q hq=>?_)
       .rw[mJ hh];simp_all
       .have hj:=(dP.1 hq).1;rw[jH,az (a6 j hj).2,xl] at hq;obtain⟨x,hx,af⟩:=h2 (off+j) q hq;exact qG hs hL h9 own hG1 hG2 hG3 d x q _ af (λe=>by have:=a4 e;simp only[dY,hg] at this;grind) (by rw[hL];exact h8 (off+j) x _ hx (by simp_all))
   .cases hf
  .cases hf
 |d+1,.agg cs,p,v,hf,a4,hr=>by
  simp only[frz] at hf
  cases hm:cs.mapM (frz h d) with
  |none=>grind
  |some r=>
   simp only[hm,cQ,a7] at hf;subst hf;obtain⟨h1,h2⟩:=jo hm
   cases hr with
   |agg hl h8=>exact .agg (by omega) (λj q u hq hu=>by
     obtain⟨x,hx,af⟩:=h2 j q hq
     exact qG hs hL h9 own hG1 hG2 hG3 d x q u af (λe=>by have:=a4 e;simp only[dY] at this;grind) (h8 j x u hx hu))
 |d+1,.tup cs,p,v,hf,a4,hr=>by
  simp only[frz] at hf
  cases hm:cs.mapM (frz h d) with
  |none=>grind
  |some r=>
   simp only[hm,cQ,a7] at hf;subst hf;obtain⟨h1,h2⟩:=jo hm
   cases hr with
   |tup hl h8=>exact .tup (by omega) (λj q u hq hu=>by
     obtain⟨x,hx,af⟩:=h2 j q hq
     exact qG hs hL h9 own hG1 hG2 hG3 d x q u af (λe=>by have:=a4 e;simp only[dY] at this;grind) (h8 j x u hx hu))
 |d+1,.fn f cs,p,v,hf,a4,hr=>by
  simp only[frz] at hf
  cases hm:cs.mapM (frz h d) with
  |none=>grind
  |some r=>
   simp only[hm,cQ,a7] at hf;subst hf;obtain⟨h1,h2⟩:=jo hm
   cases hr with
   |fn hl h8=>exact .fn (by omega) (λj q u hq hu=>by
     obtain⟨x,hx,af⟩:=h2 j q hq
     exact qG hs hL h9 own hG1 hG2 hG3 d x q u af (λe=>by have:=a4 e;simp only[dY] at this;grind) (h8 j x u hx hu))
end
def Mm.cut(m:Mm)(n n':Nat):Mm:=⟨λid ver=>if n<=id then none else m.addr id ver,λid=>if n<=id then 0 else m.top id,λi=>i<n'⟩
omit [ak] in
theorem al.cut{B:Base}{L L':Nat->Prop}{m:Mm}{w:World}{x:AV}{v:Value}(h:al B L m w x v){n n':Nat}(hn:∀i,m.dom i->i<n)(hl:x.lt n'=true)(hL:∀b,L' b->L b):al B L' (m.cut n n') w x v:=by
 induction h with
 |w hr hf=>exact .w (hr.imp λb hg=>⟨λhb=>hg.1 (hL b hb),hg.2⟩) hf
 |ptr hd ht ha hC=>
  have:=hn _ hd;exact .ptr (by simpa[AV.lt,Mm.cut] using hl) (by simp only[Mm.cut];rw[ai (by omega)];exact ht) (by simp only[Mm.cut];rw[ai (by omega)];exact ha) hC
 |mp hd ht ha=>
  have:=hn _ hd;exact .mp (by simpa[AV.lt,Mm.cut] using hl) (by simp only[Mm.cut];rw[ai (by omega)];exact ht) (by simp only[Mm.cut];rw[ai (by omega)];exact ha)
 |msl hd ht hk h0 h1=>
  have:=hn _ hd;exact .msl (by simpa[AV.lt,Mm.cut] using hl) (by simp only[Mm.cut];rw[ai (by omega)];exact ht) hk (by simp only[Mm.cut];rw[ai (by omega)];exact h0) (by simp only[Mm.cut];rw[ai (by omega)];exact h1)
 |agg hlen _ ih=>exact .agg hlen (λj p v hp hv=>ih j p v hp hv (nR (by trivial) j p hp))
 |tup hlen _ ih=>exact .tup hlen (λj p v hp hv=>ih j p v hp hv (nR (by trivial) j p hp))
 |fn hlen _ ih=>exact .fn hlen (λj p v hp hv=>ih j p v hp hv (nR (by trivial) j p hp))
theorem FZ(D:List Nat){env env':Env}{h h':ae}{n n' nt:Nat}(h1:tO D h n n' env env')(h2:mA D h n n' h')(hk:fk.k<=n'){B:Base}{w0:Ctx fk}{a:Act}{w:World}{m:Mm}(hs:Sim B w0 ⟨env,h,n,nt⟩ a w m):∃m',Sim B w0 ⟨env',h',n',nt⟩ a w m'/\∀x y v,nI D h n n' x y->al B (LB m h) m w x v->al B (LB m' h') m' w y v:=by
 have bz:∀i,m.dom i->i<n:=λi hd=>(hs.dom i).1 hd
 have cq:∀{i:Nat}{c c':List AV},(i,c)∈h->(i,c')∈h->c=c':=λh1 h2=>hs.heap.key h1 h2
 have hold:∀i c c0,(i,c)∈h'->aU h i=some c0->c0.length=c.length:=λi c c0 hin hg=>by
  have:=oh h2 i c hin;simp only[iO,hg] at this;exact (sQ this.2.2).1
 have hL:∀b,LB (m.cut n n') h' b->LB m h b:=by
  rintro b ⟨id,c,C,hin,_,ha⟩
  have he:=oh h2 id c hin
  cases hg:aU h id with
  |none=>simp only[iO,hg] at he;simp only[Mm.cut] at ha;rw[az he.1] at ha;cases ha
  |some c0=>
   have hm:=fA hg;have hw:=hs.ids id c0 hm;simp only at hw;simp only[Mm.cut] at ha;rw[ai (by omega),<-hold id c c0 hin hg] at ha;exact⟨id,c0,C,hm,(hs.dom id).2 hw,ha⟩
 have hLD:∀id cs b C,aU (p9 D h) id=some cs->m.addr id cs.length=some (b,C)->¬LB (m.cut n n') h' b:=by
  rintro id cs b C hg ha ⟨id2,c2,C2,b9,_,ar⟩
  obtain⟨hm,hD⟩:=vY hg;have he:=oh h2 id2 c2 b9
  cases bd:aU h id2 with
  |none=>simp only[iO,bd] at he;simp only[Mm.cut] at ar;rw[az he.1] at ar;cases ar
  |some c0=>
   have c3:=fA bd;have av:=hs.ids id2 c0 c3;have hw:=hs.ids id cs hm;simp only at hw av;simp only[Mm.cut] at ar;rw[ai (by omega),<-hold id2 c2 c0 b9 bd] at ar;simp only[iO,bd] at he
   have bp:id≠id2:=λe=>he.2.1 (e▸hD)
   have dO:=hs.heap.inj;rw[rV] at dO;obtain⟨p,hp,ep⟩:=lI hm;obtain⟨q,hq,eq⟩:=lI c3
   rcases Nat.lt_trichotomy p q with bg|bg|bg
   .have:=(dO p q hp hq bg).2 b C C2;rw[ep,eq] at this;exact this ((hs.dom _).2 hw) ((hs.dom _).2 av) ha ar
   .simp_all
   .have:=(dO q p hq hp bg).2 b C2 C;rw[ep,eq] at this;exact this ((hs.dom _).2 av) ((hs.dom _).2 hw) ar ha
 have h8:∀x y v,nI D h n n' x y->al B (LB m h) m w x v->al B (LB (m.cut n n') h') (m.cut n n') w y v:=by
  intro x y v hc hr
  rcases hc with ⟨g1,g2⟩|g|g
  .exact (FA g1 hr).cut bz g2 hL
  .unfold AvF at g;split at g
   .rename_i own p
    refine .w (qG hs.heap rfl (λid cs e=>(vY e).1) own (λid cs b C hg ha hb=>⟨hLD id cs b C hg ha,λ_=>hb,λh=>by omega⟩)
     (λb hg=>⟨λhl=>hg.1 (hL b hl),hg.2⟩) (λho b hg=>⟨λhl=>hg.1 (hL b hl),λ_=>hg.2.1 rfl,hg.2.2⟩) 6 x p v g.1 g.2 hr) nofun
   trivial
  .unfold wV at g;split at g
   .rename_i o id sz;obtain⟨a0,cap,hv,_,hf,_,_⟩:=hr.m7;rw[hv];have hc:=hf rfl;subst hc;exact .msl g.2 (by simp only[Mm.cut];rw[az g.1];exact aD _) (aD _) (λ_=>⟨rfl,rfl⟩) (λb C e=>by simp only[Mm.cut] at e;rw[az g.1] at e;cases e)
   trivial
 refine⟨m.cut n n',⟨hs.base,hs.below,hs.defers,hs.size,λt=>?_,⟨λid c hin hd=>?_,?_⟩,λi=>Iff.rfl,λid c hin=>?_,hk,λp hp=>⟨(hs.fr.2.1 p hp).1,(hs.fr.2.1 p hp).2.cut bz (AV.qQ hk (hs.fr.2.1 p hp).1) hL⟩,λq hq=>let ⟨o1,o2,o3,o4⟩:=hs.fr.2.2 q hq;⟨o1,o2,λh=>o3 (hL _ h),o4⟩⟩,h8⟩
 .show al _ _ _ _ (get env' t) _
  rcases FW h1 t with g1|g1
  .exact h8 _ _ _ g1 (hs.env t)
  .rw[g1];exact .w (.undef _) nofun
 .have he:=oh h2 id c hin
  cases hg:aU h id with
  |none=>
   simp only[iO,hg] at he;obtain⟨e1,_,rfl⟩:=he;exact⟨by simp only[Mm.cut];rw[az e1];rfl,.inl ⟨by simp only[Mm.cut];rw[az e1],rfl⟩⟩
  |some c0=>
   have hm:=fA hg;have hw:=hs.ids id c0 hm;simp only at hw;have hlen:=hold id c c0 hin hg;simp only[iO,hg] at he;obtain⟨ht,co⟩:=hs.heap.entry id c0 hm ((hs.dom id).2 hw);refine⟨by simp only[Mm.cut];rw[ai (by omega),ht,hlen],?_⟩
   rcases co with ⟨g1,g2⟩|⟨b,C,cs,e,e1,e2,e3,e4,e5,e6⟩|⟨b,es,clk,e1,e2,e3,e4,e5⟩
   .refine .inl ⟨by simp only[Mm.cut];rw[ai (by omega),<-hlen];exact g1,?_⟩
    grind
   .refine .inr (.inl ⟨b,C,cs,e,by simp only[Mm.cut];rw[ai (by omega),<-hlen];exact e1,e2,e3,by omega,e5,λj p v hp hv=>?_⟩);obtain⟨x,hx,d8⟩:=(sQ he.2.2).2 j p hp
    grind
   .exact .inr (.inr ⟨b,es,clk,by simp only[Mm.cut];rw[ai (by omega),<-hlen];exact e1,(FY he.2.2 e2).1,e3,e4,λl hl=>e5 l ((FY he.2.2 e2).2 l hl)⟩)
 .have hk:=FX h2;refine rQ ?_ hk;intro x y hx hy bp;refine⟨bp,λb C C' _ _ b5 b6=>?_⟩;have ex:=oh h2 x.1 x.2 hx;have ey:=oh h2 y.1 y.2 hy
  cases bl:aU h x.1 with
  |none=>simp only[iO,bl] at ex;simp only[Mm.cut] at b5;rw[az ex.1] at b5;cases b5
  |some cx=>
   cases bm:aU h y.1 with
   |none=>simp only[iO,bm] at ey;simp only[Mm.cut] at b6;rw[az ey.1] at b6;cases b6
   |some cy=>
    have mx:=fA bl;have my:=fA bm;have ix:=hs.ids _ _ mx;have iy:=hs.ids _ _ my;simp only at ix iy;simp only[Mm.cut] at b5 b6;rw[ai (by omega),<-hold x.1 x.2 cx hx bl] at b5;rw[ai (by omega),<-hold y.1 y.2 cy hy bm] at b6;have:=hs.heap.inj;rw[rV] at this;obtain⟨p,hp,ep⟩:=lI mx;obtain⟨q,hq,eq⟩:=lI my;have dx:m.dom x.1:=(hs.dom _).2 ix;have dy:m.dom y.1:=(hs.dom _).2 iy
    grind
 .have he:=oh h2 id c hin;show id<n'
  cases hg:aU h id with
  |none=>simp only[iO,hg] at he;exact he.2.1
  |some c0=>simp only[iO,hg] at he;exact he.1
theorem bU(D:List Nat){env env':Env}{h h':ae}{n n' nt:Nat}(h1:tO D h n n' env env')(h2:mA D h n n' h')(hk:fk.k<=n':=by first|exact aR _|omega|(simp;done)):Lek fk ⟨env,h,n,nt⟩ ⟨env',h',n',nt⟩:=by
 intro B w0 a w m hs;obtain⟨m',d7,_⟩:=FZ D h1 h2 hk hs
 grind
attribute [simp] AvF wV nI gD tO iO mA p9
section
omit [ak]
@[simp]theorem Nr(h:ae)(d:Nat)(o f:Bool)(p:PV):dY h d (.w o f p)=(o || flat p):=by cases d<;>rfl
@[simp high] theorem vZ(h:ae)(d:Nat)(o f:Bool):∀l:List PV,(l.map (AV.w o f)).mapM (frz h d)=some l
 |[]=>rfl
 |p::r=>by simp[xo,vZ h d o f r]
@[simp high] theorem XJ(h:ae)(d:Nat)(f:Bool):∀l:List PV,(l.map (AV.w true f)).all (dY h d)=true
 |[]=>rfl
 |p::r=>by simp
@[simp high] theorem sS(h:ae)(d:Nat)(o f:Bool):∀l:List PV,fD l=true->(l.map (AV.w o f)).all (dY h d)=true
 |[],_=>rfl
 |p::r,hl=>by
  simp only[fD,di] at hl;simp only[nN,List.all_cons,Nr,hl.1,iS,fz];exact sS h d o f r hl.2
end
def tQ:PV->Bool
 |.undef=>false
 |.tup _=>false
 |.agg _=>false
 |_=>true
omit [ak] in
@[simp]theorem wh(o f:Bool):∀l:List PV,l.all tQ=true->dh (l.map (AV.w o f))=true
 |[],_=>rfl
 |p::r,hl=>by
  simp only[List.all_cons,di] at hl;simp only[nN,dh,wh o f r hl.2,iD]
  cases p<;>first|rfl|(simp[tQ] at hl)
omit [ak] in
@[simp]theorem sT(n:Nat)(o f:Bool):∀l:List PV,AV.lt.ltL n (l.map (AV.w o f))=true
 |[]=>rfl
 |p::r=>by simp[AV.lt.ltL,AV.lt,sT n o f r]
theorem gj{P:Program}{K:Exit->St->Prop}{c:Code}{id:Nat}{env:Env}{h:ae}{n nt:Nat}{α β:Type}(n':Nat)(J:α->Prop)(ks:List Nat)(mods:α->Env)(bf:List Nat)(hm:α->ae)(μ:α->Nat)(F:β->Prop)(fks:List Nat)(fmods:β->Env)(fhks:List Nat)(fhm:β->ae)(x0:α)(hJ:J x0)(h0:Lek fk ⟨env,h,n,nt⟩ ⟨mods x0++fP env ks,hm x0++gX h bf,n',nt⟩)(round:∀x,J x->aS fk P c ⟨mods x++fP env ks,hm x++gX h bf,n',nt⟩ (jX fk J (λx=>⟨mods x++fP env ks,hm x++gX h bf,n',nt⟩) μ x (nH fk id F (λy=>⟨fmods y++fP env fks,fhm y++gX h fhks,n',nt⟩) K)))(after:∀y,F y->K .normal ⟨fmods y++fP env fks,fhm y++gX h fhks,n',nt⟩):aS fk P (.block id (.loop c)) ⟨env,h,n,nt⟩ K:=by
 refine fT (FJ (yD J (λx=>⟨mods x++fP env ks,hm x++gX h bf,n',nt⟩) μ x0 hJ h0 round) (λe s hk=>?_))
 cases e<;>first
  |exact hk.elim
  |exact⟨s,Lek.refl s,hk⟩
  |(simp only[nH] at hk
    simp only[gS];split at hk
    .rename_i hw;obtain⟨y,hy,hle⟩:=hk
     grind
    .rename_i hw
     exact⟨s,Lek.refl s,by rw[ai hw];exact hk⟩)
section
omit [ak]
@[simp]theorem XK(z:List AV):im 1 z=z:=by simp[im]
@[simp]theorem XL(z:List AV):im 2 z=z++z:=by simp[im,Ck]
@[simp]theorem Ns{D:List Nat}{h:ae}{n n':Nat}{x y:List AV}:∀a:List AV,gD D h n n' (a++x) (a++y)=(gD D h n n' a a/\gD D h n n' x y)
 |[]=>propext ⟨λh=>⟨trivial,h⟩,λh=>h.2⟩
 |z::a=>by
  simp only[oW,gD,Ns a,and_assoc]
end
end Go.Fi
namespace Go.Fi
open Go Go.RowKit Go.ChangeShapes Go.WideShapes
variable[ak]
def Match(w:World)(ps:List PV)(cs:List Value):Prop:=ps.length=cs.length/\∀(j:Nat)(p:PV)(v:Value),ps[j]?=some p->cs[j]?=some v->Rep (λ_=>True) w p v
omit [ak] in
theorem Match.append{w:World}{a b:List PV}{x y:List Value}(h1:Match w a x)(h2:Match w b y):Match w (a++b) (x++y):=by
 refine⟨by rw[r5,r5,h1.1,h2.1],λj p v hp hv=>?_⟩;by_cases hj:j<a.length
 .rw[rT hj] at hp;rw[rT (by rw[<-h1.1];exact hj)] at hv;exact h1.2 j p v hp hv
 .have hj:a.length<=j:=by omega
  rw[rU hj] at hp;rw[rU (by rw[<-h1.1];exact hj),<-h1.1] at hv;exact h2.2 _ p v hp hv
omit [ak] in
theorem Match.one{w:World}{p:PV}{v:Value}(h:Rep (λ_=>True) w p v):Match w [p] [v]:=by
 refine⟨rfl,λj q u hq hu=>?_⟩
 grind
def Reads(P:Program)(t:TypeId){α:Type}(c:α->List PV):Prop:=
 ∀(H:Type)(enc:TypeId×Value->H)(w:World)(held:Bool)(fuel:Nat)(cs:List Value)(x:DataW H×List MemPlace),DataW.trod enc P w 0 (λ_=>true) held fuel t cs=some x->∃y:α,Match w (c y) cs
def xh(P:Program)(fs:List Field)(off:Nat){α:Type}(c:α->List PV)(s:Nat):Prop:=
 ∀(H:Type)(enc:TypeId×Value->H)(w:World)(held:Bool)(n:Nat)(cs:List Value),(∀f∈fs,∃x:DataW H×List MemPlace,DataW.trod enc P w 0 (λ_=>true) held n f.type ((cs.drop f.offset).take (P.cellsOf f.type))=some x) ->
  ∃y:α,Match w (c y) ((cs.drop off).take s)
section
variable{P:Program}{t e:TypeId}
section
omit [ak]
theorem OZ{k:IntKind}(ht:P.underlying t=some (.int k)):Reads P t (λn:Int=>[.int k n]):=by
 intro H enc w held fuel cs x h;obtain⟨n,rfl,_,_⟩:=DataW.trod_int ht h;exact⟨n,Match.one (.int _ _)⟩
theorem O0(ht:P.underlying t=some .string):Reads P t (λs:ByteArray=>[.str s]):=by
 intro H enc w held fuel cs x h;obtain⟨n,rfl,_,_⟩:=DataW.trod_string ht h;exact⟨n,Match.one (.str _)⟩
theorem O3(ht:P.underlying t=some .bool):Reads P t (λb:Bool=>[.bool b]):=by
 intro H enc w held fuel cs x h;obtain⟨n,rfl,_⟩:=DataW.trod_bool ht h;exact⟨n,Match.one (.bool _)⟩
theorem wB{α β:Type}{c:α->List PV}{c':β->List PV}(f:α->β)(hc:∀y,c y=c' (f y))(h:Reads P t c):Reads P t c':=by
 intro H enc w held fuel cs x hx;obtain⟨y,hy⟩:=h H enc w held fuel cs x hx
 grind
theorem AX{off:Nat}:xh P [] off (λ_:Unit=>[]) 0:=by
 intro H enc w held n cs _;exact⟨(),by simp[Match]⟩
theorem kU{f:Field}{fs:List Field}{off s S:Nat}{α β:Type}{c:α->List PV}{c':β->List PV}(ho:f.offset=off)(hs:P.cellsOf f.type=s)(h:Reads P f.type c)(hr:xh P fs (off+s) c' S):xh P (f::fs) off (λy:α×β=>c y.1++c' y.2) (s+S):=by
 intro H enc w held n cs a';obtain⟨x,hx⟩:=a' f iR;rw[ho,hs] at hx;obtain⟨y,hy⟩:=h H enc w held n _ x hx;obtain⟨z,hz⟩:=hr H enc w held n cs (λg hg=>a' g (dQ _ hg));refine⟨(y,z),?_⟩;rw[List.take_add,List.drop_drop];exact hy.append hz
theorem AY{fs:Array Field}{s:Nat}{α:Type}{c:α->List PV}(ht:P.underlying t=some (.struct fs))(hs:P.cellsOf t=s)(h:xh P fs.toList 0 c s):Reads P t c:=by
 intro H enc w held fuel cs x hx;obtain⟨xs,n,_,_,hl,c7,hf⟩:=DataW.trod_struct ht hx
 obtain⟨y,hy⟩:=h H enc w held n cs (λf hin=>by
  obtain⟨i,hi⟩:=List.mem_iff_getElem?.1 hin;rw[iQ] at hi
  have a6:i<xs.length:=by rw[c7];exact (a8.1 hi).1
  exact⟨xs[i],by rw[hf i f hi];exact cG a6⟩)
 grind
theorem vR{α:Type}{c:α->List PV}{s:Nat}(hl:∀x,(c x).length=s)(hs:0<s)(l:List α)(j:Nat)(hj:j<l.length*s):∃x,l[j / s]?=some x/\(l.flatMap c)[j]?=(c x)[j%s]?:=by
 induction l generalizing j with
 |nil=>simp at hj
 |cons a l ih=>
  simp only[mG];by_cases h:j<s
  .refine⟨a,by rw[Nat.div_eq_of_lt h];rfl,?_⟩;rw[rT (by rw[hl];exact h),Nat.mod_eq_of_lt h]
  .have h:s<=j:=by omega
   rw[gu,fL] at hj;obtain⟨x,h1,h2⟩:=ih (j-s) (by omega);refine⟨x,?_,?_⟩
   .rw[Nat.div_eq_sub_div hs h,tX];exact h1
   .rw[rU (by rw[hl];exact h),hl,h2,Nat.mod_eq_sub_mod h]
theorem te{s:Nat}{α:Type}{c:α->List PV}(ht:P.underlying t=some (.slice e))(hs:P.cellsOf e=s)(aa:0<s)(hl:∀x,(c x).length=s)(h:Reads P e c):Reads P t (λl:List α=>[.sl l.length (l.flatMap c)]):=by
 intro H enc w held fuel cs x hx
 rcases DataW.trod_slice ht hx with h0|⟨a,len,cap,elems,rest,n,_,rfl,_,_,hle,_,hlen,cm,_,_⟩
 .rw[h0.1];exact⟨[],Match.one .slnil⟩
 .have each:∀i,i<len->∃y:α,Match w (c y) ((List.range s).map λj=>(w.cell? ((a.add (i*s)).add j)).getD undef)/\∀j,j<s->∃v,w.cell? ((a.add (i*s)).add j)=some v:=by
   intro i hi;have h1:=cm i hi;rw[hs,cG (by omega)] at h1;obtain⟨cs',cg,hy⟩:=Option.bind_eq_some_iff.1 h1;obtain⟨y,hy⟩:=h H enc w held n cs' _ hy;obtain⟨_,cf,h8⟩:=World.cells?_some cg;refine⟨y,?_,λj hj=>⟨cs'[j]'(by omega),by rw[h8 j (by omega)];simp⟩⟩
   have e:(List.range s).map (λj=>(w.cell? ((a.add (i*s)).add j)).getD undef)=cs':=by
    apply List.ext_getElem
    .simp[cf]
    simp_all
   rw[e];exact hy
  have a':∃l:List α,l.length=len/\∀i y,l[i]?=some y->Match w (c y) ((List.range s).map λj=>(w.cell? ((a.add (i*s)).add j)).getD undef):=by
   have:∀m,m<=len->∃l:List α,l.length=m/\∀i y,l[i]?=some y->Match w (c y) ((List.range s).map λj=>(w.cell? ((a.add (i*s)).add j)).getD undef):=by
    intro m
    induction m with
    |zero=>intro _;exact⟨[],rfl,λi y hy=>by simp at hy⟩
    |succ m ih=>
     intro hm;obtain⟨l,aw,bo⟩:=ih (by omega);obtain⟨y,hy,_⟩:=each m (by omega);refine⟨l++[y],by simp[aw],λi z hz=>?_⟩;by_cases hi:i<m
     .rw[rT (by omega)] at hz;exact bo i z hz
     .have:i=m:=by
       have:=(dP.1 hz).1;simp[aw] at this;omega
      subst this;rw[rU (by omega),aw] at hz;simp at hz;subst hz;exact hy
   simp_all
  obtain⟨l,aw,bo⟩:=a';refine⟨l,Match.one ?_⟩;rw[aw]
  cases c9:l.flatMap c with
  |nil=>exact .slz hle
  |cons p ps=>
   rw[<-c9]
   have aj:(l.flatMap c).length=len*s:=by rw[sJ c s hl,aw]
   have b':0<len:=by
    grind
   obtain⟨_,_,hex⟩:=each 0 b';obtain⟨v0,c6⟩:=hex 0 aa
   have ao:a=⟨a.block,a.off,none⟩:=by
    obtain⟨b,o,sp⟩:=a
    cases sp with
    |none=>rfl
    |some sp=>
     simp only[World.cell?,Addr.add] at c6
     split at c6<;>simp_all
   have b4:∀i j,(a.add (i*s)).add j=⟨a.block,a.off+(i*s+j),none⟩:=by
    intro i j;rw[ao,Addr.ja,Addr.ja]
    grind
   rw[ao]
   have bv:∀j,j / s*s+j%s=j:=λj=>by rw[Nat.mul_comm];exact Nat.div_add_mod j s
   have cp:∀j,j<len*s->j / s<len:=λj hj=>Nat.div_lt_of_lt_mul (by rw[Nat.mul_comm];exact hj)
   refine .sl (λj=>(w.cell? ⟨a.block,a.off+j,none⟩).getD undef) hle (λj hj=>?_) (λ_=>trivial) (λj q hq=>?_)
   .rw[aj] at hj;obtain⟨_,_,hex⟩:=each (j / s) (cp j hj);obtain⟨v,hv⟩:=hex (j%s) (xj _ aa);rw[b4,bv] at hv
    grind
   .have hj:j<len*s:=by rw[<-aj];grind
    obtain⟨y,d5,d6⟩:=vR hl aa l j (by rw[aw];exact hj);rw[d6] at hq
    have hm:=(bo (j / s) y d5).2 (j%s) q ((w.cell? ((a.add (j / s*s)).add (j%s))).getD undef) hq (by
     rw[gH,rP (xj _ aa)];rfl)
    rw[b4,bv] at hm;exact hm
end
end
section
variable{H:Type}{enc:TypeId×Value->H}{P:Program}
section
omit [ak]
theorem O4{f:Func}{s:ChangeSpec}{apart fresh handsOn again:Bool}{W W':World}{args:Array Value}{v:Value}{ds gs:List (DataW H)}{before pa pv:List MemPlace}(hW:DataW.Whole enc P f.params.toList s.vars apart W args.toList ds gs before)(ba:∀(b:Nat)(sp:Nat->Bool)(hd:Bool),DataW.TrodAll enc P W' b sp hd f.resultTypes.toList (v.resultList f.resultTypes.size) (s.fn H (ds++gs)).results [])(ag:∀sp:Nat->Bool,(∀p∈before,sp p.block=true)->DataW.TrodAll enc P W' 0 sp true f.params.toList args.toList (s.fn H (ds++gs)).args pa)(aq:∀sp:Nat->Bool,(∀p∈before,sp p.block=true)->DataW.TrodVars enc P W' sp s.vars (s.fn H (ds++gs)).vars pv)(bq:before=pa++pv)(hb:Bel W.heap.size W W')(ct:∀(j:Nat)(t:TypeId)(r:Value),f.resultTypes[j]?=some t->(v.resultList f.resultTypes.size)[j]?=some r->Value.okWide P W' .any 0 t r):s.post enc P f apart fresh handsOn again W args v W':=by
 have a6:∀p∈before,p.block<W.heap.size:=λp hp=>hW.lt p hp
 have hold:∀p∈before,(λb=>decide (b<W.heap.size)) p.block=true:=λp hp=>by simp_all
 refine⟨ds,gs,before,[],pa,pv,hW,ba _ _ _,ag _ hold,aq _ hold,World.keptBut_mono (λp hp=>⟨hp,?_⟩) (hb.frame (·∈before)),λ_=>?_⟩
 .rw[bq,iF] at hp
  grind
 .obtain⟨_,_,_,_,_,hz,hn⟩:=hW;refine⟨ct,_,_,([]++pa)++pv,⟨[]++pa,pv,trodAll_append (ag _ (λ_ _=>rfl)) (ba _ _ _),aq _ (λ_ _=>rfl),rfl,?_,?_⟩,?_⟩
  .intro b off hp
   have hin:MemPlace.cell b off∈before:=by rw[bq];simpa using hp
   rw[hb.frozen (a6 _ hin)];exact hz b off hin
  .intro ha;have:=hn ha;rw[bq] at this;simpa using this
  simp_all
theorem GM(hl:laidOutB P=true){W W':World}(hb:Bel W.heap.size W W'){sp:Nat->Bool}:∀{ts:List TypeId}{vs:List Value}{ds:List (DataW H)}{ps:List MemPlace},(∀t∈ts,P.readableRec t=true/\t<P.types.size)->DataW.TrodAll enc P W 0 (λ_=>true) true ts vs ds ps->(∀x∈ps,x.block<W.heap.size)->(∀x∈ps,sp x.block=true)->DataW.TrodAll enc P W' 0 sp true ts vs ds ps
 |[],[],[],_,_,h,_,_=>h
 |t::ts,v::vs,d::ds,ps,hr,h,a6,bi=>by
  obtain⟨p,q,h1,h2,rfl⟩:=h;refine⟨p,q,?_,GM hl hb (λt ht=>hr t (dQ _ ht)) h2 (λx hx=>a6 x (List.mem_append_right _ hx)) (λx hx=>bi x (List.mem_append_right _ hx)),rfl⟩;obtain⟨r1,r2⟩:=hr t iR;exact WideElems.Trod_stays hl r1 r2 h1 (λx hx=>hb.same (a6 x (List.mem_append_left _ hx))) (λx hx=>bi x (List.mem_append_left _ hx))
 |[],[],_::_,_,_,h,_,_=>h.elim
 |[],_::_,_,_,_,h,_,_=>h.elim
 |_::_,[],_,_,_,h,_,_=>h.elim
 |_::_,_::_,[],_,_,h,_,_=>h.elim
theorem Sc{f:Func}{s:ChangeSpec}{apart fresh handsOn again:Bool}{W W':World}{args:Array Value}{ds gs:List (DataW H)}{before:List MemPlace}{tb:TypeId}(hl:laidOutB P=true)(hW:DataW.Whole enc P f.params.toList s.vars apart W args.toList ds gs before)(hv:s.vars=[])(a5:s.fn H (ds++gs) = { results:=[.lit (.bool true)],args:=ds })(hr:f.resultTypes=#[tb])(c5:P.underlying tb=some .bool)(ax:(f.params.toList.all λt=>P.readableRec t&&decide (t<P.types.size))=true)(hb:Bel W.heap.size W W'):s.post enc P f apart fresh handsOn again W args (.bool true) W':=by
 have bh:∀t∈f.params.toList,P.readableRec t=true/\t<P.types.size:=λt ht=>by
  have:=fR.1 ax t ht;simp_all
 have a6:∀p∈before,p.block<W.heap.size:=λp hp=>hW.lt p hp
 have c8:=hW;obtain⟨p,q,hA,hV,rfl,_,_⟩:=hW;rw[hv] at hV
 have hq:q=[]/\gs=[]:=by
  cases gs with
  |nil=>trivial
  |cons _ _=>exact hV.elim
 obtain⟨rfl,rfl⟩:=hq;refine O4 (pa:=p) (pv:=[]) c8 (λb sp hd=>?_) (λsp bi=>?_) (λsp _=>?_) rfl hb ?_
 .rw[a5,hr];exact trodAll_mk1 (shut_bool c5 true)
 .rw[a5];exact GM hl hb bh hA (λx hx=>a6 x (by grind)) (λx hx=>bi x (by grind))
 .rw[a5,hv];rfl
 .rw[hr];intro j t r hj hv
  match j,hj,hv with
  |0,hj,hv=>
   simp[Value.resultList] at hj hv;subst hj;subst hv;simp only[Value.okWide,c5,Cell.okWide,Cell.ok]
end
end
section
variable{P:Program}{t:TypeId}{W:World}
omit [ak] in
theorem Sd{α:Type}{c:α->List PV}(h:Reads P t c){fs:Array Field}(ht:P.underlying t=some (.struct fs)){r:Reach}{base:Nat}{v:Value}(bb:Value.okWide P W r base t v){H:Type}{enc:TypeId×Value->H}{held:Bool}{d:DataW H}{ps:List MemPlace}(hd:DataW.Trod enc P W 0 (λ_=>true) held t v d ps):∃y:α,Rep (λ_=>True) W (.agg (c y)) v:=by
 simp only[Value.okWide,ht] at bb;obtain⟨cs,rfl,_,_⟩:=bb;obtain⟨fuel,hd⟩:=hd;obtain⟨y,hy⟩:=h H enc W held fuel _ _ hd;simp only[Value.cells] at hy;exact⟨y,.agg (by simpa using hy.1) (λj p u hp hu=>hy.2 j p u hp (by rw[iQ];exact hu))⟩
end
section
variable{P:Program}{t e:TypeId}{W:World}
omit [ak] in
theorem O5{s:Nat}{α:Type}{c:α->List PV}(ht:P.underlying t=some (.array 2 e))(hs:P.cellsOf e=s)(cw:P.cellsOf t=s+s)(h:Reads P e c):Reads P t (λy:α×α=>c y.1++c y.2):=by
 intro H enc w held fuel cs x hx;obtain⟨xs,n,_,_,hl,c7,hf⟩:=DataW.trod_array ht hx;have f0:=hf 0 (by omega);have f1:=hf 1 (by omega);rw[cG (by omega),hs] at f0 f1;obtain⟨y,hy⟩:=h H enc w held n _ _ f0;obtain⟨z,hz⟩:=h H enc w held n _ _ f1;refine⟨(y,z),?_⟩;rw[Ih,List.drop_zero] at hy;rw[Nat.one_mul] at hz
 have e:cs=cs.take s++(cs.drop s).take s:=by
  rw[List.take_of_length_le (l:=cs.drop s) (by rw[xn,hl,cw];omega),xD]
 rw[e];exact hy.append hz
end
end Go.Fi
namespace Go.Fi
open Go Go.RowKit
variable[ak]
variable{fk:Fk}
theorem NF{P:Program}{K:Exit->St->Prop}{rid d1 d2 t ty1 ty2 e:Nat}{p1 p2:String}{a1 a2:Array Edge}{st tt:TypeId}{env:Env}{h:ae}{n nt:Nat}{ow fl:Bool}{k:Nat}{cells:List PV}(hu:P.underlying st=some (.slice e))(hg:get env t=.w ow fl (.sl k cells))(cj:d1<nt)(ck:d2<nt)(hk:∀b:Bool,(b=true->k=0/\cells=[])->K .normal ⟨(d2,.w false false (.bool b))::(d1,.w ow fl (.sl k cells))::env,h,n,nt⟩):aS fk P (.region rid #[⟨some d1,.move (.tmp t),ty1,p1,a1,none⟩,⟨some d2,.binOp .eql st (.tmp d1) (.const (.slice none 0 0)) tt,ty2,p2,a2,none⟩] false) ⟨env,h,n,nt⟩ K:=by
 intro B w0 a w m hs;refine qu ?_;simp only[gN,Region.wanted,aJ];intro w e1x;replace hs:=hs.move e1x;refine jk (λc e=>by cases e) (uS w0 (⟨some d1,.move (.tmp t),ty1,p1,a1,none⟩:Oper) (K:=λv h' n'=>v=get env t/\h'=h/\n'=n) (by simp) hs cj _ _ ?_)
 rintro v h' n' a w m ⟨rfl,rfl,rfl⟩ hs
 intro w e1x;replace hs:=hs.move e1x;refine jk (λc e=>by cases e) ?_;rw[hg] at hs
 have hx:al B (LB m h') m w (.w ow fl (.sl k cells)) (a.eval (.tmp d1)):=by
  have:=hs.env d1;rw[show get (St.env ⟨put env (some d1) (.w ow fl (.sl k cells)),h',n',nt⟩) d1=.w ow fl (.sl k cells) from by simp] at this;exact this
 obtain⟨a0,cap,hv,_,_,c4,bp⟩:=hx.m7
 have br:(execOp a.eval ⟨some d2,.binOp .eql st (.tmp d1) (.const (.slice none 0 0)) tt,ty2,p2,a2,none⟩).run P w=.ok (.value (.bool a0.isNone)) w:=by
  have d3:a.eval (.tmp d1)=.slice a0 k cap:=hv;have hc:a.eval (.const (.slice none 0 0))=.slice none 0 0:=rfl
  have cl:∀d,(Op.equalIn (d+1) st (.slice a0 k cap) (.slice none 0 0)).run P w=.ok a0.isNone w:=λd=>by
   rw[Op.equalIn,Sem.run_bind,run_underlying hu];simp only[Result.andThen_ok]
   cases a0<;>rfl
  have he:(Op.equal st (.slice a0 k cap) (.slice none 0 0)).run P w=.ok a0.isNone w:=cl 9999;have hg:(eqGuard .eql st (.tmp d1) (.const (.slice none 0 0)) (.slice a0 k cap) (.slice none 0 0)).run P w=.ok () w:=rfl;simp[execOp,d3,hc,hg,binOp,he]
 unfold Oper.wpt;rw[br,Oper.oo];refine⟨_,m,hk a0.isNone (λhb=>?_),hs.base,hs.below,by rw[jM];exact hs.defers,by rw[jL];exact hs.size,?_,hs.heap,hs.dom,hs.ids,hs.fr⟩
 .have:a0=none:=by cases a0 with
   |none=>rfl
   |some x=>cases hb
  simp_all
 .exact mN _ a (some d2) _ _ (by show d2<a.tmps.size;rw[hs.size];exact ck) (gJ _) hs.env
def pS(M:List (ByteArray×Int)):List (PV×PV):=M.map λp=>(.str p.1,.int .i64 p.2)
def mS(M:List (ByteArray×Int)):List AV:=[fU (pS M)]
section
omit [ak]
theorem Oe{D:List Nat}{h:ae}{n n':Nat}(o f:Bool)(p:PV):nI D h n n' (.w o f p) (.w false false p):=.inl ⟨⟨nofun,nofun,.inl rfl⟩,rfl⟩
@[simp]theorem YE(M:List (ByteArray×Int)):(mS M).length=1:=rfl
@[simp]theorem zah(M:List (ByteArray×Int))(n:Nat):AV.lt.ltL n (mS M)=true:=rfl
end
def xc(c:Bool)(r:Option Int):AV:=
 match c,r with
 |true,some v=>.w false false (.tup [.int .i64 v,.bool true])
 |true,none=>.w false false (.tup [.int .i64 0,.bool false])
 |false,some v=>.w false false (.int .i64 v)
 |false,none=>.w false false (.int .i64 0)
section
omit [ak]
@[simp]theorem YF(v:Int):xc true (some v)=.w false false (.tup [.int .i64 v,.bool true]):=rfl
@[simp]theorem YG:xc true none=.w false false (.tup [.int .i64 0,.bool false]):=rfl
@[simp]theorem YH(h:ae)(id:Nat):mpC h (.mp id)=aU h id:=rfl
end
def rG(h:ae)(id:Nat)(cells:Option (List AV))(r:Option (TypeDesc×PV))(k v:AV):Option (Prop×ae):=
 match cells.bind eH,k,v,r with
 |some l,.w _ _ kp,.w _ _ vp,some (d,_)=>some ((okM d kp l=true/\isLit vp=true),bu h id [fU (iq l kp vp)])
 |_,_,_,_=>none
def Ce(h:ae)(r:Option (TypeDesc×PV))(m k v:AV):Option (Prop×ae):=
 match m with
 |.mp id=>rG h id (aU h id) r k v
 |_=>none
omit [ak] in
@[simp]theorem YI(h:ae)(r:Option (TypeDesc×PV))(id:Nat)(k v:AV):Ce h r (.mp id) k v=rG h id (aU h id) r k v:=rfl
@[simp ↓]theorem YJ{P:Program}{env:Env}{h:ae}{n:Nat}(t:TypeId)(x k:Operand)(c:Bool)(K:AV->ae->Nat->Prop):bn P env h n (.lookup t x k c) K=aW (aOp P h n (ev env) (.lookup t x k c)) (eK h n K) .it:=rfl
@[simp ↓]theorem YK{P:Program}{env:Env}{h:ae}{n:Nat}(t:TypeId)(x k:Operand)(c:Bool)(K:AV->List (List AV)->Prop):bj P env h n (.lookup t x k c) K=aW (aOp P h n (ev env) (.lookup t x k c)) K .it:=rfl
@[simp ↓]theorem YL{P:Program}{env:Env}{h:ae}{n:Nat}(t:TypeId)(K:AV->ae->Nat->Prop):bn P env h n (.makeMap t none) K=pM (some ((jV P t).isSome=true,.mp n,(n,[fU []])::h,n+1)) K .it:=rfl
@[simp ↓]theorem YM{P:Program}{env:Env}{h:ae}{n:Nat}(t:TypeId)(m k v:Operand)(K:AV->ae->Nat->Prop):bn P env h n (.mapUpdate t m k v) K=sM (Ce h (jV P t) (ev env m) (ev env k) (ev env v)) n K .it:=by
 show nh P env h n t m k v K=_;unfold nh Ce rG
 cases ev env m with
 |mp id=>
  dsimp only
  cases (aU h id).bind eH<;>first
   |rfl
   |(cases ev env k<;>first
      |rfl
      |(cases ev env v<;>first
         |rfl
         |(cases jV P t<;>rfl)))
 |_=>rfl
section
omit [ak]
@[simp]theorem YN(a:Nat):pY (.mp a)=a:=rfl
@[simp]theorem YO(a:Nat)(D:List Nat):wT (.mp a) D=(a∈D):=rfl
@[simp]theorem YP(env:Env)(t:TypeId)(x k:Operand)(c:Bool)(D:List Nat):touch env (.lookup t x k c) D=True:=rfl
@[simp]theorem YQ(env:Env)(t:TypeId)(m k v:Operand)(D:List Nat):touch env (.mapUpdate t m k v) D=wT (ev env m) D:=rfl
end
def nA(l:List ByteArray):List AV:=(l.map PV.str).map (AV.w false false)
omit [ak] in
@[simp]theorem YR:nA []=[]:=rfl
end Go.Fi
