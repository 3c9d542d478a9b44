/- Lemmas. -/
import Derived.Test.YthpkmilhiganjaaGreatPLe
import Derived.ProofKit
import Derived.Carry
import Derived.ChangeSame
import Derived.ChangeArms
import Derived.OpenShut
set_option linter.all false
set_option maxHeartbeats 32000000
set_option maxRecDepth 100000
namespace Go.Fi
open Go Go.RowKit
variable[av]
variable{fk:Fk}
def qO(D:List Nat):ak->ak
 |[]=>[]
 |(k,v)::r=>if k∈D then (k,v)::qO D r else qO D r
omit [av] in
theorem wW{D:List Nat}:∀{h:ak}{id:Nat}{c:List AV},bf (qO D h) id=some c->(id,c)∈h/\id∈D
 |[],id,c,e=>by cases e
 |(k,v)::r,id,c,e=>by
  simp only[qO] at e;split at e
  .rename_i hk;simp only[bf] at e;split at e
   .simp_all
   .obtain⟨h1,h2⟩:=wW e;simp_all
  .obtain⟨h1,h2⟩:=wW e;simp_all
def AvF(h:ak)(x y:AV):Prop:=
 match y with
 |.w own false p=>frz h 6 x=some p/\(own=true->dQ h 6 x=true)
 |_=>False
def xJ(n n':Nat)(x y:AV):Prop:=
 match x,y with
 |.w _ true (.sl 0 []),.msl id 0 _ 0 0=>n<=id/\id<n'
 |_,_=>False
def n9(D:List Nat)(h:ak)(n n':Nat)(x y:AV):Prop:=(se x y/\y.lt n'=true)\/AvF (qO D h) x y\/xJ n n' x y
def gZ(D:List Nat)(h:ak)(n n':Nat):List AV->List AV->Prop
 |[],[]=>True
 |x::a,y::b=>n9 D h n n' x y/\gZ D h n n' a b
 |_,_=>False
def uD(D:List Nat)(h:ak)(n n':Nat)(env:Env):Env->Prop
 |[]=>True
 |(t,v)::r=>n9 D h n n' (get env t) v/\uD D h n n' env r
def iO(D:List Nat)(h:ak)(n n':Nat)(i:Nat)(c:List AV):Prop:=
 match bf h i with
 |some c0=>i<n'/\¬i∈D/\gZ D h n n' c0 c
 |none=>n<=i/\i<n'/\c=[]
def mQ(D:List Nat)(h:ak)(n n':Nat):ak->Prop
 |[]=>True
 |(i,c)::r=>iO D h n n' i c/\bf r i=none/\mQ D h n n' r
section
omit [av]
theorem wX{D:List Nat}{h:ak}{n n':Nat}:∀{a b:List AV},gZ D h n n' a b->a.length=b.length/\∀(j:Nat)(y:AV),b[j]?=some y->∃x,a[j]?=some x/\n9 D h n n' x y
 |[],[],_=>⟨rfl,λj y h=>by simp at h⟩
 |x::a,y::b,hc=>by
  obtain⟨h1,h2⟩:=hc;obtain⟨h3,h4⟩:=wX h2
  grind
 |[],_::_,hc=>hc.elim
 |_::_,[],hc=>hc.elim
theorem oM{D:List Nat}{h:ak}{n n':Nat}(o f:Bool):∀l:List PV,gZ D h n n' (l.map (.w o f)) (l.map (.w o f))
 |[]=>trivial
 |p::r=>⟨.inl ⟨⟨λh=>h,λh=>h,.inl rfl⟩,rfl⟩,oM o f r⟩
theorem Gs{D:List Nat}{h:ak}{n n':Nat}:∀{env' env:Env},uD D h n n' env env'->∀t,n9 D h n n' (get env t) (get env' t)\/get env' t=.w false false .undef
 |[],env,_,t=>.inr rfl
 |(k,v)::r,env,hh,t=>by
  obtain⟨h1,h2⟩:=hh;simp only[get];split
  .simp_all
  .exact Gs h2 t
theorem oN{D:List Nat}{h:ak}{n n':Nat}:∀{h':ak},mQ D h n n' h'->∀i c,(i,c)∈h'->iO D h n n' i c
 |[],_,i,c,hin=>by cases hin
 |(k,v)::r,hh,i,c,hin=>by
  obtain⟨h1,h2,h3⟩:=hh
  rcases cD.1 hin with e|e
  .simp_all
  .exact oN h3 i c e
theorem Gt{D:List Nat}{h:ak}{n n':Nat}:∀{h':ak},mQ D h n n' h'->h'.Pairwise λp q=>p.1≠q.1
 |[],_=>List.Pairwise.nil
 |(k,v)::r,hh=>by
  obtain⟨h1,h2,h3⟩:=hh;exact IY.2 ⟨λq hq e=>Bb h2 q hq e.symm,Gt h3⟩
theorem Gu{D:List Nat}{h:ak}{n n':Nat}{c0 c:List AV}(hc:gZ D h n n' c0 c)(hm:jb c0=true):jb c=true/\∀l,dZ c=some l->dZ c0=some l:=by
 obtain⟨hl,hr⟩:=wX hc;have h1:=yQ hm
 match c0,c,h1,hl with
 |[x],[y],_,_=>
  obtain⟨x',hx,cz⟩:=hr 0 y rfl;simp at hx;subst hx
  cases x with
  |w o f p=>
   rcases cz with ⟨h2,_⟩|h2|h2
   .cases y with
    |w o' f' p'=>
     obtain⟨_,_,h3⟩:=h2
     rcases h3 with rfl|⟨rfl,_⟩
     .refine⟨?_,λl hl=>?_⟩
      .cases p'<;>simp_all[jb]
      .cases p'<;>simp_all[dZ]
     .exact⟨rfl,λl hl=>by trivial⟩
    |_=>cases h2
   .cases y with
    |w o' f' p'=>
     cases f' with
     |true=>cases h2
     |false=>
      obtain⟨h3,_⟩:=h2;simp only[frz,bz] at h3;subst h3;refine⟨?_,λl hl=>?_⟩
      .cases p<;>simp_all[jb]
      .cases p<;>simp_all[dZ]
    |_=>cases h2
   .cases p<;>simp[jb] at hm<;>(unfold xJ at h2;split at h2<;>first|exact h2.elim|simp_all)
  |_=>simp[jb] at hm
theorem rr{B:Base}{m:Mm}{w:World}{H h:ak}{G':Nat->Prop}{L:Nat->Prop}(hs:bt B H m w)(hL:L=LB m H)(h9:∀id cs,bf h id=some cs->(id,cs)∈H)(own:Bool)(hG1:∀id cs b C,bf h id=some cs->m.addr id cs.length=some (b,C)->B.n<=b->G' b)(hG2:∀b,Good B L own b->G' b)(hG3:own=true->∀b,Good B L true b->G' b):∀(d:Nat)(x:AV)(p:PV)(v:Value),frz h d x=some p->(own=true->dQ h d x=true)->aA B L m w x v->Rep G' w p v
 |d,.w o f q,p,v,hf,a4,hr=>by
  have:q=p:=by cases d<;>(simp[frz] at hf;exact hf)
  subst this
  cases hr with
  |w hr _=>
   cases ba:own with
   |false=>exact hr.imp λb hg=>hG2 b ⟨hg.1,(λh=>by rw[ba] at h;cases h),hg.2.2⟩
   |true=>
    have h1:=a4 ba
    have h2:(o || flat q)=true:=by cases d<;>exact h1
    cases o with
    |true=>exact hr.imp λb hg=>hG3 ba b hg
    |false=>exact vn (by grind) hr
 |0,.ptr ..,_,_,hf,_,_=>by trivial
 |0,.msl ..,_,_,hf,_,_=>by trivial
 |0,.agg _,_,_,hf,_,_=>by trivial
 |0,.tup _,_,_,hf,_,_=>by trivial
 |0,.fn _ _,_,_,hf,_,_=>by trivial
 |0,.mp _,_,_,hf,_,_=>by trivial
 |_+1,.mp _,_,_,hf,_,_=>by trivial
 |d+1,.ptr id ver off,p,v,hf,a4,hr=>by
  simp only[frz] at hf;split at hf
  .rename_i cells hg;split at hf
   .rename_i au
    cases hm:cells.mapM (frz h d) with
    |none=>grind
    |some r=>
     simp only[hm,du,bz] at hf;subst hf;obtain⟨h1,h2⟩:=jr hm;obtain⟨b,C,rfl,hd,hvC,ha⟩:=hr.o7;rw[<-au] at ha hvC;obtain⟨cs,e,hh,hC,hle,hbB,h8⟩:=hs.read (h9 id cells hg) hd ha hvC.2
     have:=Rep.ip (G:=G') (w:=w) (o:=off) (b:=b) (off:=0) (cells:=r) (λj=>cs.getD j undef) (λj hj=>by
      have:j<cs.size:=by omega
      rw[cY,m7 hh];simp[this]) (λ_=>hG1 id cells b C hg ha hbB) (λj q hq=>by
      obtain⟨x,hx,a'⟩:=h2 j q hq
      have hj:j<cs.size:=by have:=(dM.1 hx).1;omega
      exact rr hs hL h9 own hG1 hG2 hG3 d x q _ a' (λe=>by have:=a4 e;simp only[dQ,hg] at this;grind) (by rw[hL];exact h8 j x _ hx (by simp[hj])))
     rw[cY] at this;exact this
   .cases hf
  .cases hf
 |d+1,.msl id ver sz off k,p,v,hf,a4,hr=>by
  simp only[frz] at hf;split at hf
  .rename_i cells hg;split at hf
   .rename_i au
    cases hm:cells.mapM (frz h d) with
    |none=>grind
    |some r=>
     simp only[hm,du,bz,yP] at hf;subst hf;obtain⟨h1,h2⟩:=jr hm;obtain⟨a0,cap,rfl,hk,hd,_,h3,h4⟩:=hr.nH;rw[<-au] at h3 h4
     cases ha:m.addr id cells.length with
     |none=>
      obtain⟨rfl,h5⟩:=h3 ha;have cu:r=[]:=gF (by omega);subst cu
      have:k=0:=by omega
      subst this
      cases a0 with
      |none=>simpa using Rep.slnil
      |some a1=>simpa using Rep.slz (aE _)
     |some bc=>
      obtain⟨b,C⟩:=bc;obtain⟨h5,h6,h7⟩:=h4 b C ha;obtain⟨cs,e,hh,hC,hle,hbB,h8⟩:=hs.read (h9 id cells hg) hd ha (by omega)
      cases hL2:(r.drop off).take (k*sz) with
      |nil=>
       cases a0 with
       |none=>
        have aj:cap=0:=by
         simp_all
        subst aj
        have:k=0:=by omega
        subst this;exact .slnil
       |some a1=>exact .slz hk
      |cons y ys=>
       have aj:0<cap:=by
        rcases jL cap with h|h
        .have:k=0:=by omega
         rw[this] at hL2;simp at hL2
        .exact h
       rw[h5 aj,<-hL2]
       have a6:∀j,j<((r.drop off).take (k*sz)).length->off+j<cs.size/\j<k*sz:=by
        grind
       refine .sl (λj=>cs.getD (off+j) undef) hk (λj hj=>?_) (λ_=>hG1 id cells b C hg ha hbB) (λj q hq=>?_)
       .rw[m7 hh];simp_all
       .have hj:=(dM.1 hq).1;rw[jk,aB (a6 j hj).2,xW] at hq;obtain⟨x,hx,a'⟩:=h2 (off+j) q hq;exact rr hs hL h9 own hG1 hG2 hG3 d x q _ a' (λe=>by have:=a4 e;simp only[dQ,hg] at this;grind) (by rw[hL];exact h8 (off+j) x _ hx (by simp_all))
   .cases hf
  .cases hf
 |d+1,.agg cs,p,v,hf,a4,hr=>by
  simp only[frz] at hf
  cases hm:cs.mapM (frz h d) with
  |none=>grind
  |some r=>
   simp only[hm,du,bz] at hf;subst hf;obtain⟨h1,h2⟩:=jr hm
   cases hr with
   |agg hl h8=>exact .agg (by omega) (λj q u hq hu=>by
     obtain⟨x,hx,a'⟩:=h2 j q hq
     exact rr hs hL h9 own hG1 hG2 hG3 d x q u a' (λe=>by have:=a4 e;simp only[dQ] at this;grind) (h8 j x u hx hu))
 |d+1,.tup cs,p,v,hf,a4,hr=>by
  simp only[frz] at hf
  cases hm:cs.mapM (frz h d) with
  |none=>grind
  |some r=>
   simp only[hm,du,bz] at hf;subst hf;obtain⟨h1,h2⟩:=jr hm
   cases hr with
   |tup hl h8=>exact .tup (by omega) (λj q u hq hu=>by
     obtain⟨x,hx,a'⟩:=h2 j q hq
     exact rr hs hL h9 own hG1 hG2 hG3 d x q u a' (λe=>by have:=a4 e;simp only[dQ] at this;grind) (h8 j x u hx hu))
 |d+1,.fn f cs,p,v,hf,a4,hr=>by
  simp only[frz] at hf
  cases hm:cs.mapM (frz h d) with
  |none=>grind
  |some r=>
   simp only[hm,du,bz] at hf;subst hf;obtain⟨h1,h2⟩:=jr hm
   cases hr with
   |fn hl h8=>exact .fn (by omega) (λj q u hq hu=>by
     obtain⟨x,hx,a'⟩:=h2 j q hq
     exact rr hs hL h9 own hG1 hG2 hG3 d x q u a' (λe=>by have:=a4 e;simp only[dQ] at this;grind) (h8 j x u hx hu))
end
def Mm.cut(m:Mm)(n n':Nat):Mm:=⟨λid ver=>if n<=id then none else m.addr id ver,λid=>if n<=id then 0 else m.top id,λi=>i<n'⟩
omit [av] in
theorem aA.cut{B:Base}{L L':Nat->Prop}{m:Mm}{w:World}{x:AV}{v:Value}(h:aA B L m w x v){n n':Nat}(hn:∀i,m.dom i->i<n)(hl:x.lt n'=true)(hL:∀b,L' b->L b):aA B L' (m.cut n n') w x v:=by
 induction h with
 |w hr hf=>exact .w (hr.imp λb hg=>⟨λhb=>hg.1 (hL b hb),hg.2⟩) hf
 |ptr hd ht ha hC=>
  have:=hn _ hd;exact .ptr (by simpa[AV.lt,Mm.cut] using hl) (by simp only[Mm.cut];rw[ar (by omega)];exact ht) (by simp only[Mm.cut];rw[ar (by omega)];exact ha) hC
 |mp hd ht ha=>
  have:=hn _ hd;exact .mp (by simpa[AV.lt,Mm.cut] using hl) (by simp only[Mm.cut];rw[ar (by omega)];exact ht) (by simp only[Mm.cut];rw[ar (by omega)];exact ha)
 |msl hd ht hk h0 h1=>
  have:=hn _ hd;exact .msl (by simpa[AV.lt,Mm.cut] using hl) (by simp only[Mm.cut];rw[ar (by omega)];exact ht) hk (by simp only[Mm.cut];rw[ar (by omega)];exact h0) (by simp only[Mm.cut];rw[ar (by omega)];exact h1)
 |agg hlen _ ih=>exact .agg hlen (λj p v hp hv=>ih j p v hp hv (oD (by trivial) j p hp))
 |tup hlen _ ih=>exact .tup hlen (λj p v hp hv=>ih j p v hp hv (oD (by trivial) j p hp))
 |fn hlen _ ih=>exact .fn hlen (λj p v hp hv=>ih j p v hp hv (oD (by trivial) j p hp))
theorem Gv(D:List Nat){env env':Env}{h h':ak}{n n' nt:Nat}(h1:uD D h n n' env env')(h2:mQ D h n n' h')(hk:fk.k<=n'){B:Base}{w0:Ctx fk}{a:Act}{w:World}{m:Mm}(hs:Sim B w0 ⟨env,h,n,nt⟩ a w m):∃m',Sim B w0 ⟨env',h',n',nt⟩ a w m'/\∀x y v,n9 D h n n' x y->aA B (LB m h) m w x v->aA B (LB m' h') m' w y v:=by
 have bo:∀i,m.dom i->i<n:=λi hd=>(hs.dom i).1 hd
 have cp:∀{i:Nat}{c c':List AV},(i,c)∈h->(i,c')∈h->c=c':=λh1 h2=>hs.heap.key h1 h2
 have hold:∀i c c0,(i,c)∈h'->bf h i=some c0->c0.length=c.length:=λi c c0 hin hg=>by
  have:=oN h2 i c hin;simp only[iO,hg] at this;exact (wX this.2.2).1
 have hL:∀b,LB (m.cut n n') h' b->LB m h b:=by
  rintro b ⟨id,c,C,hin,_,ha⟩
  have he:=oN h2 id c hin
  cases hg:bf h id with
  |none=>simp only[iO,hg] at he;simp only[Mm.cut] at ha;rw[aB he.1] at ha;cases ha
  |some c0=>
   have hm:=fu hg;have hw:=hs.ids id c0 hm;simp only at hw;simp only[Mm.cut] at ha;rw[ar (by omega),<-hold id c c0 hin hg] at ha;exact⟨id,c0,C,hm,(hs.dom id).2 hw,ha⟩
 have hLD:∀id cs b C,bf (qO D h) id=some cs->m.addr id cs.length=some (b,C)->¬LB (m.cut n n') h' b:=by
  rintro id cs b C hg ha ⟨id2,c2,C2,az,_,ai⟩
  obtain⟨hm,hD⟩:=wW hg;have he:=oN h2 id2 c2 az
  cases b7:bf h id2 with
  |none=>simp only[iO,b7] at he;simp only[Mm.cut] at ai;rw[aB he.1] at ai;cases ai
  |some c0=>
   have bp:=fu b7;have al:=hs.ids id2 c0 bp;have hw:=hs.ids id cs hm;simp only at hw al;simp only[Mm.cut] at ai;rw[ar (by omega),<-hold id2 c2 c0 az b7] at ai;simp only[iO,b7] at he
   have bi:id≠id2:=λe=>he.2.1 (e▸hD)
   have dL:=hs.heap.inj;rw[sN] at dL;obtain⟨p,hp,ep⟩:=lN hm;obtain⟨q,hq,eq⟩:=lN bp
   rcases sT p q with b'|b'|b'
   .have:=(dL p q hp hq b').2 b C C2;rw[ep,eq] at this;exact this ((hs.dom _).2 hw) ((hs.dom _).2 al) ha ai
   .simp_all
   .have:=(dL q p hq hp b').2 b C2 C;rw[ep,eq] at this;exact this ((hs.dom _).2 al) ((hs.dom _).2 hw) ai ha
 have h8:∀x y v,n9 D h n n' x y->aA B (LB m h) m w x v->aA B (LB (m.cut n n') h') (m.cut n n') w y v:=by
  intro x y v hc hr
  rcases hc with ⟨g1,g2⟩|g|g
  .exact (F8 g1 hr).cut bo g2 hL
  .unfold AvF at g;split at g
   .rename_i own p
    refine .w (rr hs.heap rfl (λid cs e=>(wW e).1) own (λid cs b C hg ha hb=>⟨hLD id cs b C hg ha,λ_=>hb,λh=>by omega⟩)
     (λb hg=>⟨λhl=>hg.1 (hL b hl),hg.2⟩) (λho b hg=>⟨λhl=>hg.1 (hL b hl),λ_=>hg.2.1 rfl,hg.2.2⟩) 6 x p v g.1 g.2 hr) nofun
   trivial
  .unfold xJ at g;split at g
   .rename_i o id sz;obtain⟨a0,cap,hv,_,hf,_,_⟩:=hr.nG;rw[hv];have hc:=hf rfl;subst hc;exact .msl g.2 (by simp only[Mm.cut];rw[aB g.1];exact aE _) (aE _) (λ_=>⟨rfl,rfl⟩) (λb C e=>by simp only[Mm.cut] at e;rw[aB g.1] at e;cases e)
   trivial
 refine⟨m.cut n n',⟨hs.base,hs.below,hs.defers,hs.size,λt=>?_,⟨λid c hin hd=>?_,?_⟩,λi=>Iff.rfl,λid c hin=>?_,hk,λp hp=>⟨(hs.fr.2.1 p hp).1,(hs.fr.2.1 p hp).2.cut bo (AV.rO hk (hs.fr.2.1 p hp).1) hL⟩,λq hq=>let ⟨o1,o2,o3,o4⟩:=hs.fr.2.2 q hq;⟨o1,o2,λh=>o3 (hL _ h),o4⟩⟩,h8⟩
 .show aA _ _ _ _ (get env' t) _
  rcases Gs h1 t with g1|g1
  .exact h8 _ _ _ g1 (hs.env t)
  .rw[g1];exact .w (.undef _) nofun
 .have he:=oN h2 id c hin
  cases hg:bf h id with
  |none=>
   simp only[iO,hg] at he;obtain⟨e1,_,rfl⟩:=he;exact⟨by simp only[Mm.cut];rw[aB e1];rfl,.inl ⟨by simp only[Mm.cut];rw[aB e1],rfl⟩⟩
  |some c0=>
   have hm:=fu hg;have hw:=hs.ids id c0 hm;simp only at hw;have hlen:=hold id c c0 hin hg;simp only[iO,hg] at he;obtain⟨ht,cm⟩:=hs.heap.entry id c0 hm ((hs.dom id).2 hw);refine⟨by simp only[Mm.cut];rw[ar (by omega),ht,hlen],?_⟩
   rcases cm with ⟨g1,g2⟩|⟨b,C,cs,e,e1,e2,e3,e4,e5,e6⟩|⟨b,es,clk,e1,e2,e3,e4,e5⟩
   .refine .inl ⟨by simp only[Mm.cut];rw[ar (by omega),<-hlen];exact g1,?_⟩
    grind
   .refine .inr (.inl ⟨b,C,cs,e,by simp only[Mm.cut];rw[ar (by omega),<-hlen];exact e1,e2,e3,by omega,e5,λj p v hp hv=>?_⟩);obtain⟨x,hx,d6⟩:=(wX he.2.2).2 j p hp
    grind
   .exact .inr (.inr ⟨b,es,clk,by simp only[Mm.cut];rw[ar (by omega),<-hlen];exact e1,(Gu he.2.2 e2).1,e3,e4,λl hl=>e5 l ((Gu he.2.2 e2).2 l hl)⟩)
 .have hk:=Gt h2;refine sJ ?_ hk;intro x y hx hy bi;refine⟨bi,λb C C' _ _ ax ay=>?_⟩;have ex:=oN h2 x.1 x.2 hx;have ey:=oN h2 y.1 y.2 hy
  cases bb:bf h x.1 with
  |none=>simp only[iO,bb] at ex;simp only[Mm.cut] at ax;rw[aB ex.1] at ax;cases ax
  |some cx=>
   cases bd:bf h y.1 with
   |none=>simp only[iO,bd] at ey;simp only[Mm.cut] at ay;rw[aB ey.1] at ay;cases ay
   |some cy=>
    have mx:=fu bb;have my:=fu bd;have ix:=hs.ids _ _ mx;have iy:=hs.ids _ _ my;simp only at ix iy;simp only[Mm.cut] at ax ay;rw[ar (by omega),<-hold x.1 x.2 cx hx bb] at ax;rw[ar (by omega),<-hold y.1 y.2 cy hy bd] at ay;have:=hs.heap.inj;rw[sN] at this;obtain⟨p,hp,ep⟩:=lN mx;obtain⟨q,hq,eq⟩:=lN my;have dx:m.dom x.1:=(hs.dom _).2 ix;have dy:m.dom y.1:=(hs.dom _).2 iy
    grind
 .have he:=oN h2 id c hin;show id<n'
  cases hg:bf h id with
  |none=>simp only[iO,hg] at he;exact he.2.1
  |some c0=>simp only[iO,hg] at he;exact he.1
theorem aO(D:List Nat){env env':Env}{h h':ak}{n n' nt:Nat}(h1:uD D h n n' env env')(h2:mQ D h n n' h')(hk:fk.k<=n':=by first|exact aK _|omega|(simp;done)):Lek fk ⟨env,h,n,nt⟩ ⟨env',h',n',nt⟩:=by
 intro B w0 a w m hs;obtain⟨m',d5,_⟩:=Gv D h1 h2 hk hs
 grind
attribute [simp] AvF xJ n9 gZ uD iO mQ qO
section
omit [av]
@[simp]theorem N6(h:ak)(d:Nat)(o f:Bool)(p:PV):dQ h d (.w o f p)=(o || flat p):=by cases d<;>rfl
@[simp high] theorem wY(h:ak)(d:Nat)(o f:Bool):∀l:List PV,(l.map (AV.w o f)).mapM (frz h d)=some l
 |[]=>rfl
 |p::r=>by simp[xY,wY h d o f r]
@[simp high] theorem Yd(h:ak)(d:Nat)(f:Bool):∀l:List PV,(l.map (AV.w true f)).all (dQ h d)=true
 |[]=>rfl
 |p::r=>by simp
@[simp high] theorem tU(h:ak)(d:Nat)(o f:Bool):∀l:List PV,fA l=true->(l.map (AV.w o f)).all (dQ h d)=true
 |[],_=>rfl
 |p::r,hl=>by
  simp only[fA,bU] at hl;simp only[mV,List.all_cons,N6,hl.1,iI,eo];exact tU h d o f r hl.2
end
def sr:PV->Bool
 |.undef=>false
 |.tup _=>false
 |.agg _=>false
 |_=>true
omit [av] in
@[simp]theorem tV(o f:Bool):∀l:List PV,l.all sr=true->dj (l.map (AV.w o f))=true
 |[],_=>rfl
 |p::r,hl=>by
  simp only[List.all_cons,bU] at hl;simp only[mV,dj,tV o f r hl.2,iG]
  cases p<;>first|rfl|(simp[sr] at hl)
omit [av] in
@[simp]theorem qv(n:Nat)(o f:Bool):∀l:List PV,AV.lt.ltL n (l.map (AV.w o f))=true
 |[]=>rfl
 |p::r=>by simp[AV.lt.ltL,AV.lt,qv n o f r]
theorem df{P:Program}{K:Exit->St->Prop}{c:Code}{id:Nat}{env:Env}{h:ak}{n nt:Nat}{α β:Type}(n':Nat)(J:α->Prop)(ks:List Nat)(mods:α->Env)(b9:List Nat)(hm:α->ak)(μ:α->Nat)(F:β->Prop)(fks:List Nat)(fmods:β->Env)(fhks:List Nat)(fhm:β->ak)(x0:α)(hJ:J x0)(h0:Lek fk ⟨env,h,n,nt⟩ ⟨mods x0++fN env ks,hm x0++gX h b9,n',nt⟩)(round:∀x,J x->bm fk P c ⟨mods x++fN env ks,hm x++gX h b9,n',nt⟩ (j3 fk J (λx=>⟨mods x++fN env ks,hm x++gX h b9,n',nt⟩) μ x (nZ fk id F (λy=>⟨fmods y++fN env fks,fhm y++gX h fhks,n',nt⟩) K)))(after:∀y,F y->K .normal ⟨fmods y++fN env fks,fhm y++gX h fhks,n',nt⟩):bm fk P (.block id (.loop c)) ⟨env,h,n,nt⟩ K:=by
 refine fY (Gg (zo J (λx=>⟨mods x++fN env ks,hm x++gX h b9,n',nt⟩) μ x0 hJ h0 round) (λe s hk=>?_))
 cases e<;>first
  |exact hk.elim
  |exact⟨s,Lek.refl s,hk⟩
  |(simp only[nZ] at hk
    simp only[iB];split at hk
    .rename_i hw;obtain⟨y,hy,hle⟩:=hk
     grind
    .rename_i hw
     exact⟨s,Lek.refl s,by rw[ar hw];exact hk⟩)
section
omit [av]
@[simp]theorem Ye(z:List AV):iu 1 z=z:=by simp[iu]
@[simp]theorem Yf(z:List AV):iu 2 z=z++z:=by simp[iu,CY]
@[simp]theorem N7{D:List Nat}{h:ak}{n n':Nat}{x y:List AV}:∀a:List AV,gZ D h n n' (a++x) (a++y)=(gZ D h n n' a a/\gZ D h n n' x y)
 |[]=>propext ⟨λh=>⟨trivial,h⟩,λh=>h.2⟩
 |z::a=>by
  simp only[pP,gZ,N7 a,and_assoc]
end
end Go.Fi
namespace Go.Fi
open Go Go.RowKit Go.ChangeShapes Go.WideShapes
variable[av]
def Match(w:World)(ps:List PV)(cs:List Value):Prop:=ps.length=cs.length/\∀(j:Nat)(p:PV)(v:Value),ps[j]?=some p->cs[j]?=some v->Rep (λ_=>True) w p v
omit [av] in
theorem Match.append{w:World}{a b:List PV}{x y:List Value}(h1:Match w a x)(h2:Match w b y):Match w (a++b) (x++y):=by
 refine⟨by rw[jO,jO,h1.1,h2.1],λj p v hp hv=>?_⟩;by_cases hj:j<a.length
 .rw[om hj] at hp;rw[om (by rw[<-h1.1];exact hj)] at hv;exact h1.2 j p v hp hv
 .have hj:a.length<=j:=by omega
  rw[sL hj] at hp;rw[sL (by rw[<-h1.1];exact hj),<-h1.1] at hv;exact h2.2 _ p v hp hv
omit [av] in
theorem Match.one{w:World}{p:PV}{v:Value}(h:Rep (λ_=>True) w p v):Match w [p] [v]:=by
 refine⟨rfl,λj q u hq hu=>?_⟩
 grind
def Reads(P:Program)(t:TypeId){α:Type}(c:α->List PV):Prop:=
 ∀(H:Type)(enc:TypeId×Value->H)(w:World)(held:Bool)(fuel:Nat)(cs:List Value)(x:DataW H×List MemPlace),DataW.trod enc P w 0 (λ_=>true) held fuel t cs=some x->∃y:α,Match w (c y) cs
def xT(P:Program)(fs:List Field)(off:Nat){α:Type}(c:α->List PV)(s:Nat):Prop:=
 ∀(H:Type)(enc:TypeId×Value->H)(w:World)(held:Bool)(n:Nat)(cs:List Value),(∀f∈fs,∃x:DataW H×List MemPlace,DataW.trod enc P w 0 (λ_=>true) held n f.type ((cs.drop f.offset).take (P.cellsOf f.type))=some x) ->
  ∃y:α,Match w (c y) ((cs.drop off).take s)
section
variable{P:Program}{t e:TypeId}
section
omit [av]
theorem Pr{k:IntKind}(ht:P.underlying t=some (.int k)):Reads P t (λn:Int=>[.int k n]):=by
 intro H enc w held fuel cs x h;obtain⟨n,rfl,_,_⟩:=DataW.trod_int ht h;exact⟨n,Match.one (.int _ _)⟩
theorem Ps(ht:P.underlying t=some .string):Reads P t (λs:ByteArray=>[.str s]):=by
 intro H enc w held fuel cs x h;obtain⟨n,rfl,_,_⟩:=DataW.trod_string ht h;exact⟨n,Match.one (.str _)⟩
theorem Pt(ht:P.underlying t=some .bool):Reads P t (λb:Bool=>[.bool b]):=by
 intro H enc w held fuel cs x h;obtain⟨n,rfl,_⟩:=DataW.trod_bool ht h;exact⟨n,Match.one (.bool _)⟩
theorem xk{α β:Type}{c:α->List PV}{c':β->List PV}(f:α->β)(hc:∀y,c y=c' (f y))(h:Reads P t c):Reads P t c':=by
 intro H enc w held fuel cs x hx;obtain⟨y,hy⟩:=h H enc w held fuel cs x hx
 grind
theorem xl{off:Nat}:xT P [] off (λ_:Unit=>[]) 0:=by
 intro H enc w held n cs _;exact⟨(),by simp[Match]⟩
theorem jz{f:Field}{fs:List Field}{off s S:Nat}{α β:Type}{c:α->List PV}{c':β->List PV}(ho:f.offset=off)(hs:P.cellsOf f.type=s)(h:Reads P f.type c)(hr:xT P fs (off+s) c' S):xT P (f::fs) off (λy:α×β=>c y.1++c' y.2) (s+S):=by
 intro H enc w held n cs a7;obtain⟨x,hx⟩:=a7 f fO;rw[ho,hs] at hx;obtain⟨y,hy⟩:=h H enc w held n _ x hx;obtain⟨z,hz⟩:=hr H enc w held n cs (λg hg=>a7 g (dm _ hg));refine⟨(y,z),?_⟩;rw[List.take_add,List.drop_drop];exact hy.append hz
theorem xm{fs:Array Field}{s:Nat}{α:Type}{c:α->List PV}(ht:P.underlying t=some (.struct fs))(hs:P.cellsOf t=s)(h:xT P fs.toList 0 c s):Reads P t c:=by
 intro H enc w held fuel cs x hx;obtain⟨xs,n,_,_,hl,c4,hf⟩:=DataW.trod_struct ht hx
 obtain⟨y,hy⟩:=h H enc w held n cs (λf hin=>by
  obtain⟨i,hi⟩:=List.mem_iff_getElem?.1 hin;rw[iQ] at hi
  have a6:i<xs.length:=by rw[c4];exact (bD.1 hi).1
  exact⟨xs[i],by rw[hf i f hi];exact da a6⟩)
 grind
theorem wP{α:Type}{c:α->List PV}{s:Nat}(hl:∀x,(c x).length=s)(hs:0<s)(l:List α)(j:Nat)(hj:j<l.length*s):∃x,l[j / s]?=some x/\(l.flatMap c)[j]?=(c x)[j%s]?:=by
 induction l generalizing j with
 |nil=>simp at hj
 |cons a l ih=>
  simp only[il];by_cases h:j<s
  .refine⟨a,by rw[Nat.div_eq_of_lt h];rfl,?_⟩;rw[om (by rw[hl];exact h),Nat.mod_eq_of_lt h]
  .have h:s<=j:=by omega
   rw[eI,fe] at hj;obtain⟨x,h1,h2⟩:=ih (j-s) (by omega);refine⟨x,?_,?_⟩
   .rw[Nat.div_eq_sub_div hs h,uK];exact h1
   .rw[sL (by rw[hl];exact h),hl,h2,Nat.mod_eq_sub_mod h]
theorem ua{s:Nat}{α:Type}{c:α->List PV}(ht:P.underlying t=some (.slice e))(hs:P.cellsOf e=s)(a8:0<s)(hl:∀x,(c x).length=s)(h:Reads P e c):Reads P t (λl:List α=>[.sl l.length (l.flatMap c)]):=by
 intro H enc w held fuel cs x hx
 rcases DataW.trod_slice ht hx with h0|⟨a,len,cap,elems,rest,n,_,rfl,_,_,hle,_,hlen,cj,_,_⟩
 .rw[h0.1];exact⟨[],Match.one .slnil⟩
 .have each:∀i,i<len->∃y:α,Match w (c y) ((List.range s).map λj=>(w.cell? ((a.add (i*s)).add j)).getD undef)/\∀j,j<s->∃v,w.cell? ((a.add (i*s)).add j)=some v:=by
   intro i hi;have h1:=cj i hi;rw[hs,da (by omega)] at h1;obtain⟨cs',c8,hy⟩:=Option.bind_eq_some_iff.1 h1;obtain⟨y,hy⟩:=h H enc w held n cs' _ hy;obtain⟨_,c7,h8⟩:=World.cells?_some c8;refine⟨y,?_,λj hj=>⟨cs'[j]'(by omega),by rw[h8 j (by omega)];simp⟩⟩
   have e:(List.range s).map (λj=>(w.cell? ((a.add (i*s)).add j)).getD undef)=cs':=by
    apply Jc
    .simp[c7]
    simp_all
   rw[e];exact hy
  have a7:∃l:List α,l.length=len/\∀i y,l[i]?=some y->Match w (c y) ((List.range s).map λj=>(w.cell? ((a.add (i*s)).add j)).getD undef):=by
   have:∀m,m<=len->∃l:List α,l.length=m/\∀i y,l[i]?=some y->Match w (c y) ((List.range s).map λj=>(w.cell? ((a.add (i*s)).add j)).getD undef):=by
    intro m
    induction m with
    |zero=>intro _;exact⟨[],rfl,λi y hy=>by simp at hy⟩
    |succ m ih=>
     intro hm;obtain⟨l,ao,bg⟩:=ih (by omega);obtain⟨y,hy,_⟩:=each m (by omega);refine⟨l++[y],by simp[ao],λi z hz=>?_⟩;by_cases hi:i<m
     .rw[om (by omega)] at hz;exact bg i z hz
     .have:i=m:=by
       have:=(dM.1 hz).1;simp[ao] at this;omega
      subst this;rw[sL (by omega),ao] at hz;simp at hz;subst hz;exact hy
   simp_all
  obtain⟨l,ao,bg⟩:=a7;refine⟨l,Match.one ?_⟩;rw[ao]
  cases c6:l.flatMap c with
  |nil=>exact .slz hle
  |cons p ps=>
   rw[<-c6]
   have ae:(l.flatMap c).length=len*s:=by rw[tN c s hl,ao]
   have b4:0<len:=by
    grind
   obtain⟨_,_,hex⟩:=each 0 b4;obtain⟨v0,c3⟩:=hex 0 a8
   have af:a=⟨a.block,a.off,none⟩:=by
    obtain⟨b,o,sp⟩:=a
    cases sp with
    |none=>rfl
    |some sp=>
     simp only[World.cell?,Addr.add] at c3
     split at c3<;>simp_all
   have aw:∀i j,(a.add (i*s)).add j=⟨a.block,a.off+(i*s+j),none⟩:=by
    intro i j;rw[af,Addr.jc,Addr.jc]
    grind
   rw[af]
   have bl:∀j,j / s*s+j%s=j:=λj=>by rw[Nat.mul_comm];exact Nat.div_add_mod j s
   have co:∀j,j<len*s->j / s<len:=λj hj=>Nat.div_lt_of_lt_mul (by rw[Nat.mul_comm];exact hj)
   refine .sl (λj=>(w.cell? ⟨a.block,a.off+j,none⟩).getD undef) hle (λj hj=>?_) (λ_=>trivial) (λj q hq=>?_)
   .rw[ae] at hj;obtain⟨_,_,hex⟩:=each (j / s) (co j hj);obtain⟨v,hv⟩:=hex (j%s) (xU _ a8);rw[aw,bl] at hv
    grind
   .have hj:j<len*s:=by rw[<-ae];grind
    obtain⟨y,d3,d4⟩:=wP hl a8 l j (by rw[ao];exact hj);rw[d4] at hq
    have hm:=(bg (j / s) y d3).2 (j%s) q ((w.cell? ((a.add (j / s*s)).add (j%s))).getD undef) hq (by
     rw[gD,sI (xU _ a8)];rfl)
    rw[aw,bl] at hm;exact hm
end
end
section
variable{H:Type}{enc:TypeId×Value->H}{P:Program}
section
omit [av]
theorem Pu{f:Func}{s:ChangeSpec}{apart fresh handsOn again:Bool}{W W':World}{args:Array Value}{v:Value}{ds gs:List (DataW H)}{before pa pv:List MemPlace}(hW:DataW.Whole enc P f.params.toList s.vars apart W args.toList ds gs before)(b6:∀(b:Nat)(sp:Nat->Bool)(hd:Bool),DataW.TrodAll enc P W' b sp hd f.resultTypes.toList (v.resultList f.resultTypes.size) (s.fn H (ds++gs)).results [])(aa:∀sp:Nat->Bool,(∀p∈before,sp p.block=true)->DataW.TrodAll enc P W' 0 sp true f.params.toList args.toList (s.fn H (ds++gs)).args pa)(ag:∀sp:Nat->Bool,(∀p∈before,sp p.block=true)->DataW.TrodVars enc P W' sp s.vars (s.fn H (ds++gs)).vars pv)(bj:before=pa++pv)(hb:Bel W.heap.size W W')(cq:∀(j:Nat)(t:TypeId)(r:Value),f.resultTypes[j]?=some t->(v.resultList f.resultTypes.size)[j]?=some r->Value.okWide P W' .any 0 t r):s.post enc P f apart fresh handsOn again W args v W':=by
 have a6:∀p∈before,p.block<W.heap.size:=λp hp=>hW.lt p hp
 have hold:∀p∈before,(λb=>decide (b<W.heap.size)) p.block=true:=λp hp=>by simp_all
 refine⟨ds,gs,before,[],pa,pv,hW,b6 _ _ _,aa _ hold,ag _ hold,World.keptBut_mono (λp hp=>⟨hp,?_⟩) (hb.frame (·∈before)),λ_=>?_⟩
 .rw[bj,iR] at hp
  grind
 .obtain⟨_,_,_,_,_,hz,hn⟩:=hW;refine⟨cq,_,_,([]++pa)++pv,⟨[]++pa,pv,trodAll_append (aa _ (λ_ _=>rfl)) (b6 _ _ _),ag _ (λ_ _=>rfl),rfl,?_,?_⟩,?_⟩
  .intro b off hp
   have hin:MemPlace.cell b off∈before:=by rw[bj];simpa using hp
   rw[hb.frozen (a6 _ hin)];exact hz b off hin
  .intro ha;have:=hn ha;rw[bj] at this;simpa using this
  simp_all
theorem Hj(hl:laidOutB P=true){W W':World}(hb:Bel W.heap.size W W'){sp:Nat->Bool}:∀{ts:List TypeId}{vs:List Value}{ds:List (DataW H)}{ps:List MemPlace},(∀t∈ts,P.readableRec t=true/\t<P.types.size)->DataW.TrodAll enc P W 0 (λ_=>true) true ts vs ds ps->(∀x∈ps,x.block<W.heap.size)->(∀x∈ps,sp x.block=true)->DataW.TrodAll enc P W' 0 sp true ts vs ds ps
 |[],[],[],_,_,h,_,_=>h
 |t::ts,v::vs,d::ds,ps,hr,h,a6,bh=>by
  obtain⟨p,q,h1,h2,rfl⟩:=h;refine⟨p,q,?_,Hj hl hb (λt ht=>hr t (dm _ ht)) h2 (λx hx=>a6 x (List.mem_append_right _ hx)) (λx hx=>bh x (List.mem_append_right _ hx)),rfl⟩;obtain⟨r1,r2⟩:=hr t fO;exact WideElems.Trod_stays hl r1 r2 h1 (λx hx=>hb.same (a6 x (List.mem_append_left _ hx))) (λx hx=>bh x (List.mem_append_left _ hx))
 |[],[],_::_,_,_,h,_,_=>h.elim
 |[],_::_,_,_,_,h,_,_=>h.elim
 |_::_,[],_,_,_,h,_,_=>h.elim
 |_::_,_::_,[],_,_,h,_,_=>h.elim
theorem pK{f:Func}{s:ChangeSpec}{apart fresh handsOn again:Bool}{W W':World}{args:Array Value}{ds gs:List (DataW H)}{before:List MemPlace}{tb:TypeId}(hl:laidOutB P=true)(hW:DataW.Whole enc P f.params.toList s.vars apart W args.toList ds gs before)(hv:s.vars=[])(a5:s.fn H (ds++gs) = { results:=[.lit (.bool true)],args:=ds })(hr:f.resultTypes=#[tb])(bv:P.underlying tb=some .bool)(aq:(f.params.toList.all λt=>P.readableRec t&&decide (t<P.types.size))=true)(hb:Bel W.heap.size W W'):s.post enc P f apart fresh handsOn again W args (.bool true) W':=by
 have b5:∀t∈f.params.toList,P.readableRec t=true/\t<P.types.size:=λt ht=>by
  have:=eh.1 aq t ht;simp_all
 have a6:∀p∈before,p.block<W.heap.size:=λp hp=>hW.lt p hp
 have c5:=hW;obtain⟨p,q,hA,hV,rfl,_,_⟩:=hW;rw[hv] at hV
 have hq:q=[]/\gs=[]:=by
  cases gs with
  |nil=>trivial
  |cons _ _=>exact hV.elim
 obtain⟨rfl,rfl⟩:=hq;refine Pu (pa:=p) (pv:=[]) c5 (λb sp hd=>?_) (λsp bh=>?_) (λsp _=>?_) rfl hb ?_
 .rw[a5,hr];exact trodAll_mk1 (shut_bool bv true)
 .rw[a5];exact Hj hl hb b5 hA (λx hx=>a6 x (by grind)) (λx hx=>bh x (by grind))
 .rw[a5,hv];rfl
 .rw[hr];intro j t r hj hv
  match j,hj,hv with
  |0,hj,hv=>
   simp[Value.resultList] at hj hv;subst hj;subst hv;simp only[Value.okWide,bv,Cell.okWide,Cell.ok]
end
end
section
variable{P:Program}{t:TypeId}{W:World}
omit [av] in
theorem og{α:Type}{c:α->List PV}(h:Reads P t c){fs:Array Field}(ht:P.underlying t=some (.struct fs)){r:Reach}{base:Nat}{v:Value}(a9:Value.okWide P W r base t v){H:Type}{enc:TypeId×Value->H}{held:Bool}{d:DataW H}{ps:List MemPlace}(hd:DataW.Trod enc P W 0 (λ_=>true) held t v d ps):∃y:α,Rep (λ_=>True) W (.agg (c y)) v:=by
 simp only[Value.okWide,ht] at a9;obtain⟨cs,rfl,_,_⟩:=a9;obtain⟨fuel,hd⟩:=hd;obtain⟨y,hy⟩:=h H enc W held fuel _ _ hd;simp only[Value.cells] at hy;exact⟨y,.agg (by simpa using hy.1) (λj p u hp hu=>hy.2 j p u hp (by rw[iQ];exact hu))⟩
end
section
variable{P:Program}{t e:TypeId}{W:World}
section
omit [av]
theorem Pv{s:Nat}{α:Type}{c:α->List PV}(ht:P.underlying t=some (.array 2 e))(hs:P.cellsOf e=s)(cv:P.cellsOf t=s+s)(h:Reads P e c):Reads P t (λy:α×α=>c y.1++c y.2):=by
 intro H enc w held fuel cs x hx;obtain⟨xs,n,_,_,hl,c4,hf⟩:=DataW.trod_array ht hx;have f0:=hf 0 (by omega);have f1:=hf 1 (by omega);rw[da (by omega),hs] at f0 f1;obtain⟨y,hy⟩:=h H enc w held n _ _ f0;obtain⟨z,hz⟩:=h H enc w held n _ _ f1;refine⟨(y,z),?_⟩;rw[IT,List.drop_zero] at hy;rw[Nat.one_mul] at hz
 have e:cs=cs.take s++(cs.drop s).take s:=by
  rw[Jd (l:=cs.drop s) (by rw[uL,hl,cv];omega),yg]
 rw[e];exact hy.append hz
theorem Pw{α:Type}{p:α->PV}(h:Reads P t (λy=>[p y])){v:Value}(hv:v.cells=#[v]){H:Type}{enc:TypeId×Value->H}{held:Bool}{d:DataW H}{ps:List MemPlace}(hd:DataW.Trod enc P W 0 (λ_=>true) held t v d ps):∃y:α,Rep (λ_=>True) W (p y) v:=by
 obtain⟨fuel,hd⟩:=hd;obtain⟨y,hy⟩:=h H enc W held fuel _ _ hd;rw[hv] at hy;exact⟨y,hy.2 0 _ v rfl rfl⟩
theorem CS{α:Type}{p:α->PV}(h:Reads P t (λy=>[p y]))(ht:P.underlying t=some (.slice e)){r:Reach}{base:Nat}{v:Value}(a9:Value.okWide P W r base t v){H:Type}{enc:TypeId×Value->H}{held:Bool}{d:DataW H}{ps:List MemPlace}(hd:DataW.Trod enc P W 0 (λ_=>true) held t v d ps):∃y:α,Rep (λ_=>True) W (p y) v:=by
 obtain⟨a,len,cap,rfl⟩:=okWide_slice ht a9;exact Pw h rfl hd
end
end
end Go.Fi
namespace Go.Fi
open Go Go.RowKit
variable[av]
variable{fk:Fk}
theorem Og{P:Program}{K:Exit->St->Prop}{rid d1 d2 t ty1 ty2 e:Nat}{p1 p2:String}{a1 a2:Array Edge}{st tt:TypeId}{env:Env}{h:ak}{n nt:Nat}{ow fl:Bool}{k:Nat}{cells:List PV}(hu:P.underlying st=some (.slice e))(hg:get env t=.w ow fl (.sl k cells))(c9:d1<nt)(cf:d2<nt)(hk:∀b:Bool,(b=true->k=0/\cells=[])->K .normal ⟨(d2,.w false false (.bool b))::(d1,.w ow fl (.sl k cells))::env,h,n,nt⟩):bm fk P (.region rid #[⟨some d1,.move (.tmp t),ty1,p1,a1,none⟩,⟨some d2,.binOp .eql st (.tmp d1) (.const (.slice none 0 0)) tt,ty2,p2,a2,none⟩] false) ⟨env,h,n,nt⟩ K:=by
 intro B w0 a w m hs;refine qX ?_;simp only[gO,Region.wanted,aX];intro w e1x;replace hs:=hs.move e1x;refine jo (λc e=>by cases e) (vE w0 (⟨some d1,.move (.tmp t),ty1,p1,a1,none⟩:Oper) (K:=λv h' n'=>v=get env t/\h'=h/\n'=n) (by simp) hs c9 _ _ ?_)
 rintro v h' n' a w m ⟨rfl,rfl,rfl⟩ hs
 intro w e1x;replace hs:=hs.move e1x;refine jo (λc e=>by cases e) ?_;rw[hg] at hs
 have hx:aA B (LB m h') m w (.w ow fl (.sl k cells)) (a.eval (.tmp d1)):=by
  have:=hs.env d1;rw[show get (St.env ⟨put env (some d1) (.w ow fl (.sl k cells)),h',n',nt⟩) d1=.w ow fl (.sl k cells) from by simp] at this;exact this
 obtain⟨a0,cap,hv,_,_,bq,bi⟩:=hx.nG
 have bk:(execOp a.eval ⟨some d2,.binOp .eql st (.tmp d1) (.const (.slice none 0 0)) tt,ty2,p2,a2,none⟩).run P w=.ok (.value (.bool a0.isNone)) w:=by
  have cw:a.eval (.tmp d1)=.slice a0 k cap:=hv;have hc:a.eval (.const (.slice none 0 0))=.slice none 0 0:=rfl
  have cg:∀d,(Op.equalIn (d+1) st (.slice a0 k cap) (.slice none 0 0)).run P w=.ok a0.isNone w:=λd=>by
   rw[Op.equalIn,Sem.run_bind,run_underlying hu];simp only[Result.andThen_ok]
   cases a0<;>rfl
  have he:(Op.equal st (.slice a0 k cap) (.slice none 0 0)).run P w=.ok a0.isNone w:=cg 9999;have hg:(eqGuard .eql st (.tmp d1) (.const (.slice none 0 0)) (.slice a0 k cap) (.slice none 0 0)).run P w=.ok () w:=rfl;simp[execOp,cw,hc,hg,binOp,he]
 unfold Oper.wpt;rw[bk,Oper.oW];refine⟨_,m,hk a0.isNone (λhb=>?_),hs.base,hs.below,by rw[jQ];exact hs.defers,by rw[jP];exact hs.size,?_,hs.heap,hs.dom,hs.ids,hs.fr⟩
 .have:a0=none:=by cases a0 with
   |none=>rfl
   |some x=>cases hb
  simp_all
 .exact na _ a (some d2) _ _ (by show d2<a.tmps.size;rw[hs.size];exact cf) (gJ _) hs.env
def pS(M:List (ByteArray×Int)):List (PV×PV):=M.map λp=>(.str p.1,.int .i64 p.2)
def mS(M:List (ByteArray×Int)):List AV:=[fR (pS M)]
section
omit [av]
theorem Pj{D:List Nat}{h:ak}{n n':Nat}(o f:Bool)(p:PV):n9 D h n n' (.w o f p) (.w false false p):=.inl ⟨⟨nofun,nofun,.inl rfl⟩,rfl⟩
@[simp]theorem ZE(M:List (ByteArray×Int)):(mS M).length=1:=rfl
@[simp]theorem zbt(M:List (ByteArray×Int))(n:Nat):AV.lt.ltL n (mS M)=true:=rfl
end
def xR(c:Bool)(r:Option Int):AV:=
 match c,r with
 |true,some v=>.w false false (.tup [.int .i64 v,.bool true])
 |true,none=>.w false false (.tup [.int .i64 0,.bool false])
 |false,some v=>.w false false (.int .i64 v)
 |false,none=>.w false false (.int .i64 0)
section
omit [av]
@[simp]theorem ZF(v:Int):xR true (some v)=.w false false (.tup [.int .i64 v,.bool true]):=rfl
@[simp]theorem ZG:xR true none=.w false false (.tup [.int .i64 0,.bool false]):=rfl
@[simp]theorem ZH(h:ak)(id:Nat):mpC h (.mp id)=bf h id:=rfl
end
def sD(h:ak)(id:Nat)(cells:Option (List AV))(r:Option (TypeDesc×PV))(k v:AV):Option (Prop×ak):=
 match cells.bind dZ,k,v,r with
 |some l,.w _ _ kp,.w _ _ vp,some (d,_)=>some ((okM d kp l=true/\isLit vp=true),bP h id [fR (iv l kp vp)])
 |_,_,_,_=>none
def CQ(h:ak)(r:Option (TypeDesc×PV))(m k v:AV):Option (Prop×ak):=
 match m with
 |.mp id=>sD h id (bf h id) r k v
 |_=>none
omit [av] in
@[simp]theorem ZI(h:ak)(r:Option (TypeDesc×PV))(id:Nat)(k v:AV):CQ h r (.mp id) k v=sD h id (bf h id) r k v:=rfl
@[simp ↓]theorem ZJ{P:Program}{env:Env}{h:ak}{n:Nat}(t:TypeId)(x k:Operand)(c:Bool)(K:AV->ak->Nat->Prop):bH P env h n (.lookup t x k c) K=aW (aOp P h n (ev env) (.lookup t x k c)) (eK h n K) .it:=rfl
@[simp ↓]theorem ZK{P:Program}{env:Env}{h:ak}{n:Nat}(t:TypeId)(x k:Operand)(c:Bool)(K:AV->List (List AV)->Prop):bG P env h n (.lookup t x k c) K=aW (aOp P h n (ev env) (.lookup t x k c)) K .it:=rfl
@[simp ↓]theorem ZL{P:Program}{env:Env}{h:ak}{n:Nat}(t:TypeId)(K:AV->ak->Nat->Prop):bH P env h n (.makeMap t none) K=pM (some ((jZ P t).isSome=true,.mp n,(n,[fR []])::h,n+1)) K .it:=rfl
@[simp ↓]theorem ZM{P:Program}{env:Env}{h:ak}{n:Nat}(t:TypeId)(m k v:Operand)(K:AV->ak->Nat->Prop):bH P env h n (.mapUpdate t m k v) K=sM (CQ h (jZ P t) (ev env m) (ev env k) (ev env v)) n K .it:=by
 show nM P env h n t m k v K=_;unfold nM CQ sD
 cases ev env m with
 |mp id=>
  dsimp only
  cases (bf h id).bind dZ<;>first
   |rfl
   |(cases ev env k<;>first
      |rfl
      |(cases ev env v<;>first
         |rfl
         |(cases jZ P t<;>rfl)))
 |_=>rfl
section
omit [av]
@[simp]theorem ZN(a:Nat):qM (.mp a)=a:=rfl
@[simp]theorem ZO(a:Nat)(D:List Nat):xH (.mp a) D=(a∈D):=rfl
@[simp]theorem ZP(env:Env)(t:TypeId)(x k:Operand)(c:Bool)(D:List Nat):touch env (.lookup t x k c) D=True:=rfl
@[simp]theorem ZQ(env:Env)(t:TypeId)(m k v:Operand)(D:List Nat):touch env (.mapUpdate t m k v) D=xH (ev env m) D:=rfl
end
def nA(l:List ByteArray):List AV:=(l.map PV.str).map (AV.w false false)
omit [av] in
@[simp]theorem ZR:nA []=[]:=rfl
end Go.Fi
