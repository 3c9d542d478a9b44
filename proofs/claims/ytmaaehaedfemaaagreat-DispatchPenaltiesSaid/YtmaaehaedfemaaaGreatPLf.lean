/- Lemmas. -/
import Derived.Test.YtmaaehaedfemaaaGreatPLe
import Derived.ProofKit
import Derived.Carry
import Derived.ChangeSame
import Derived.ChangeArms
set_option linter.unusedSimpArgs false
set_option linter.unusedVariables false
set_option linter.unusedSectionVars false
set_option maxHeartbeats 32000000
set_option maxRecDepth 100000
namespace Go.Fi
open Go Go.RowKit
variable[ak]
variable{fk:Fk}
def nz(D:List Nat):ab→ab
 |[]=>[]
 |(k,v)::r=>if k∈D then (k,v)::nz D r else nz D r
omit [ak] in
theorem sY{D:List Nat}:∀{h:ab}{id:Nat}{c:List AV},aI (nz D h) id=some c→(id,c)∈h∧id∈D
 |[],id,c,e=>by cases e
 |(k,v)::r,id,c,e=>by
  simp only[nz] at e;split at e
  ·rename_i hk;simp only[aI] at e;split at e
   ·rename_i h;subst h;injection e with e;subst e
    exact⟨List.mem_cons_self,hk⟩
   ·obtain⟨h1,h2⟩:=sY e;exact⟨List.mem_cons_of_mem _ h1,h2⟩
  ·obtain⟨h1,h2⟩:=sY e;exact⟨List.mem_cons_of_mem _ h1,h2⟩
def AvF(h:ab)(x y:AV):Prop:=
 match y with
 |.w own false p=>frz h 6 x=some p∧(own=true→cp h 6 x=true)
 |_=>False
def uh(n n':Nat)(x y:AV):Prop:=
 match x,y with
 |.w _ true (.sl 0 []),.msl id 0 _ 0 0=>n≤id∧id<n'
 |_,_=>False
def kE(D:List Nat)(h:ab)(n n':Nat)(x y:AV):Prop:=(oV x y∧y.lt n'=true)∨AvF (nz D h) x y∨uh n n' x y
def fp(D:List Nat)(h:ab)(n n':Nat):List AV→List AV→Prop
 |[],[]=>True
 |x::a,y::b=>kE D h n n' x y∧fp D h n n' a b
 |_,_=>False
def qG(D:List Nat)(h:ab)(n n':Nat)(env:Env):Env→Prop
 |[]=>True
 |(t,v)::r=>kE D h n n' (get env t) v∧qG D h n n' env r
def fD(D:List Nat)(h:ab)(n n':Nat)(i:Nat)(c:List AV):Prop:=
 match aI h i with
 |some c0=>i<n'∧¬i∈D∧fp D h n n' c0 c
 |none=>n≤i∧i<n'∧c=[]
def jy(D:List Nat)(h:ab)(n n':Nat):ab→Prop
 |[]=>True
 |(i,c)::r=>fD D h n n' i c∧aI r i=none∧jy D h n n' r
section
omit [ak]
theorem tc{D:List Nat}{h:ab}{n n':Nat}:∀{a b:List AV},fp D h n n' a b→a.length=b.length∧∀(j:Nat)(y:AV),b[j]?=some y→∃x,a[j]?=some x∧kE D h n n' x y
 |[],[],_=>⟨rfl,fun j y h=>by simp at h⟩
 |x::a,y::b,hc=>by
  obtain⟨h1,h2⟩:=hc;obtain⟨h3,h4⟩:=tc h2;refine⟨by simp[h3],fun j z hz=>?_⟩
  cases j with
  |zero=>simp at hz;subst hz;exact⟨x,rfl,h1⟩
  |succ j=>exact h4 j z (by simpa using hz)
 |[],_::_,hc=>hc.elim
 |_::_,[],hc=>hc.elim
theorem mR{D:List Nat}{h:ab}{n n':Nat}(o f:Bool):∀l:List PV,fp D h n n' (l.map (.w o f)) (l.map (.w o f))
 |[]=>trivial
 |p::r=>⟨.inl ⟨⟨fun h=>h,fun h=>h,.inl rfl⟩,rfl⟩,mR o f r⟩
theorem C1{D:List Nat}{h:ab}{n n':Nat}:∀{env' env:Env},qG D h n n' env env'→∀t,kE D h n n' (get env t) (get env' t)∨get env' t=.w false false .undef
 |[],env,_,t=>.inr rfl
 |(k,v)::r,env,hh,t=>by
  obtain⟨h1,h2⟩:=hh;simp only[get];split
  ·rename_i e;subst e;exact .inl h1
  ·exact C1 h2 t
theorem lC{D:List Nat}{h:ab}{n n':Nat}:∀{h':ab},jy D h n n' h'→∀i c,(i,c)∈h'→fD D h n n' i c
 |[],_,i,c,hin=>by cases hin
 |(k,v)::r,hh,i,c,hin=>by
  obtain⟨h1,h2,h3⟩:=hh
  rcases List.mem_cons.1 hin with e|e
  ·injection e with e1 e2;subst e1;subst e2;exact h1
  ·exact lC h3 i c e
theorem C3{D:List Nat}{h:ab}{n n':Nat}:∀{h':ab},jy D h n n' h'→h'.Pairwise fun p q=>p.1≠q.1
 |[],_=>List.Pairwise.nil
 |(k,v)::r,hh=>by
  obtain⟨h1,h2,h3⟩:=hh;exact List.pairwise_cons.2 ⟨fun q hq e=>xy h2 q hq e.symm,C3 h3⟩
theorem C4{D:List Nat}{h:ab}{n n':Nat}{c0 c:List AV}(hc:fp D h n n' c0 c)(hm:fO c0=true):fO c=true∧∀l,bV c=some l→bV c0=some l:=by
 obtain⟨hl,hr⟩:=tc hc;have h1:=u5 hm
 match c0,c,h1,hl with
 |[x],[y],_,_=>
  obtain⟨x',hx,hxy⟩:=hr 0 y rfl;simp at hx;subst hx
  cases x with
  |w o f p=>
   rcases hxy with ⟨h2,_⟩|h2|h2
   ·cases y with
    |w o' f' p'=>
     obtain⟨_,_,h3⟩:=h2
     rcases h3 with rfl|⟨rfl,_⟩
     ·refine⟨?_,fun l hl=>?_⟩
      ·cases p'<;>simp_all[fO]
      ·cases p'<;>simp_all[bV]
     ·exact⟨rfl,fun l hl=>by simp[bV] at hl⟩
    |_=>cases h2
   ·cases y with
    |w o' f' p'=>
     cases f' with
     |true=>cases h2
     |false=>
      obtain⟨h3,_⟩:=h2;simp only[frz,Option.some.injEq] at h3;subst h3;refine⟨?_,fun l hl=>?_⟩
      ·cases p<;>simp_all[fO]
      ·cases p<;>simp_all[bV]
    |_=>cases h2
   ·cases p<;>simp[fO] at hm<;>(unfold uh at h2;split at h2<;>first|exact h2.elim|simp_all)
  |_=>simp[fO] at hm
theorem nZ{B:Base}{m:Mm}{w:World}{H h:ab}{G':Nat→Prop}{L:Nat→Prop}(hs:aO B H m w)(hL:L=LB m H)(hlook:∀id cs,aI h id=some cs→(id,cs)∈H)(own:Bool)(hG1:∀id cs b C,aI h id=some cs→m.addr id cs.length=some (b,C)→B.n≤b→G' b)(hG2:∀b,Good B L own b→G' b)(hG3:own=true→∀b,Good B L true b→G' b):∀(d:Nat)(x:AV)(p:PV)(v:Value),frz h d x=some p→(own=true→cp h d x=true)→ai B L m w x v→Rep G' w p v
 |d,.w o f q,p,v,hf,hfr,hr=>by
  have:q=p:=by cases d<;>(simp[frz] at hf;exact hf)
  subst this
  cases hr with
  |w hr _=>
   cases hfv:own with
   |false=>exact hr.imp fun b hg=>hG2 b ⟨hg.1,(fun h=>by rw[hfv] at h;cases h),hg.2.2⟩
   |true=>
    have h1:=hfr hfv
    have h2:(o || flat q)=true:=by cases d<;>exact h1
    cases o with
    |true=>exact hr.imp fun b hg=>hG3 hfv b hg
    |false=>exact rz (by simpa using h2) hr
 |0,.ptr ..,_,_,hf,_,_=>by simp[frz] at hf
 |0,.msl ..,_,_,hf,_,_=>by simp[frz] at hf
 |0,.agg _,_,_,hf,_,_=>by simp[frz] at hf
 |0,.tup _,_,_,hf,_,_=>by simp[frz] at hf
 |0,.fn _ _,_,_,hf,_,_=>by simp[frz] at hf
 |0,.mp _,_,_,hf,_,_=>by simp[frz] at hf
 |_+1,.mp _,_,_,hf,_,_=>by simp[frz] at hf
 |d+1,.ptr id ver off,p,v,hf,hfr,hr=>by
  simp only[frz] at hf;split at hf
  ·rename_i cells hg;split at hf
   ·rename_i hver
    cases hm:cells.mapM (frz h d) with
    |none=>simp[hm] at hf
    |some r=>
     simp only[hm,Option.map_some,Option.some.injEq] at hf;subst hf;obtain⟨h1,h2⟩:=gd hm;obtain⟨b,C,rfl,hd,hvC,ha⟩:=hr.lM;rw[←hver] at ha hvC;obtain⟨cs,e,hh,hC,hle,hbB,hcell⟩:=hs.read (hlook id cells hg) hd ha hvC.2
     have:=Rep.ip (G:=G') (w:=w) (o:=off) (b:=b) (off:=0) (cells:=r) (fun j=>cs.getD j undef) (fun j hj=>by
      have:j<cs.size:=by omega
      rw[Nat.zero_add,jL hh];simp[this]) (fun _=>hG1 id cells b C hg ha hbB) (fun j q hq=>by
      obtain⟨x,hx,hxq⟩:=h2 j q hq
      have hj:j<cs.size:=by have:=(List.getElem?_eq_some_iff.1 hx).1;omega
      exact nZ hs hL hlook own hG1 hG2 hG3 d x q _ hxq (fun e=>by have:=hfr e;simp only[cp,hg] at this;exact iY this hx) (by rw[hL];exact hcell j x _ hx (by simp[hj])))
     rw[Nat.zero_add] at this;exact this
   ·cases hf
  ·cases hf
 |d+1,.msl id ver sz off k,p,v,hf,hfr,hr=>by
  simp only[frz] at hf;split at hf
  ·rename_i cells hg;split at hf
   ·rename_i hver
    cases hm:cells.mapM (frz h d) with
    |none=>simp[hm] at hf
    |some r=>
     simp only[hm,Option.map_some,Option.some.injEq,uZ] at hf;subst hf;obtain⟨h1,h2⟩:=gd hm;obtain⟨a0,cap,rfl,hk,hd,_,h3,h4⟩:=hr.jZ;rw[←hver] at h3 h4
     cases ha:m.addr id cells.length with
     |none=>
      obtain⟨rfl,h5⟩:=h3 ha;have hr0:r=[]:=List.eq_nil_of_length_eq_zero (by omega);subst hr0
      have:k=0:=by omega
      subst this
      cases a0 with
      |none=>simpa using Rep.slnil
      |some a1=>simpa using Rep.slz (Nat.le_refl _)
     |some bc=>
      obtain⟨b,C⟩:=bc;obtain⟨h5,h6,h7⟩:=h4 b C ha;obtain⟨cs,e,hh,hC,hle,hbB,hcell⟩:=hs.read (hlook id cells hg) hd ha (by omega)
      cases hL2:(r.drop off).take (k*sz) with
      |nil=>
       cases a0 with
       |none=>
        have hcap:cap=0:=by
         rcases Nat.eq_zero_or_pos cap with h|h
         ·exact h
         ·cases h5 h
        subst hcap
        have:k=0:=by omega
        subst this;exact .slnil
       |some a1=>exact .slz hk
      |cons y ys=>
       have hcap:0<cap:=by
        rcases Nat.eq_zero_or_pos cap with h|h
        ·have:k=0:=by omega
         rw[this] at hL2;simp at hL2
        ·exact h
       rw[h5 hcap,←hL2]
       have hlt:∀j,j<((r.drop off).take (k*sz)).length→off+j<cs.size∧j<k*sz:=by
        intro j hj;simp only[List.length_take,List.length_drop] at hj;omega
       refine .sl (fun j=>cs.getD (off+j) undef) hk (fun j hj=>?_) (fun _=>hG1 id cells b C hg ha hbB) (fun j q hq=>?_)
       ·rw[jL hh];simp[(hlt j hj).1]
       ·have hj:=(List.getElem?_eq_some_iff.1 hq).1;rw[List.getElem?_take,if_pos (hlt j hj).2,List.getElem?_drop] at hq;obtain⟨x,hx,hxq⟩:=h2 (off+j) q hq;exact nZ hs hL hlook own hG1 hG2 hG3 d x q _ hxq (fun e=>by have:=hfr e;simp only[cp,hg] at this;exact iY this hx) (by rw[hL];exact hcell (off+j) x _ hx (by simp[(hlt j hj).1]))
   ·cases hf
  ·cases hf
 |d+1,.agg cs,p,v,hf,hfr,hr=>by
  simp only[frz] at hf
  cases hm:cs.mapM (frz h d) with
  |none=>simp[hm] at hf
  |some r=>
   simp only[hm,Option.map_some,Option.some.injEq] at hf;subst hf;obtain⟨h1,h2⟩:=gd hm
   cases hr with
   |agg hl hcell=>exact .agg (by omega) (fun j q u hq hu=>by
     obtain⟨x,hx,hxq⟩:=h2 j q hq
     exact nZ hs hL hlook own hG1 hG2 hG3 d x q u hxq (fun e=>by have:=hfr e;simp only[cp] at this;exact iY this hx) (hcell j x u hx hu))
 |d+1,.tup cs,p,v,hf,hfr,hr=>by
  simp only[frz] at hf
  cases hm:cs.mapM (frz h d) with
  |none=>simp[hm] at hf
  |some r=>
   simp only[hm,Option.map_some,Option.some.injEq] at hf;subst hf;obtain⟨h1,h2⟩:=gd hm
   cases hr with
   |tup hl hcell=>exact .tup (by omega) (fun j q u hq hu=>by
     obtain⟨x,hx,hxq⟩:=h2 j q hq
     exact nZ hs hL hlook own hG1 hG2 hG3 d x q u hxq (fun e=>by have:=hfr e;simp only[cp] at this;exact iY this hx) (hcell j x u hx hu))
 |d+1,.fn f cs,p,v,hf,hfr,hr=>by
  simp only[frz] at hf
  cases hm:cs.mapM (frz h d) with
  |none=>simp[hm] at hf
  |some r=>
   simp only[hm,Option.map_some,Option.some.injEq] at hf;subst hf;obtain⟨h1,h2⟩:=gd hm
   cases hr with
   |fn hl hcell=>exact .fn (by omega) (fun j q u hq hu=>by
     obtain⟨x,hx,hxq⟩:=h2 j q hq
     exact nZ hs hL hlook own hG1 hG2 hG3 d x q u hxq (fun e=>by have:=hfr e;simp only[cp] at this;exact iY this hx) (hcell j x u hx hu))
end
def Mm.cut(m:Mm)(n n':Nat):Mm:=⟨fun id ver=>if n≤id then none else m.addr id ver,fun id=>if n≤id then 0 else m.top id,fun i=>i<n'⟩
omit [ak] in
theorem ai.cut{B:Base}{L L':Nat→Prop}{m:Mm}{w:World}{x:AV}{v:Value}(h:ai B L m w x v){n n':Nat}(hn:∀i,m.dom i→i<n)(hl:x.lt n'=true)(hL:∀b,L' b→L b):ai B L' (m.cut n n') w x v:=by
 induction h with
 |w hr hf=>exact .w (hr.imp fun b hg=>⟨fun hb=>hg.1 (hL b hb),hg.2⟩) hf
 |ptr hd ht ha hC=>
  have:=hn _ hd;exact .ptr (by simpa[AV.lt,Mm.cut] using hl) (by simp only[Mm.cut];rw[if_neg (by omega)];exact ht) (by simp only[Mm.cut];rw[if_neg (by omega)];exact ha) hC
 |mp hd ht ha=>
  have:=hn _ hd;exact .mp (by simpa[AV.lt,Mm.cut] using hl) (by simp only[Mm.cut];rw[if_neg (by omega)];exact ht) (by simp only[Mm.cut];rw[if_neg (by omega)];exact ha)
 |msl hd ht hk h0 h1=>
  have:=hn _ hd;exact .msl (by simpa[AV.lt,Mm.cut] using hl) (by simp only[Mm.cut];rw[if_neg (by omega)];exact ht) hk (by simp only[Mm.cut];rw[if_neg (by omega)];exact h0) (by simp only[Mm.cut];rw[if_neg (by omega)];exact h1)
 |agg hlen _ ih=>exact .agg hlen (fun j p v hp hv=>ih j p v hp hv (kZ (by simpa[AV.lt] using hl) j p hp))
 |tup hlen _ ih=>exact .tup hlen (fun j p v hp hv=>ih j p v hp hv (kZ (by simpa[AV.lt] using hl) j p hp))
 |fn hlen _ ih=>exact .fn hlen (fun j p v hp hv=>ih j p v hp hv (kZ (by simpa[AV.lt] using hl) j p hp))
theorem C5(D:List Nat){env env':Env}{h h':ab}{n n' nt:Nat}(h1:qG D h n n' env env')(h2:jy D h n n' h')(hk:fk.k≤n'){B:Base}{w0:Ctx fk}{a:Act}{w:World}{m:Mm}(hs:Sim B w0 ⟨env,h,n,nt⟩ a w m):∃m',Sim B w0 ⟨env',h',n',nt⟩ a w m'∧∀x y v,kE D h n n' x y→ai B (LB m h) m w x v→ai B (LB m' h') m' w y v:=by
 have hdn:∀i,m.dom i→i<n:=fun i hd=>(hs.dom i).1 hd
 have hkey:∀{i:Nat}{c c':List AV},(i,c)∈h→(i,c')∈h→c=c':=fun h1 h2=>hs.heap.key h1 h2
 have hold:∀i c c0,(i,c)∈h'→aI h i=some c0→c0.length=c.length:=fun i c c0 hin hg=>by
  have:=lC h2 i c hin;simp only[fD,hg] at this;exact (tc this.2.2).1
 have hL:∀b,LB (m.cut n n') h' b→LB m h b:=by
  rintro b ⟨id,c,C,hin,_,ha⟩
  have he:=lC h2 id c hin
  cases hg:aI h id with
  |none=>simp only[fD,hg] at he;simp only[Mm.cut] at ha;rw[if_pos he.1] at ha;cases ha
  |some c0=>
   have hm:=da hg;have hid:=hs.ids id c0 hm;simp only at hid;simp only[Mm.cut] at ha;rw[if_neg (by omega),←hold id c c0 hin hg] at ha;exact⟨id,c0,C,hm,(hs.dom id).2 hid,ha⟩
 have hLD:∀id cs b C,aI (nz D h) id=some cs→m.addr id cs.length=some (b,C)→¬LB (m.cut n n') h' b:=by
  rintro id cs b C hg ha ⟨id2,c2,C2,hin2,_,ha2⟩
  obtain⟨hm,hD⟩:=sY hg;have he:=lC h2 id2 c2 hin2
  cases hg2:aI h id2 with
  |none=>simp only[fD,hg2] at he;simp only[Mm.cut] at ha2;rw[if_pos he.1] at ha2;cases ha2
  |some c0=>
   have hm2:=da hg2;have hid2:=hs.ids id2 c0 hm2;have hid:=hs.ids id cs hm;simp only at hid hid2;simp only[Mm.cut] at ha2;rw[if_neg (by omega),←hold id2 c2 c0 hin2 hg2] at ha2;simp only[fD,hg2] at he
   have hne:id≠id2:=fun e=>he.2.1 (e▸hD)
   have cg:=hs.heap.inj;rw[List.pairwise_iff_getElem] at cg;obtain⟨p,hp,ep⟩:=List.getElem_of_mem hm;obtain⟨q,hq,eq⟩:=List.getElem_of_mem hm2
   rcases Nat.lt_trichotomy p q with hpq|hpq|hpq
   ·have:=(cg p q hp hq hpq).2 b C C2;rw[ep,eq] at this;exact this ((hs.dom _).2 hid) ((hs.dom _).2 hid2) ha ha2
   ·subst hpq;rw[ep] at eq
    injection eq with e1 _
    exact hne e1
   ·have:=(cg q p hq hp hpq).2 b C2 C;rw[ep,eq] at this;exact this ((hs.dom _).2 hid2) ((hs.dom _).2 hid) ha2 ha
 have hcell:∀x y v,kE D h n n' x y→ai B (LB m h) m w x v→ai B (LB (m.cut n n') h') (m.cut n n') w y v:=by
  intro x y v hc hr
  rcases hc with ⟨g1,g2⟩|g|g
  ·exact (CC g1 hr).cut hdn g2 hL
  ·unfold AvF at g;split at g
   ·rename_i own p
    refine .w (nZ hs.heap rfl (fun id cs e=>(sY e).1) own (fun id cs b C hg ha hb=>⟨hLD id cs b C hg ha,fun _=>hb,fun h=>by omega⟩)
     (fun b hg=>⟨fun hl=>hg.1 (hL b hl),hg.2⟩) (fun ho b hg=>⟨fun hl=>hg.1 (hL b hl),fun _=>hg.2.1 rfl,hg.2.2⟩) 6 x p v g.1 g.2 hr) (fun h=>by cases h)
   ·exact g.elim
  ·unfold uh at g;split at g
   ·rename_i o id sz;obtain⟨a0,cap,hv,_,hf,_,_⟩:=hr.jY;rw[hv];have hc:=hf rfl;subst hc;exact .msl g.2 (by simp only[Mm.cut];rw[if_pos g.1];exact Nat.le_refl _) (Nat.le_refl _) (fun _=>⟨rfl,rfl⟩) (fun b C e=>by simp only[Mm.cut] at e;rw[if_pos g.1] at e;cases e)
   ·exact g.elim
 refine⟨m.cut n n',⟨hs.base,hs.below,hs.defers,hs.size,fun t=>?_,⟨fun id c hin hd=>?_,?_⟩,fun i=>Iff.rfl,fun id c hin=>?_,hk,fun p hp=>⟨(hs.fr.2.1 p hp).1,(hs.fr.2.1 p hp).2.cut hdn (AV.oC hk (hs.fr.2.1 p hp).1) hL⟩,fun q hq=>let ⟨o1,o2,o3,o4⟩:=hs.fr.2.2 q hq;⟨o1,o2,fun h=>o3 (hL _ h),o4⟩⟩,hcell⟩
 ·show ai _ _ _ _ (get env' t) _
  rcases C1 h1 t with g1|g1
  ·exact hcell _ _ _ g1 (hs.env t)
  ·rw[g1];exact .w (.undef _) (fun e=>by cases e)
 ·have he:=lC h2 id c hin
  cases hg:aI h id with
  |none=>
   simp only[fD,hg] at he;obtain⟨e1,_,rfl⟩:=he;exact⟨by simp only[Mm.cut];rw[if_pos e1];rfl,.inl ⟨by simp only[Mm.cut];rw[if_pos e1],rfl⟩⟩
  |some c0=>
   have hm:=da hg;have hid:=hs.ids id c0 hm;simp only at hid;have hlen:=hold id c c0 hin hg;simp only[fD,hg] at he;obtain⟨ht,hen⟩:=hs.heap.entry id c0 hm ((hs.dom id).2 hid);refine⟨by simp only[Mm.cut];rw[if_neg (by omega),ht,hlen],?_⟩
   rcases hen with ⟨g1,g2⟩|⟨b,C,cs,e,e1,e2,e3,e4,e5,e6⟩|⟨b,es,clk,e1,e2,e3,e4,e5⟩
   ·refine .inl ⟨by simp only[Mm.cut];rw[if_neg (by omega),←hlen];exact g1,?_⟩;subst g2;exact List.eq_nil_of_length_eq_zero hlen.symm
   ·refine .inr (.inl ⟨b,C,cs,e,by simp only[Mm.cut];rw[if_neg (by omega),←hlen];exact e1,e2,e3,by omega,e5,fun j p v hp hv=>?_⟩);obtain⟨x,hx,hxc⟩:=(tc he.2.2).2 j p hp;exact hcell x p v hxc (e6 j x v hx hv)
   ·exact .inr (.inr ⟨b,es,clk,by simp only[Mm.cut];rw[if_neg (by omega),←hlen];exact e1,(C4 he.2.2 e2).1,e3,e4,fun l hl=>e5 l ((C4 he.2.2 e2).2 l hl)⟩)
 ·have hk:=C3 h2;refine List.Pairwise.imp_of_mem ?_ hk;intro x y hx hy hne;refine⟨hne,fun b C C' _ _ hax hay=>?_⟩;have ex:=lC h2 x.1 x.2 hx;have ey:=lC h2 y.1 y.2 hy
  cases hgx:aI h x.1 with
  |none=>simp only[fD,hgx] at ex;simp only[Mm.cut] at hax;rw[if_pos ex.1] at hax;cases hax
  |some cx=>
   cases hgy:aI h y.1 with
   |none=>simp only[fD,hgy] at ey;simp only[Mm.cut] at hay;rw[if_pos ey.1] at hay;cases hay
   |some cy=>
    have mx:=da hgx;have my:=da hgy;have ix:=hs.ids _ _ mx;have iy:=hs.ids _ _ my;simp only at ix iy;simp only[Mm.cut] at hax hay;rw[if_neg (by omega),←hold x.1 x.2 cx hx hgx] at hax;rw[if_neg (by omega),←hold y.1 y.2 cy hy hgy] at hay;have:=hs.heap.inj;rw[List.pairwise_iff_getElem] at this;obtain⟨p,hp,ep⟩:=List.getElem_of_mem mx;obtain⟨q,hq,eq⟩:=List.getElem_of_mem my;have dx:m.dom x.1:=(hs.dom _).2 ix;have dy:m.dom y.1:=(hs.dom _).2 iy
    rcases Nat.lt_trichotomy p q with hpq|hpq|hpq
    ·have:=(this p q hp hq hpq).2 b C C';rw[ep,eq] at this;exact this dx dy hax hay
    ·subst hpq;rw[ep] at eq
     injection eq with e1 _
     exact hne e1
    ·have:=(this q p hq hp hpq).2 b C' C;rw[ep,eq] at this;exact this dy dx hay hax
 ·have he:=lC h2 id c hin;show id<n'
  cases hg:aI h id with
  |none=>simp only[fD,hg] at he;exact he.2.1
  |some c0=>simp only[fD,hg] at he;exact he.1
theorem aN(D:List Nat){env env':Env}{h h':ab}{n n' nt:Nat}(h1:qG D h n n' env env')(h2:jy D h n n' h')(hk:fk.k≤n':=by first|exact Nat.zero_le _|omega|(simp;done)):Lek fk ⟨env,h,n,nt⟩ ⟨env',h',n',nt⟩:=by
 intro B w0 a w m hs;obtain⟨m',hs',_⟩:=C5 D h1 h2 hk hs;exact⟨m',hs'⟩
attribute [simp] AvF uh kE fp qG fD jy nz
section
omit [ak]
@[simp] theorem J6(h:ab)(d:Nat)(o f:Bool)(p:PV):cp h d (.w o f p)=(o || flat p):=by cases d<;>rfl
@[simp high] theorem te(h:ab)(d:Nat)(o f:Bool):∀l:List PV,(l.map (AV.w o f)).mapM (frz h d)=some l
 |[]=>rfl
 |p::r=>by simp[List.mapM_cons,te h d o f r]
@[simp high] theorem p9(h:ab)(d:Nat)(o f:Bool):∀l:List PV,de l=true→(l.map (AV.w o f)).all (cp h d)=true
 |[],_=>rfl
 |p::r,hl=>by
  simp only[de,Bool.and_eq_true] at hl;simp only[List.map_cons,List.all_cons,J6,hl.1,Bool.or_true,Bool.true_and];exact p9 h d o f r hl.2
end
def Fw:PV→Bool
 |.undef=>false
 |.tup _=>false
 |.agg _=>false
 |_=>true
omit [ak] in
@[simp] theorem C6(o f:Bool):∀l:List PV,l.all Fw=true→bJ (l.map (AV.w o f))=true
 |[],_=>rfl
 |p::r,hl=>by
  simp only[List.all_cons,Bool.and_eq_true] at hl;simp only[List.map_cons,bJ,C6 o f r hl.2,Bool.and_true]
  cases p<;>first|rfl|(simp[Fw] at hl)
omit [ak] in
@[simp] theorem qb(n:Nat)(o f:Bool):∀l:List PV,AV.lt.ltL n (l.map (AV.w o f))=true
 |[]=>rfl
 |p::r=>by simp[AV.lt.ltL,AV.lt,qb n o f r]
theorem cM{P:Program}{K:Exit→St→Prop}{c:Code}{id:Nat}{env:Env}{h:ab}{n nt:Nat}{α β:Type}(n':Nat)(J:α→Prop)(ks:List Nat)(mods:α→Env)(hks:List Nat)(hm:α→ab)(μ:α→Nat)(F:β→Prop)(fks:List Nat)(fmods:β→Env)(fhks:List Nat)(fhm:β→ab)(x0:α)(hJ:J x0)(h0:Lek fk ⟨env,h,n,nt⟩ ⟨mods x0++dq env ks,hm x0++eH h hks,n',nt⟩)(round:∀x,J x→aM fk P c ⟨mods x++dq env ks,hm x++eH h hks,n',nt⟩ (gU fk J (fun x=>⟨mods x++dq env ks,hm x++eH h hks,n',nt⟩) μ x (kD fk id F (fun y=>⟨fmods y++dq env fks,fhm y++eH h fhks,n',nt⟩) K)))(after:∀y,F y→K .normal ⟨fmods y++dq env fks,fhm y++eH h fhks,n',nt⟩):aM fk P (.block id (.loop c)) ⟨env,h,n,nt⟩ K:=by
 refine pz (CM (vB J (fun x=>⟨mods x++dq env ks,hm x++eH h hks,n',nt⟩) μ x0 hJ h0 round) (fun e s hk=>?_))
 cases e<;>first
  |exact hk.elim
  |exact⟨s,Lek.refl s,hk⟩
  |(simp only[kD] at hk
    simp only[ew];split at hk
    ·rename_i hid;obtain⟨y,hy,hle⟩:=hk;exact⟨_,hle,by rw[if_pos hid];exact after y hy⟩
    ·rename_i hid
     exact⟨s,Lek.refl s,by rw[if_neg hid];exact hk⟩)
section
omit [ak]
@[simp] theorem U4(z:List AV):ej 1 z=z:=by simp[ej]
@[simp] theorem U5(z:List AV):ej 2 z=z++z:=by simp[ej,List.replicate_succ]
@[simp] theorem J7{D:List Nat}{h:ab}{n n':Nat}{x y:List AV}:∀a:List AV,fp D h n n' (a++x) (a++y)=(fp D h n n' a a∧fp D h n n' x y)
 |[]=>propext ⟨fun h=>⟨trivial,h⟩,fun h=>h.2⟩
 |z::a=>by
  simp only[List.cons_append,fp,J7 a,and_assoc]
end
end Go.Fi
namespace Go.Fi
open Go Go.RowKit Go.ChangeShapes Go.WideShapes
variable[ak]
def Match(w:World)(ps:List PV)(cs:List Value):Prop:=ps.length=cs.length∧∀(j:Nat)(p:PV)(v:Value),ps[j]?=some p→cs[j]?=some v→Rep (fun _=>True) w p v
omit [ak] in
theorem Match.append{w:World}{a b:List PV}{x y:List Value}(h1:Match w a x)(h2:Match w b y):Match w (a++b) (x++y):=by
 refine⟨by rw[List.length_append,List.length_append,h1.1,h2.1],fun j p v hp hv=>?_⟩;by_cases hj:j<a.length
 ·rw[List.getElem?_append_left hj] at hp;rw[List.getElem?_append_left (by rw[←h1.1];exact hj)] at hv;exact h1.2 j p v hp hv
 ·have hj:a.length≤j:=by omega
  rw[List.getElem?_append_right hj] at hp;rw[List.getElem?_append_right (by rw[←h1.1];exact hj),←h1.1] at hv;exact h2.2 _ p v hp hv
omit [ak] in
theorem Match.one{w:World}{p:PV}{v:Value}(h:Rep (fun _=>True) w p v):Match w [p] [v]:=by
 refine⟨rfl,fun j q u hq hu=>?_⟩
 cases j with
 |zero=>simp at hq hu;subst hq;subst hu;exact h
 |succ j=>simp at hq
section
variable{P:Program}{t e:TypeId}
omit [ak] in
theorem xu{α:Type}{c:α→List PV}{s:Nat}(hl:∀x,(c x).length=s)(hs:0<s)(l:List α)(j:Nat)(hj:j<l.length*s):∃x,l[j / s]?=some x∧(l.flatMap c)[j]?=(c x)[j%s]?:=by
 induction l generalizing j with
 |nil=>simp at hj
 |cons a l ih=>
  simp only[List.flatMap_cons];by_cases h:j<s
  ·refine⟨a,by rw[Nat.div_eq_of_lt h];rfl,?_⟩;rw[List.getElem?_append_left (by rw[hl];exact h),Nat.mod_eq_of_lt h]
  ·have h:s≤j:=by omega
   rw[List.length_cons,Nat.add_mul] at hj;obtain⟨x,h1,h2⟩:=ih (j-s) (by omega);refine⟨x,?_,?_⟩
   ·rw[Nat.div_eq_sub_div hs h,List.getElem?_cons_succ];exact h1
   ·rw[List.getElem?_append_right (by rw[hl];exact h),hl,h2,Nat.mod_eq_sub_mod h]
end
section
variable{H:Type}{enc:TypeId×Value→H}{P:Program}
section
omit [ak]
theorem MH{f:Func}{s:ChangeSpec}{apart fresh handsOn again:Bool}{W W':World}{args:Array Value}{v:Value}{ds gs:List (DataW H)}{before pa pv:List MemPlace}(hW:DataW.Whole enc P f.params.toList s.vars apart W args.toList ds gs before)(hres:∀(b:Nat)(sp:Nat→Bool)(hd:Bool),DataW.TrodAll enc P W' b sp hd f.resultTypes.toList (v.resultList f.resultTypes.size) (s.fn H (ds++gs)).results [])(hargs:∀sp:Nat→Bool,(∀p∈before,sp p.block=true)→DataW.TrodAll enc P W' 0 sp true f.params.toList args.toList (s.fn H (ds++gs)).args pa)(hvars:∀sp:Nat→Bool,(∀p∈before,sp p.block=true)→DataW.TrodVars enc P W' sp s.vars (s.fn H (ds++gs)).vars pv)(hps:before=pa++pv)(hb:Bel W.heap.size W W')(hok:∀(j:Nat)(t:TypeId)(r:Value),f.resultTypes[j]?=some t→(v.resultList f.resultTypes.size)[j]?=some r→Value.okWide P W' .any 0 t r):s.post enc P f apart fresh handsOn again W args v W':=by
 have hlt:∀p∈before,p.block<W.heap.size:=fun p hp=>hW.lt p hp
 have hold:∀p∈before,(fun b=>decide (b<W.heap.size)) p.block=true:=fun p hp=>by simpa using hlt p hp
 refine⟨ds,gs,before,[],pa,pv,hW,hres _ _ _,hargs _ hold,hvars _ hold,World.keptBut_mono (fun p hp=>⟨hp,?_⟩) (hb.frame (·∈before)),fun _=>?_⟩
 ·rw[hps,List.mem_append] at hp;exact Or.inr hp
 ·obtain⟨_,_,_,_,_,hz,hn⟩:=hW;refine⟨hok,_,_,([]++pa)++pv,⟨[]++pa,pv,trodAll_append (hargs _ (fun _ _=>rfl)) (hres _ _ _),hvars _ (fun _ _=>rfl),rfl,?_,?_⟩,?_⟩
  ·intro b off hp
   have hin:MemPlace.cell b off∈before:=by rw[hps];simpa using hp
   rw[hb.frozen (hlt _ hin)];exact hz b off hin
  ·intro ha;have:=hn ha;rw[hps] at this;simpa using this
  ·intro p hp _;rw[hps];simpa using hp
theorem Em(hl:laidOutB P=true){W W':World}(hb:Bel W.heap.size W W'){sp:Nat→Bool}:∀{ts:List TypeId}{vs:List Value}{ds:List (DataW H)}{ps:List MemPlace},(∀t∈ts,P.readableRec t=true∧t<P.types.size)→DataW.TrodAll enc P W 0 (fun _=>true) true ts vs ds ps→(∀x∈ps,x.block<W.heap.size)→(∀x∈ps,sp x.block=true)→DataW.TrodAll enc P W' 0 sp true ts vs ds ps
 |[],[],[],_,_,h,_,_=>h
 |t::ts,v::vs,d::ds,ps,hr,h,hlt,hsp=>by
  obtain⟨p,q,h1,h2,rfl⟩:=h;refine⟨p,q,?_,Em hl hb (fun t ht=>hr t (List.mem_cons_of_mem _ ht)) h2 (fun x hx=>hlt x (List.mem_append_right _ hx)) (fun x hx=>hsp x (List.mem_append_right _ hx)),rfl⟩;obtain⟨r1,r2⟩:=hr t List.mem_cons_self;exact WideElems.Trod_stays hl r1 r2 h1 (fun x hx=>hb.same (hlt x (List.mem_append_left _ hx))) (fun x hx=>hsp x (List.mem_append_left _ hx))
 |[],[],_::_,_,_,h,_,_=>h.elim
 |[],_::_,_,_,_,h,_,_=>h.elim
 |_::_,[],_,_,_,h,_,_=>h.elim
 |_::_,_::_,[],_,_,h,_,_=>h.elim
theorem Pu{f:Func}{s:ChangeSpec}{apart fresh handsOn again:Bool}{W W':World}{args:Array Value}{ds gs:List (DataW H)}{before:List MemPlace}{tb:TypeId}(hl:laidOutB P=true)(hW:DataW.Whole enc P f.params.toList s.vars apart W args.toList ds gs before)(hv:s.vars=[])(hspec:s.fn H (ds++gs) = { results:=[.lit (.bool true)],args:=ds })(hr:f.resultTypes=#[tb])(htb:P.underlying tb=some .bool)(hread0:(f.params.toList.all fun t=>P.readableRec t&&decide (t<P.types.size))=true)(hb:Bel W.heap.size W W'):s.post enc P f apart fresh handsOn again W args (.bool true) W':=by
 have hread:∀t∈f.params.toList,P.readableRec t=true∧t<P.types.size:=fun t ht=>by
  have:=List.all_eq_true.1 hread0 t ht;simpa using this
 have hlt:∀p∈before,p.block<W.heap.size:=fun p hp=>hW.lt p hp
 have hW':=hW;obtain⟨p,q,hA,hV,rfl,_,_⟩:=hW;rw[hv] at hV
 have hq:q=[]∧gs=[]:=by
  cases gs with
  |nil=>exact⟨hV,rfl⟩
  |cons _ _=>exact hV.elim
 obtain⟨rfl,rfl⟩:=hq;refine MH (pa:=p) (pv:=[]) hW' (fun b sp hd=>?_) (fun sp hsp=>?_) (fun sp _=>?_) rfl hb ?_
 ·rw[hspec,hr];exact trodAll_mk1 (shut_bool htb true)
 ·rw[hspec];exact Em hl hb hread hA (fun x hx=>hlt x (by simpa using hx)) (fun x hx=>hsp x (by simpa using hx))
 ·rw[hspec,hv];rfl
 ·rw[hr];intro j t r hj hv
  match j,hj,hv with
  |0,hj,hv=>
   simp[Value.resultList] at hj hv;subst hj;subst hv;simp only[Value.okWide,htb,Cell.okWide,Cell.ok]
end
end
section
variable{P:Program}{t:TypeId}{W:World}
end
end Go.Fi
namespace Go.Fi
open Go Go.RowKit
variable[ak]
variable{fk:Fk}
theorem Kh{P:Program}{K:Exit→St→Prop}{rid d1 d2 t ty1 ty2 e:Nat}{p1 p2:String}{a1 a2:Array Edge}{st tt:TypeId}{env:Env}{h:ab}{n nt:Nat}{ow fl:Bool}{k:Nat}{cells:List PV}(hu:P.underlying st=some (.slice e))(hg:get env t=.w ow fl (.sl k cells))(hd1:d1<nt)(hd2:d2<nt)(hk:∀b:Bool,(b=true→k=0∧cells=[])→K .normal ⟨(d2,.w false false (.bool b))::(d1,.w ow fl (.sl k cells))::env,h,n,nt⟩):aM fk P (.region rid #[⟨some d1,.move (.tmp t),ty1,p1,a1,none⟩,⟨some d2,.binOp .eql st (.tmp d1) (.const (.slice none 0 0)) tt,ty2,p2,a2,none⟩] false) ⟨env,h,n,nt⟩ K:=by
 intro B w0 a w m hs;refine nL ?_;simp only[eh,Region.wanted,if_true];intro w e1x;replace hs:=hs.move e1x;refine ga (fun c e=>by cases e) (rJ w0 (⟨some d1,.move (.tmp t),ty1,p1,a1,none⟩:Oper) (K:=fun v h' n'=>v=get env t∧h'=h∧n'=n) (by simp) hs hd1 _ _ ?_)
 rintro v h' n' a w m ⟨rfl,rfl,rfl⟩ hs
 intro w e1x;replace hs:=hs.move e1x;refine ga (fun c e=>by cases e) ?_;rw[hg] at hs
 have hx:ai B (LB m h') m w (.w ow fl (.sl k cells)) (a.eval (.tmp d1)):=by
  have:=hs.env d1;rw[show get (St.env ⟨put env (some d1) (.w ow fl (.sl k cells)),h',n',nt⟩) d1=.w ow fl (.sl k cells) from by simp[put,get]] at this;exact this
 obtain⟨a0,cap,hv,_,_,hnone,hne⟩:=hx.jY
 have hrun:(execOp a.eval ⟨some d2,.binOp .eql st (.tmp d1) (.const (.slice none 0 0)) tt,ty2,p2,a2,none⟩).run P w=.ok (.value (.bool a0.isNone)) w:=by
  have hv':a.eval (.tmp d1)=.slice a0 k cap:=hv;have hc:a.eval (.const (.slice none 0 0))=.slice none 0 0:=rfl
  have he':∀d,(Op.equalIn (d+1) st (.slice a0 k cap) (.slice none 0 0)).run P w=.ok a0.isNone w:=fun d=>by
   rw[Op.equalIn,Sem.run_bind,run_underlying hu];simp only[Result.andThen_ok]
   cases a0<;>rfl
  have he:(Op.equal st (.slice a0 k cap) (.slice none 0 0)).run P w=.ok a0.isNone w:=he' 9999;have hg:(eqGuard .eql st (.tmp d1) (.const (.slice none 0 0)) (.slice a0 k cap) (.slice none 0 0)).run P w=.ok () w:=rfl;simp[execOp,hv',hc,hg,binOp,he]
 unfold Oper.wpt;rw[hrun,Oper.lG];refine⟨_,m,hk a0.isNone (fun hb=>?_),hs.base,hs.below,by rw[gJ];exact hs.defers,by rw[gI];exact hs.size,?_,hs.heap,hs.dom,hs.ids,hs.fr⟩
 ·have:a0=none:=by cases a0 with
   |none=>rfl
   |some x=>cases hb
  refine⟨(hnone this).1,?_⟩
  cases hcs:cells with
  |nil=>rfl
  |cons c r=>
   obtain⟨b,off,vals,h0,_⟩:=hne (by rw[hcs];simp);rw[this] at h0;cases h0
 ·exact jO _ a (some d2) _ _ (by show d2<a.tmps.size;rw[hs.size];exact hd2) (dW _) hs.env
def pS(M:List (ByteArray×Int)):List (PV×PV):=M.map fun p=>(.str p.1,.int .i64 p.2)
def mS(M:List (ByteArray×Int)):List AV:=[dw (pS M)]
section
omit [ak]
theorem Lu{D:List Nat}{h:ab}{n n':Nat}(o f:Bool)(p:PV):kE D h n n' (.w o f p) (.w false false p):=.inl ⟨⟨(fun h=>by cases h),(fun h=>by cases h),.inl rfl⟩,rfl⟩
@[simp] theorem WC(M:List (ByteArray×Int)):(mS M).length=1:=rfl
@[simp] theorem Yf(M:List (ByteArray×Int))(n:Nat):AV.lt.ltL n (mS M)=true:=rfl
end
def zA(c:Bool)(r:Option Int):AV:=
 match c,r with
 |true,some v=>.w false false (.tup [.int .i64 v,.bool true])
 |true,none=>.w false false (.tup [.int .i64 0,.bool false])
 |false,some v=>.w false false (.int .i64 v)
 |false,none=>.w false false (.int .i64 0)
section
omit [ak]
@[simp] theorem WG(v:Int):zA true (some v)=.w false false (.tup [.int .i64 v,.bool true]):=rfl
@[simp] theorem WH:zA true none=.w false false (.tup [.int .i64 0,.bool false]):=rfl
@[simp] theorem WI(h:ab)(id:Nat):mpC h (.mp id)=aI h id:=rfl
end
def qO(h:ab)(id:Nat)(cells:Option (List AV))(r:Option (TypeDesc×PV))(k v:AV):Option (Prop×ab):=
 match cells.bind bV,k,v,r with
 |some l,.w _ _ kp,.w _ _ vp,some (d,_)=>some ((okM d kp l=true∧isLit vp=true),aU h id [dw (fz l kp vp)])
 |_,_,_,_=>none
def zB(h:ab)(r:Option (TypeDesc×PV))(m k v:AV):Option (Prop×ab):=
 match m with
 |.mp id=>qO h id (aI h id) r k v
 |_=>none
omit [ak] in
@[simp] theorem WJ(h:ab)(r:Option (TypeDesc×PV))(id:Nat)(k v:AV):zB h r (.mp id) k v=qO h id (aI h id) r k v:=rfl
@[simp ↓] theorem WL{P:Program}{env:Env}{h:ab}{n:Nat}(t:TypeId)(x k:Operand)(c:Bool)(K:AV→ab→Nat→Prop):aZ P env h n (.lookup t x k c) K=aW (aOp P h n (ev env) (.lookup t x k c)) (eK h n K) .it:=rfl
@[simp ↓] theorem WM{P:Program}{env:Env}{h:ab}{n:Nat}(t:TypeId)(x k:Operand)(c:Bool)(K:AV→List (List AV)→Prop):aV P env h n (.lookup t x k c) K=aW (aOp P h n (ev env) (.lookup t x k c)) K .it:=rfl
@[simp ↓] theorem WN{P:Program}{env:Env}{h:ab}{n:Nat}(t:TypeId)(K:AV→ab→Nat→Prop):aZ P env h n (.makeMap t none) K=pM (some ((iJ P t).isSome=true,.mp n,(n,[dw []])::h,n+1)) K .it:=rfl
@[simp ↓] theorem WO{P:Program}{env:Env}{h:ab}{n:Nat}(t:TypeId)(m k v:Operand)(K:AV→ab→Nat→Prop):aZ P env h n (.mapUpdate t m k v) K=sM (zB h (iJ P t) (ev env m) (ev env k) (ev env v)) n K .it:=by
 show oE P env h n t m k v K=_;unfold oE zB qO
 cases ev env m with
 |mp id=>
  dsimp only
  cases (aI h id).bind bV<;>first
   |rfl
   |(cases ev env k<;>first
      |rfl
      |(cases ev env v<;>first
         |rfl
         |(cases iJ P t<;>rfl)))
 |_=>rfl
section
omit [ak]
@[simp] theorem WQ(a:Nat):nu (.mp a)=a:=rfl
@[simp] theorem WR(a:Nat)(D:List Nat):ua (.mp a) D=(a∈D):=rfl
@[simp] theorem WS(env:Env)(t:TypeId)(x k:Operand)(c:Bool)(D:List Nat):touch env (.lookup t x k c) D=True:=rfl
@[simp] theorem WT(env:Env)(t:TypeId)(m k v:Operand)(D:List Nat):touch env (.mapUpdate t m k v) D=ua (ev env m) D:=rfl
end
def nA(l:List ByteArray):List AV:=(l.map PV.str).map (AV.w false false)
omit [ak] in
@[simp] theorem WU:nA []=[]:=rfl
end Go.Fi
