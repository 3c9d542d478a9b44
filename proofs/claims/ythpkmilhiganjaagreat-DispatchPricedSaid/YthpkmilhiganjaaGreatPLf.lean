/- Lemmas. -/
import Derived.Test.YthpkmilhiganjaaGreatPLe
import Derived.ProofKit
import Derived.Carry
import Derived.ChangeSame
import Derived.ChangeArms
import Derived.OpenShut
set_option linter.unusedSimpArgs false
set_option linter.unusedVariables false
set_option linter.unusedSectionVars false
set_option maxHeartbeats 32000000
set_option maxRecDepth 100000
namespace Go.Fi
open Go Go.RowKit
variable[ar]
variable{fk:Fk}
def nM(D:List Nat):aj→aj
 |[]=>[]
 |(k,v)::r=>if k∈D then (k,v)::nM D r else nM D r
omit [ar] in
theorem tH{D:List Nat}:∀{h:aj}{id:Nat}{c:List AV},aV (nM D h) id=some c→(id,c)∈h∧id∈D
 |[],id,c,e=>by cases e
 |(k,v)::r,id,c,e=>by
  simp only[nM] at e;split at e
  ·rename_i hk;simp only[aV] at e;split at e
   ·rename_i h;subst h;injection e with e;subst e
    exact⟨List.mem_cons_self,hk⟩
   ·obtain⟨h1,h2⟩:=tH e;exact⟨List.mem_cons_of_mem _ h1,h2⟩
  ·obtain⟨h1,h2⟩:=tH e;exact⟨List.mem_cons_of_mem _ h1,h2⟩
def AvF(h:aj)(x y:AV):Prop:=
 match y with
 |.w own false p=>frz h 6 x=some p∧(own=true→db h 6 x=true)
 |_=>False
def uG(n n':Nat)(x y:AV):Prop:=
 match x,y with
 |.w _ true (.sl 0 []),.msl id 0 _ 0 0=>n≤id∧id<n'
 |_,_=>False
def lg(D:List Nat)(h:aj)(n n':Nat)(x y:AV):Prop:=(o6 x y∧y.lt n'=true)∨AvF (nM D h) x y∨uG n n' x y
def fD(D:List Nat)(h:aj)(n n':Nat):List AV→List AV→Prop
 |[],[]=>True
 |x::a,y::b=>lg D h n n' x y∧fD D h n n' a b
 |_,_=>False
def qQ(D:List Nat)(h:aj)(n n':Nat)(env:Env):Env→Prop
 |[]=>True
 |(t,v)::r=>lg D h n n' (get env t) v∧qQ D h n n' env r
def fY(D:List Nat)(h:aj)(n n':Nat)(i:Nat)(c:List AV):Prop:=
 match aV h i with
 |some c0=>i<n'∧¬i∈D∧fD D h n n' c0 c
 |none=>n≤i∧i<n'∧c=[]
def jG(D:List Nat)(h:aj)(n n':Nat):aj→Prop
 |[]=>True
 |(i,c)::r=>fY D h n n' i c∧aV r i=none∧jG D h n n' r
section
omit [ar]
theorem tI{D:List Nat}{h:aj}{n n':Nat}:∀{a b:List AV},fD D h n n' a b→a.length=b.length∧∀(j:Nat)(y:AV),b[j]?=some y→∃x,a[j]?=some x∧lg D h n n' x y
 |[],[],_=>⟨rfl,fun j y h=>by simp at h⟩
 |x::a,y::b,hc=>by
  obtain⟨h1,h2⟩:=hc;obtain⟨h3,h4⟩:=tI h2;refine⟨by simp[h3],fun j z hz=>?_⟩
  cases j with
  |zero=>simp at hz;subst hz;exact⟨x,rfl,h1⟩
  |succ j=>exact h4 j z (by simpa using hz)
 |[],_::_,hc=>hc.elim
 |_::_,[],hc=>hc.elim
theorem lJ{D:List Nat}{h:aj}{n n':Nat}(o f:Bool):∀l:List PV,fD D h n n' (l.map (.w o f)) (l.map (.w o f))
 |[]=>trivial
 |p::r=>⟨.inl ⟨⟨fun h=>h,fun h=>h,.inl rfl⟩,rfl⟩,lJ o f r⟩
theorem CZ{D:List Nat}{h:aj}{n n':Nat}:∀{env' env:Env},qQ D h n n' env env'→∀t,lg D h n n' (get env t) (get env' t)∨get env' t=.w false false .undef
 |[],env,_,t=>.inr rfl
 |(k,v)::r,env,hh,t=>by
  obtain⟨h1,h2⟩:=hh;simp only[get];split
  ·rename_i e;subst e;exact .inl h1
  ·exact CZ h2 t
theorem lK{D:List Nat}{h:aj}{n n':Nat}:∀{h':aj},jG D h n n' h'→∀i c,(i,c)∈h'→fY D h n n' i c
 |[],_,i,c,hin=>by cases hin
 |(k,v)::r,hh,i,c,hin=>by
  obtain⟨h1,h2,h3⟩:=hh
  rcases List.mem_cons.1 hin with e|e
  ·injection e with e1 e2;subst e1;subst e2;exact h1
  ·exact lK h3 i c e
theorem Da{D:List Nat}{h:aj}{n n':Nat}:∀{h':aj},jG D h n n' h'→h'.Pairwise fun p q=>p.1≠q.1
 |[],_=>List.Pairwise.nil
 |(k,v)::r,hh=>by
  obtain⟨h1,h2,h3⟩:=hh;exact List.pairwise_cons.2 ⟨fun q hq e=>xT h2 q hq e.symm,Da h3⟩
theorem Db{D:List Nat}{h:aj}{n n':Nat}{c0 c:List AV}(hc:fD D h n n' c0 c)(hm:gk c0=true):gk c=true∧∀l,cN c=some l→cN c0=some l:=by
 obtain⟨hl,hr⟩:=tI hc;have h1:=vr hm
 match c0,c,h1,hl with
 |[x],[y],_,_=>
  obtain⟨x',hx,hxy⟩:=hr 0 y rfl;simp at hx;subst hx
  cases x with
  |w o f p=>
   rcases hxy with ⟨h2,_⟩|h2|h2
   ·cases y with
    |w o' f' p'=>
     obtain⟨_,_,h3⟩:=h2
     rcases h3 with rfl|⟨rfl,_⟩
     ·refine⟨?_,fun l hl=>?_⟩
      ·cases p'<;>simp_all[gk]
      ·cases p'<;>simp_all[cN]
     ·exact⟨rfl,fun l hl=>by simp[cN] at hl⟩
    |_=>cases h2
   ·cases y with
    |w o' f' p'=>
     cases f' with
     |true=>cases h2
     |false=>
      obtain⟨h3,_⟩:=h2;simp only[frz,Option.some.injEq] at h3;subst h3;refine⟨?_,fun l hl=>?_⟩
      ·cases p<;>simp_all[gk]
      ·cases p<;>simp_all[cN]
    |_=>cases h2
   ·cases p<;>simp[gk] at hm<;>(unfold uG at h2;split at h2<;>first|exact h2.elim|simp_all)
  |_=>simp[gk] at hm
theorem oz{B:Base}{m:Mm}{w:World}{H h:aj}{G':Nat→Prop}{L:Nat→Prop}(hs:a9 B H m w)(hL:L=LB m H)(hlook:∀id cs,aV h id=some cs→(id,cs)∈H)(own:Bool)(hG1:∀id cs b C,aV h id=some cs→m.addr id cs.length=some (b,C)→B.n≤b→G' b)(hG2:∀b,Good B L own b→G' b)(hG3:own=true→∀b,Good B L true b→G' b):∀(d:Nat)(x:AV)(p:PV)(v:Value),frz h d x=some p→(own=true→db h d x=true)→au B L m w x v→Rep G' w p v
 |d,.w o f q,p,v,hf,hfr,hr=>by
  have:q=p:=by cases d<;>(simp[frz] at hf;exact hf)
  subst this
  cases hr with
  |w hr _=>
   cases hfv:own with
   |false=>exact hr.imp fun b hg=>hG2 b ⟨hg.1,(fun h=>by rw[hfv] at h;cases h),hg.2.2⟩
   |true=>
    have h1:=hfr hfv
    have h2:(o || flat q)=true:=by cases d<;>exact h1
    cases o with
    |true=>exact hr.imp fun b hg=>hG3 hfv b hg
    |false=>exact rG (by simpa using h2) hr
 |0,.ptr ..,_,_,hf,_,_=>by simp[frz] at hf
 |0,.msl ..,_,_,hf,_,_=>by simp[frz] at hf
 |0,.agg _,_,_,hf,_,_=>by simp[frz] at hf
 |0,.tup _,_,_,hf,_,_=>by simp[frz] at hf
 |0,.fn _ _,_,_,hf,_,_=>by simp[frz] at hf
 |0,.mp _,_,_,hf,_,_=>by simp[frz] at hf
 |_+1,.mp _,_,_,hf,_,_=>by simp[frz] at hf
 |d+1,.ptr id ver off,p,v,hf,hfr,hr=>by
  simp only[frz] at hf;split at hf
  ·rename_i cells hg;split at hf
   ·rename_i hver
    cases hm:cells.mapM (frz h d) with
    |none=>simp[hm] at hf
    |some r=>
     simp only[hm,Option.map_some,Option.some.injEq] at hf;subst hf;obtain⟨h1,h2⟩:=gw hm;obtain⟨b,C,rfl,hd,hvC,ha⟩:=hr.lT;rw[←hver] at ha hvC;obtain⟨cs,e,hh,hC,hle,hbB,hcell⟩:=hs.read (hlook id cells hg) hd ha hvC.2
     have:=Rep.ip (G:=G') (w:=w) (o:=off) (b:=b) (off:=0) (cells:=r) (fun j=>cs.getD j undef) (fun j hj=>by
      have:j<cs.size:=by omega
      rw[Nat.zero_add,jL hh];simp[this]) (fun _=>hG1 id cells b C hg ha hbB) (fun j q hq=>by
      obtain⟨x,hx,hxq⟩:=h2 j q hq
      have hj:j<cs.size:=by have:=(List.getElem?_eq_some_iff.1 hx).1;omega
      exact oz hs hL hlook own hG1 hG2 hG3 d x q _ hxq (fun e=>by have:=hfr e;simp only[db,hg] at this;exact jd this hx) (by rw[hL];exact hcell j x _ hx (by simp[hj])))
     rw[Nat.zero_add] at this;exact this
   ·cases hf
  ·cases hf
 |d+1,.msl id ver sz off k,p,v,hf,hfr,hr=>by
  simp only[frz] at hf;split at hf
  ·rename_i cells hg;split at hf
   ·rename_i hver
    cases hm:cells.mapM (frz h d) with
    |none=>simp[hm] at hf
    |some r=>
     simp only[hm,Option.map_some,Option.some.injEq,vq] at hf;subst hf;obtain⟨h1,h2⟩:=gw hm;obtain⟨a0,cap,rfl,hk,hd,_,h3,h4⟩:=hr.j3;rw[←hver] at h3 h4
     cases ha:m.addr id cells.length with
     |none=>
      obtain⟨rfl,h5⟩:=h3 ha;have hr0:r=[]:=List.eq_nil_of_length_eq_zero (by omega);subst hr0
      have:k=0:=by omega
      subst this
      cases a0 with
      |none=>simpa using Rep.slnil
      |some a1=>simpa using Rep.slz (Nat.le_refl _)
     |some bc=>
      obtain⟨b,C⟩:=bc;obtain⟨h5,h6,h7⟩:=h4 b C ha;obtain⟨cs,e,hh,hC,hle,hbB,hcell⟩:=hs.read (hlook id cells hg) hd ha (by omega)
      cases hL2:(r.drop off).take (k*sz) with
      |nil=>
       cases a0 with
       |none=>
        have hcap:cap=0:=by
         rcases Nat.eq_zero_or_pos cap with h|h
         ·exact h
         ·cases h5 h
        subst hcap
        have:k=0:=by omega
        subst this;exact .slnil
       |some a1=>exact .slz hk
      |cons y ys=>
       have hcap:0<cap:=by
        rcases Nat.eq_zero_or_pos cap with h|h
        ·have:k=0:=by omega
         rw[this] at hL2;simp at hL2
        ·exact h
       rw[h5 hcap,←hL2]
       have hlt:∀j,j<((r.drop off).take (k*sz)).length→off+j<cs.size∧j<k*sz:=by
        intro j hj;simp only[List.length_take,List.length_drop] at hj;omega
       refine .sl (fun j=>cs.getD (off+j) undef) hk (fun j hj=>?_) (fun _=>hG1 id cells b C hg ha hbB) (fun j q hq=>?_)
       ·rw[jL hh];simp[(hlt j hj).1]
       ·have hj:=(List.getElem?_eq_some_iff.1 hq).1;rw[List.getElem?_take,if_pos (hlt j hj).2,List.getElem?_drop] at hq;obtain⟨x,hx,hxq⟩:=h2 (off+j) q hq;exact oz hs hL hlook own hG1 hG2 hG3 d x q _ hxq (fun e=>by have:=hfr e;simp only[db,hg] at this;exact jd this hx) (by rw[hL];exact hcell (off+j) x _ hx (by simp[(hlt j hj).1]))
   ·cases hf
  ·cases hf
 |d+1,.agg cs,p,v,hf,hfr,hr=>by
  simp only[frz] at hf
  cases hm:cs.mapM (frz h d) with
  |none=>simp[hm] at hf
  |some r=>
   simp only[hm,Option.map_some,Option.some.injEq] at hf;subst hf;obtain⟨h1,h2⟩:=gw hm
   cases hr with
   |agg hl hcell=>exact .agg (by omega) (fun j q u hq hu=>by
     obtain⟨x,hx,hxq⟩:=h2 j q hq
     exact oz hs hL hlook own hG1 hG2 hG3 d x q u hxq (fun e=>by have:=hfr e;simp only[db] at this;exact jd this hx) (hcell j x u hx hu))
 |d+1,.tup cs,p,v,hf,hfr,hr=>by
  simp only[frz] at hf
  cases hm:cs.mapM (frz h d) with
  |none=>simp[hm] at hf
  |some r=>
   simp only[hm,Option.map_some,Option.some.injEq] at hf;subst hf;obtain⟨h1,h2⟩:=gw hm
   cases hr with
   |tup hl hcell=>exact .tup (by omega) (fun j q u hq hu=>by
     obtain⟨x,hx,hxq⟩:=h2 j q hq
     exact oz hs hL hlook own hG1 hG2 hG3 d x q u hxq (fun e=>by have:=hfr e;simp only[db] at this;exact jd this hx) (hcell j x u hx hu))
 |d+1,.fn f cs,p,v,hf,hfr,hr=>by
  simp only[frz] at hf
  cases hm:cs.mapM (frz h d) with
  |none=>simp[hm] at hf
  |some r=>
   simp only[hm,Option.map_some,Option.some.injEq] at hf;subst hf;obtain⟨h1,h2⟩:=gw hm
   cases hr with
   |fn hl hcell=>exact .fn (by omega) (fun j q u hq hu=>by
     obtain⟨x,hx,hxq⟩:=h2 j q hq
     exact oz hs hL hlook own hG1 hG2 hG3 d x q u hxq (fun e=>by have:=hfr e;simp only[db] at this;exact jd this hx) (hcell j x u hx hu))
end
def Mm.cut(m:Mm)(n n':Nat):Mm:=⟨fun id ver=>if n≤id then none else m.addr id ver,fun id=>if n≤id then 0 else m.top id,fun i=>i<n'⟩
omit [ar] in
theorem au.cut{B:Base}{L L':Nat→Prop}{m:Mm}{w:World}{x:AV}{v:Value}(h:au B L m w x v){n n':Nat}(hn:∀i,m.dom i→i<n)(hl:x.lt n'=true)(hL:∀b,L' b→L b):au B L' (m.cut n n') w x v:=by
 induction h with
 |w hr hf=>exact .w (hr.imp fun b hg=>⟨fun hb=>hg.1 (hL b hb),hg.2⟩) hf
 |ptr hd ht ha hC=>
  have:=hn _ hd;exact .ptr (by simpa[AV.lt,Mm.cut] using hl) (by simp only[Mm.cut];rw[if_neg (by omega)];exact ht) (by simp only[Mm.cut];rw[if_neg (by omega)];exact ha) hC
 |mp hd ht ha=>
  have:=hn _ hd;exact .mp (by simpa[AV.lt,Mm.cut] using hl) (by simp only[Mm.cut];rw[if_neg (by omega)];exact ht) (by simp only[Mm.cut];rw[if_neg (by omega)];exact ha)
 |msl hd ht hk h0 h1=>
  have:=hn _ hd;exact .msl (by simpa[AV.lt,Mm.cut] using hl) (by simp only[Mm.cut];rw[if_neg (by omega)];exact ht) hk (by simp only[Mm.cut];rw[if_neg (by omega)];exact h0) (by simp only[Mm.cut];rw[if_neg (by omega)];exact h1)
 |agg hlen _ ih=>exact .agg hlen (fun j p v hp hv=>ih j p v hp hv (ll (by simpa[AV.lt] using hl) j p hp))
 |tup hlen _ ih=>exact .tup hlen (fun j p v hp hv=>ih j p v hp hv (ll (by simpa[AV.lt] using hl) j p hp))
 |fn hlen _ ih=>exact .fn hlen (fun j p v hp hv=>ih j p v hp hv (ll (by simpa[AV.lt] using hl) j p hp))
theorem Dc(D:List Nat){env env':Env}{h h':aj}{n n' nt:Nat}(h1:qQ D h n n' env env')(h2:jG D h n n' h')(hk:fk.k≤n'){B:Base}{w0:Ctx fk}{a:Act}{w:World}{m:Mm}(hs:Sim B w0 ⟨env,h,n,nt⟩ a w m):∃m',Sim B w0 ⟨env',h',n',nt⟩ a w m'∧∀x y v,lg D h n n' x y→au B (LB m h) m w x v→au B (LB m' h') m' w y v:=by
 have hdn:∀i,m.dom i→i<n:=fun i hd=>(hs.dom i).1 hd
 have hkey:∀{i:Nat}{c c':List AV},(i,c)∈h→(i,c')∈h→c=c':=fun h1 h2=>hs.heap.key h1 h2
 have hold:∀i c c0,(i,c)∈h'→aV h i=some c0→c0.length=c.length:=fun i c c0 hin hg=>by
  have:=lK h2 i c hin;simp only[fY,hg] at this;exact (tI this.2.2).1
 have hL:∀b,LB (m.cut n n') h' b→LB m h b:=by
  rintro b ⟨id,c,C,hin,_,ha⟩
  have he:=lK h2 id c hin
  cases hg:aV h id with
  |none=>simp only[fY,hg] at he;simp only[Mm.cut] at ha;rw[if_pos he.1] at ha;cases ha
  |some c0=>
   have hm:=dC hg;have hid:=hs.ids id c0 hm;simp only at hid;simp only[Mm.cut] at ha;rw[if_neg (by omega),←hold id c c0 hin hg] at ha;exact⟨id,c0,C,hm,(hs.dom id).2 hid,ha⟩
 have hLD:∀id cs b C,aV (nM D h) id=some cs→m.addr id cs.length=some (b,C)→¬LB (m.cut n n') h' b:=by
  rintro id cs b C hg ha ⟨id2,c2,C2,hin2,_,ha2⟩
  obtain⟨hm,hD⟩:=tH hg;have he:=lK h2 id2 c2 hin2
  cases hg2:aV h id2 with
  |none=>simp only[fY,hg2] at he;simp only[Mm.cut] at ha2;rw[if_pos he.1] at ha2;cases ha2
  |some c0=>
   have hm2:=dC hg2;have hid2:=hs.ids id2 c0 hm2;have hid:=hs.ids id cs hm;simp only at hid hid2;simp only[Mm.cut] at ha2;rw[if_neg (by omega),←hold id2 c2 c0 hin2 hg2] at ha2;simp only[fY,hg2] at he
   have hne:id≠id2:=fun e=>he.2.1 (e▸hD)
   have cM:=hs.heap.inj;rw[List.pairwise_iff_getElem] at cM;obtain⟨p,hp,ep⟩:=List.getElem_of_mem hm;obtain⟨q,hq,eq⟩:=List.getElem_of_mem hm2
   rcases Nat.lt_trichotomy p q with hpq|hpq|hpq
   ·have:=(cM p q hp hq hpq).2 b C C2;rw[ep,eq] at this;exact this ((hs.dom _).2 hid) ((hs.dom _).2 hid2) ha ha2
   ·subst hpq;rw[ep] at eq
    injection eq with e1 _
    exact hne e1
   ·have:=(cM q p hq hp hpq).2 b C2 C;rw[ep,eq] at this;exact this ((hs.dom _).2 hid2) ((hs.dom _).2 hid) ha2 ha
 have hcell:∀x y v,lg D h n n' x y→au B (LB m h) m w x v→au B (LB (m.cut n n') h') (m.cut n n') w y v:=by
  intro x y v hc hr
  rcases hc with ⟨g1,g2⟩|g|g
  ·exact (CC g1 hr).cut hdn g2 hL
  ·unfold AvF at g;split at g
   ·rename_i own p
    refine .w (oz hs.heap rfl (fun id cs e=>(tH e).1) own (fun id cs b C hg ha hb=>⟨hLD id cs b C hg ha,fun _=>hb,fun h=>by omega⟩)
     (fun b hg=>⟨fun hl=>hg.1 (hL b hl),hg.2⟩) (fun ho b hg=>⟨fun hl=>hg.1 (hL b hl),fun _=>hg.2.1 rfl,hg.2.2⟩) 6 x p v g.1 g.2 hr) (fun h=>by cases h)
   ·exact g.elim
  ·unfold uG at g;split at g
   ·rename_i o id sz;obtain⟨a0,cap,hv,_,hf,_,_⟩:=hr.j1;rw[hv];have hc:=hf rfl;subst hc;exact .msl g.2 (by simp only[Mm.cut];rw[if_pos g.1];exact Nat.le_refl _) (Nat.le_refl _) (fun _=>⟨rfl,rfl⟩) (fun b C e=>by simp only[Mm.cut] at e;rw[if_pos g.1] at e;cases e)
   ·exact g.elim
 refine⟨m.cut n n',⟨hs.base,hs.below,hs.defers,hs.size,fun t=>?_,⟨fun id c hin hd=>?_,?_⟩,fun i=>Iff.rfl,fun id c hin=>?_,hk,fun p hp=>⟨(hs.fr.2.1 p hp).1,(hs.fr.2.1 p hp).2.cut hdn (AV.oI hk (hs.fr.2.1 p hp).1) hL⟩,fun q hq=>let ⟨o1,o2,o3,o4⟩:=hs.fr.2.2 q hq;⟨o1,o2,fun h=>o3 (hL _ h),o4⟩⟩,hcell⟩
 ·show au _ _ _ _ (get env' t) _
  rcases CZ h1 t with g1|g1
  ·exact hcell _ _ _ g1 (hs.env t)
  ·rw[g1];exact .w (.undef _) (fun e=>by cases e)
 ·have he:=lK h2 id c hin
  cases hg:aV h id with
  |none=>
   simp only[fY,hg] at he;obtain⟨e1,_,rfl⟩:=he;exact⟨by simp only[Mm.cut];rw[if_pos e1];rfl,.inl ⟨by simp only[Mm.cut];rw[if_pos e1],rfl⟩⟩
  |some c0=>
   have hm:=dC hg;have hid:=hs.ids id c0 hm;simp only at hid;have hlen:=hold id c c0 hin hg;simp only[fY,hg] at he;obtain⟨ht,hen⟩:=hs.heap.entry id c0 hm ((hs.dom id).2 hid);refine⟨by simp only[Mm.cut];rw[if_neg (by omega),ht,hlen],?_⟩
   rcases hen with ⟨g1,g2⟩|⟨b,C,cs,e,e1,e2,e3,e4,e5,e6⟩|⟨b,es,clk,e1,e2,e3,e4,e5⟩
   ·refine .inl ⟨by simp only[Mm.cut];rw[if_neg (by omega),←hlen];exact g1,?_⟩;subst g2;exact List.eq_nil_of_length_eq_zero hlen.symm
   ·refine .inr (.inl ⟨b,C,cs,e,by simp only[Mm.cut];rw[if_neg (by omega),←hlen];exact e1,e2,e3,by omega,e5,fun j p v hp hv=>?_⟩);obtain⟨x,hx,hxc⟩:=(tI he.2.2).2 j p hp;exact hcell x p v hxc (e6 j x v hx hv)
   ·exact .inr (.inr ⟨b,es,clk,by simp only[Mm.cut];rw[if_neg (by omega),←hlen];exact e1,(Db he.2.2 e2).1,e3,e4,fun l hl=>e5 l ((Db he.2.2 e2).2 l hl)⟩)
 ·have hk:=Da h2;refine List.Pairwise.imp_of_mem ?_ hk;intro x y hx hy hne;refine⟨hne,fun b C C' _ _ hax hay=>?_⟩;have ex:=lK h2 x.1 x.2 hx;have ey:=lK h2 y.1 y.2 hy
  cases hgx:aV h x.1 with
  |none=>simp only[fY,hgx] at ex;simp only[Mm.cut] at hax;rw[if_pos ex.1] at hax;cases hax
  |some cx=>
   cases hgy:aV h y.1 with
   |none=>simp only[fY,hgy] at ey;simp only[Mm.cut] at hay;rw[if_pos ey.1] at hay;cases hay
   |some cy=>
    have mx:=dC hgx;have my:=dC hgy;have ix:=hs.ids _ _ mx;have iy:=hs.ids _ _ my;simp only at ix iy;simp only[Mm.cut] at hax hay;rw[if_neg (by omega),←hold x.1 x.2 cx hx hgx] at hax;rw[if_neg (by omega),←hold y.1 y.2 cy hy hgy] at hay;have:=hs.heap.inj;rw[List.pairwise_iff_getElem] at this;obtain⟨p,hp,ep⟩:=List.getElem_of_mem mx;obtain⟨q,hq,eq⟩:=List.getElem_of_mem my;have dx:m.dom x.1:=(hs.dom _).2 ix;have dy:m.dom y.1:=(hs.dom _).2 iy
    rcases Nat.lt_trichotomy p q with hpq|hpq|hpq
    ·have:=(this p q hp hq hpq).2 b C C';rw[ep,eq] at this;exact this dx dy hax hay
    ·subst hpq;rw[ep] at eq
     injection eq with e1 _
     exact hne e1
    ·have:=(this q p hq hp hpq).2 b C' C;rw[ep,eq] at this;exact this dy dx hay hax
 ·have he:=lK h2 id c hin;show id<n'
  cases hg:aV h id with
  |none=>simp only[fY,hg] at he;exact he.2.1
  |some c0=>simp only[fY,hg] at he;exact he.1
theorem aO(D:List Nat){env env':Env}{h h':aj}{n n' nt:Nat}(h1:qQ D h n n' env env')(h2:jG D h n n' h')(hk:fk.k≤n':=by first|exact Nat.zero_le _|omega|(simp;done)):Lek fk ⟨env,h,n,nt⟩ ⟨env',h',n',nt⟩:=by
 intro B w0 a w m hs;obtain⟨m',hs',_⟩:=Dc D h1 h2 hk hs;exact⟨m',hs'⟩
attribute [simp] AvF uG lg fD qQ fY jG nM
section
omit [ar]
@[simp] theorem Kh(h:aj)(d:Nat)(o f:Bool)(p:PV):db h d (.w o f p)=(o || flat p):=by cases d<;>rfl
@[simp high] theorem tJ(h:aj)(d:Nat)(o f:Bool):∀l:List PV,(l.map (AV.w o f)).mapM (frz h d)=some l
 |[]=>rfl
 |p::r=>by simp[List.mapM_cons,tJ h d o f r]
@[simp high] theorem Vu(h:aj)(d:Nat)(f:Bool):∀l:List PV,(l.map (AV.w true f)).all (db h d)=true
 |[]=>rfl
 |p::r=>by simp
@[simp high] theorem qe(h:aj)(d:Nat)(o f:Bool):∀l:List PV,dE l=true→(l.map (AV.w o f)).all (db h d)=true
 |[],_=>rfl
 |p::r,hl=>by
  simp only[dE,Bool.and_eq_true] at hl;simp only[List.map_cons,List.all_cons,Kh,hl.1,Bool.or_true,Bool.true_and];exact qe h d o f r hl.2
end
def o9:PV→Bool
 |.undef=>false
 |.tup _=>false
 |.agg _=>false
 |_=>true
omit [ar] in
@[simp] theorem qg(o f:Bool):∀l:List PV,l.all o9=true→bV (l.map (AV.w o f))=true
 |[],_=>rfl
 |p::r,hl=>by
  simp only[List.all_cons,Bool.and_eq_true] at hl;simp only[List.map_cons,bV,qg o f r hl.2,Bool.and_true]
  cases p<;>first|rfl|(simp[o9] at hl)
omit [ar] in
@[simp] theorem mZ(n:Nat)(o f:Bool):∀l:List PV,AV.lt.ltL n (l.map (AV.w o f))=true
 |[]=>rfl
 |p::r=>by simp[AV.lt.ltL,AV.lt,mZ n o f r]
theorem cC{P:Program}{K:Exit→St→Prop}{c:Code}{id:Nat}{env:Env}{h:aj}{n nt:Nat}{α β:Type}(n':Nat)(J:α→Prop)(ks:List Nat)(mods:α→Env)(hks:List Nat)(hm:α→aj)(μ:α→Nat)(F:β→Prop)(fks:List Nat)(fmods:β→Env)(fhks:List Nat)(fhm:β→aj)(x0:α)(hJ:J x0)(h0:Lek fk ⟨env,h,n,nt⟩ ⟨mods x0++dN env ks,hm x0++fC h hks,n',nt⟩)(round:∀x,J x→aY fk P c ⟨mods x++dN env ks,hm x++fC h hks,n',nt⟩ (iq fk J (fun x=>⟨mods x++dN env ks,hm x++fC h hks,n',nt⟩) μ x (k9 fk id F (fun y=>⟨fmods y++dN env fks,fhm y++fC h fhks,n',nt⟩) K)))(after:∀y,F y→K .normal ⟨fmods y++dN env fks,fhm y++fC h fhks,n',nt⟩):aY fk P (.block id (.loop c)) ⟨env,h,n,nt⟩ K:=by
 refine dV (CL (vV J (fun x=>⟨mods x++dN env ks,hm x++fC h hks,n',nt⟩) μ x0 hJ h0 round) (fun e s hk=>?_))
 cases e<;>first
  |exact hk.elim
  |exact⟨s,Lek.refl s,hk⟩
  |(simp only[k9] at hk
    simp only[fw];split at hk
    ·rename_i hid;obtain⟨y,hy,hle⟩:=hk;exact⟨_,hle,by rw[if_pos hid];exact after y hy⟩
    ·rename_i hid
     exact⟨s,Lek.refl s,by rw[if_neg hid];exact hk⟩)
section
omit [ar]
@[simp] theorem Vv(z:List AV):fp 1 z=z:=by simp[fp]
@[simp] theorem Vw(z:List AV):fp 2 z=z++z:=by simp[fp,List.replicate_succ]
@[simp] theorem Ki{D:List Nat}{h:aj}{n n':Nat}{x y:List AV}:∀a:List AV,fD D h n n' (a++x) (a++y)=(fD D h n n' a a∧fD D h n n' x y)
 |[]=>propext ⟨fun h=>⟨trivial,h⟩,fun h=>h.2⟩
 |z::a=>by
  simp only[List.cons_append,fD,Ki a,and_assoc]
end
end Go.Fi
namespace Go.Fi
open Go Go.RowKit Go.ChangeShapes Go.WideShapes
variable[ar]
def Match(w:World)(ps:List PV)(cs:List Value):Prop:=ps.length=cs.length∧∀(j:Nat)(p:PV)(v:Value),ps[j]?=some p→cs[j]?=some v→Rep (fun _=>True) w p v
omit [ar] in
theorem Match.append{w:World}{a b:List PV}{x y:List Value}(h1:Match w a x)(h2:Match w b y):Match w (a++b) (x++y):=by
 refine⟨by rw[List.length_append,List.length_append,h1.1,h2.1],fun j p v hp hv=>?_⟩;by_cases hj:j<a.length
 ·rw[List.getElem?_append_left hj] at hp;rw[List.getElem?_append_left (by rw[←h1.1];exact hj)] at hv;exact h1.2 j p v hp hv
 ·have hj:a.length≤j:=by omega
  rw[List.getElem?_append_right hj] at hp;rw[List.getElem?_append_right (by rw[←h1.1];exact hj),←h1.1] at hv;exact h2.2 _ p v hp hv
omit [ar] in
theorem Match.one{w:World}{p:PV}{v:Value}(h:Rep (fun _=>True) w p v):Match w [p] [v]:=by
 refine⟨rfl,fun j q u hq hu=>?_⟩
 cases j with
 |zero=>simp at hq hu;subst hq;subst hu;exact h
 |succ j=>simp at hq
def Reads(P:Program)(t:TypeId){α:Type}(c:α→List PV):Prop:=
 ∀(H:Type)(enc:TypeId×Value→H)(w:World)(held:Bool)(fuel:Nat)(cs:List Value)(x:DataW H×List MemPlace),DataW.trod enc P w 0 (fun _=>true) held fuel t cs=some x→∃y:α,Match w (c y) cs
def uQ(P:Program)(fs:List Field)(off:Nat){α:Type}(c:α→List PV)(s:Nat):Prop:=
 ∀(H:Type)(enc:TypeId×Value→H)(w:World)(held:Bool)(n:Nat)(cs:List Value),(∀f∈fs,∃x:DataW H×List MemPlace,DataW.trod enc P w 0 (fun _=>true) held n f.type ((cs.drop f.offset).take (P.cellsOf f.type))=some x) →
  ∃y:α,Match w (c y) ((cs.drop off).take s)
section
variable{P:Program}{t e:TypeId}
section
omit [ar]
theorem LA{k:IntKind}(ht:P.underlying t=some (.int k)):Reads P t (fun n:Int=>[.int k n]):=by
 intro H enc w held fuel cs x h;obtain⟨n,rfl,_,_⟩:=DataW.trod_int ht h;exact⟨n,Match.one (.int _ _)⟩
theorem LF(ht:P.underlying t=some .string):Reads P t (fun s:ByteArray=>[.str s]):=by
 intro H enc w held fuel cs x h;obtain⟨n,rfl,_,_⟩:=DataW.trod_string ht h;exact⟨n,Match.one (.str _)⟩
theorem LG(ht:P.underlying t=some .bool):Reads P t (fun b:Bool=>[.bool b]):=by
 intro H enc w held fuel cs x h;obtain⟨n,rfl,_⟩:=DataW.trod_bool ht h;exact⟨n,Match.one (.bool _)⟩
theorem tU{α β:Type}{c:α→List PV}{c':β→List PV}(f:α→β)(hc:∀y,c y=c' (f y))(h:Reads P t c):Reads P t c':=by
 intro H enc w held fuel cs x hx;obtain⟨y,hy⟩:=h H enc w held fuel cs x hx;exact⟨f y,by rw[←hc];exact hy⟩
theorem tV{off:Nat}:uQ P [] off (fun _:Unit=>[]) 0:=by
 intro H enc w held n cs _;exact⟨(),by simp[Match]⟩
theorem gD{f:Field}{fs:List Field}{off s S:Nat}{α β:Type}{c:α→List PV}{c':β→List PV}(ho:f.offset=off)(hs:P.cellsOf f.type=s)(h:Reads P f.type c)(hr:uQ P fs (off+s) c' S):uQ P (f::fs) off (fun y:α×β=>c y.1++c' y.2) (s+S):=by
 intro H enc w held n cs hall;obtain⟨x,hx⟩:=hall f List.mem_cons_self;rw[ho,hs] at hx;obtain⟨y,hy⟩:=h H enc w held n _ x hx;obtain⟨z,hz⟩:=hr H enc w held n cs (fun g hg=>hall g (List.mem_cons_of_mem _ hg));refine⟨(y,z),?_⟩;rw[List.take_add,List.drop_drop];exact hy.append hz
theorem tW{fs:Array Field}{s:Nat}{α:Type}{c:α→List PV}(ht:P.underlying t=some (.struct fs))(hs:P.cellsOf t=s)(h:uQ P fs.toList 0 c s):Reads P t c:=by
 intro H enc w held fuel cs x hx;obtain⟨xs,n,_,_,hl,hxl,hf⟩:=DataW.trod_struct ht hx
 obtain⟨y,hy⟩:=h H enc w held n cs (fun f hin=>by
  obtain⟨i,hi⟩:=List.mem_iff_getElem?.1 hin;rw[Array.getElem?_toList] at hi
  have hlt:i<xs.length:=by rw[hxl];exact (Array.getElem?_eq_some_iff.1 hi).1
  exact⟨xs[i],by rw[hf i f hi];exact List.getElem?_eq_getElem hlt⟩)
 refine⟨y,?_⟩
 rwa [List.drop_zero,List.take_of_length_le (by omega)] at hy
theorem tn{α:Type}{c:α→List PV}{s:Nat}(hl:∀x,(c x).length=s)(hs:0<s)(l:List α)(j:Nat)(hj:j<l.length*s):∃x,l[j / s]?=some x∧(l.flatMap c)[j]?=(c x)[j%s]?:=by
 induction l generalizing j with
 |nil=>simp at hj
 |cons a l ih=>
  simp only[List.flatMap_cons];by_cases h:j<s
  ·refine⟨a,by rw[Nat.div_eq_of_lt h];rfl,?_⟩;rw[List.getElem?_append_left (by rw[hl];exact h),Nat.mod_eq_of_lt h]
  ·have h:s≤j:=by omega
   rw[List.length_cons,Nat.add_mul] at hj;obtain⟨x,h1,h2⟩:=ih (j-s) (by omega);refine⟨x,?_,?_⟩
   ·rw[Nat.div_eq_sub_div hs h,List.getElem?_cons_succ];exact h1
   ·rw[List.getElem?_append_right (by rw[hl];exact h),hl,h2,Nat.mod_eq_sub_mod h]
theorem qw{s:Nat}{α:Type}{c:α→List PV}(ht:P.underlying t=some (.slice e))(hs:P.cellsOf e=s)(hpos:0<s)(hl:∀x,(c x).length=s)(h:Reads P e c):Reads P t (fun l:List α=>[.sl l.length (l.flatMap c)]):=by
 intro H enc w held fuel cs x hx
 rcases DataW.trod_slice ht hx with h0|⟨a,len,cap,elems,rest,n,_,rfl,_,_,hle,_,hlen,hel,_,_⟩
 ·rw[h0.1];exact⟨[],Match.one .slnil⟩
 ·have each:∀i,i<len→∃y:α,Match w (c y) ((List.range s).map fun j=>(w.cell? ((a.add (i*s)).add j)).getD undef)∧∀j,j<s→∃v,w.cell? ((a.add (i*s)).add j)=some v:=by
   intro i hi;have h1:=hel i hi;rw[hs,List.getElem?_eq_getElem (by omega)] at h1;obtain⟨cs',hcs,hy⟩:=Option.bind_eq_some_iff.1 h1;obtain⟨y,hy⟩:=h H enc w held n cs' _ hy;obtain⟨_,hcl,hcell⟩:=World.cells?_some hcs;refine⟨y,?_,fun j hj=>⟨cs'[j]'(by omega),by rw[hcell j (by omega)];exact List.getElem?_eq_getElem _⟩⟩
   have e:(List.range s).map (fun j=>(w.cell? ((a.add (i*s)).add j)).getD undef)=cs':=by
    apply List.ext_getElem
    ·simp[hcl]
    ·intro j h1 h2
     have h3:j<s:=by simpa using h1
     simp only[List.getElem_map,List.getElem_range];rw[hcell j (by omega),List.getElem?_eq_getElem h2];rfl
   rw[e];exact hy
  have hall:∃l:List α,l.length=len∧∀i y,l[i]?=some y→Match w (c y) ((List.range s).map fun j=>(w.cell? ((a.add (i*s)).add j)).getD undef):=by
   have:∀m,m≤len→∃l:List α,l.length=m∧∀i y,l[i]?=some y→Match w (c y) ((List.range s).map fun j=>(w.cell? ((a.add (i*s)).add j)).getD undef):=by
    intro m
    induction m with
    |zero=>intro _;exact⟨[],rfl,fun i y hy=>by simp at hy⟩
    |succ m ih=>
     intro hm;obtain⟨l,hl1,hl2⟩:=ih (by omega);obtain⟨y,hy,_⟩:=each m (by omega);refine⟨l++[y],by simp[hl1],fun i z hz=>?_⟩;by_cases hi:i<m
     ·rw[List.getElem?_append_left (by omega)] at hz;exact hl2 i z hz
     ·have:i=m:=by
       have:=(List.getElem?_eq_some_iff.1 hz).1;simp[hl1] at this;omega
      subst this;rw[List.getElem?_append_right (by omega),hl1] at hz;simp at hz;subst hz;exact hy
   exact this len (Nat.le_refl _)
  obtain⟨l,hl1,hl2⟩:=hall;refine⟨l,Match.one ?_⟩;rw[hl1]
  cases hc0:l.flatMap c with
  |nil=>exact .slz hle
  |cons p ps=>
   rw[←hc0]
   have hflen:(l.flatMap c).length=len*s:=by rw[pY c s hl,hl1]
   have hlen0:0<len:=by
    rcases Nat.eq_zero_or_pos len with h|h
    ·rw[h,Nat.zero_mul] at hflen;rw[hc0] at hflen;simp at hflen
    ·exact h
   obtain⟨_,_,hex⟩:=each 0 hlen0;obtain⟨v0,hv0⟩:=hex 0 hpos
   have hspot:a=⟨a.block,a.off,none⟩:=by
    obtain⟨b,o,sp⟩:=a
    cases sp with
    |none=>rfl
    |some sp=>
     simp only[World.cell?,Addr.add] at hv0
     split at hv0<;>simp_all
   have hadd:∀i j,(a.add (i*s)).add j=⟨a.block,a.off+(i*s+j),none⟩:=by
    intro i j;rw[hspot,Addr.fN,Addr.fN];simp[Nat.add_assoc]
   rw[hspot]
   have hdm:∀j,j / s*s+j%s=j:=fun j=>by rw[Nat.mul_comm];exact Nat.div_add_mod j s
   have hji:∀j,j<len*s→j / s<len:=fun j hj=>Nat.div_lt_of_lt_mul (by rw[Nat.mul_comm];exact hj)
   refine .sl (fun j=>(w.cell? ⟨a.block,a.off+j,none⟩).getD undef) hle (fun j hj=>?_) (fun _=>trivial) (fun j q hq=>?_)
   ·rw[hflen] at hj;obtain⟨_,_,hex⟩:=each (j / s) (hji j hj);obtain⟨v,hv⟩:=hex (j%s) (Nat.mod_lt _ hpos);rw[hadd,hdm] at hv;show _=some ((w.cell? ⟨a.block,a.off+j,none⟩).getD undef);rw[hv];rfl
   ·have hj:j<len*s:=by rw[←hflen];exact (List.getElem?_eq_some_iff.1 hq).1
    obtain⟨y,hy1,hy2⟩:=tn hl hpos l j (by rw[hl1];exact hj);rw[hy2] at hq
    have hm:=(hl2 (j / s) y hy1).2 (j%s) q ((w.cell? ((a.add (j / s*s)).add (j%s))).getD undef) hq (by
     rw[List.getElem?_map,List.getElem?_range (Nat.mod_lt _ hpos)];rfl)
    rw[hadd,hdm] at hm;exact hm
end
end
section
variable{H:Type}{enc:TypeId×Value→H}{P:Program}
section
omit [ar]
theorem LH{f:Func}{s:ChangeSpec}{apart fresh handsOn again:Bool}{W W':World}{args:Array Value}{v:Value}{ds gs:List (DataW H)}{before pa pv:List MemPlace}(hW:DataW.Whole enc P f.params.toList s.vars apart W args.toList ds gs before)(hres:∀(b:Nat)(sp:Nat→Bool)(hd:Bool),DataW.TrodAll enc P W' b sp hd f.resultTypes.toList (v.resultList f.resultTypes.size) (s.fn H (ds++gs)).results [])(hargs:∀sp:Nat→Bool,(∀p∈before,sp p.block=true)→DataW.TrodAll enc P W' 0 sp true f.params.toList args.toList (s.fn H (ds++gs)).args pa)(hvars:∀sp:Nat→Bool,(∀p∈before,sp p.block=true)→DataW.TrodVars enc P W' sp s.vars (s.fn H (ds++gs)).vars pv)(hps:before=pa++pv)(hb:Bel W.heap.size W W')(hok:∀(j:Nat)(t:TypeId)(r:Value),f.resultTypes[j]?=some t→(v.resultList f.resultTypes.size)[j]?=some r→Value.okWide P W' .any 0 t r):s.post enc P f apart fresh handsOn again W args v W':=by
 have hlt:∀p∈before,p.block<W.heap.size:=fun p hp=>hW.lt p hp
 have hold:∀p∈before,(fun b=>decide (b<W.heap.size)) p.block=true:=fun p hp=>by simpa using hlt p hp
 refine⟨ds,gs,before,[],pa,pv,hW,hres _ _ _,hargs _ hold,hvars _ hold,World.keptBut_mono (fun p hp=>⟨hp,?_⟩) (hb.frame (·∈before)),fun _=>?_⟩
 ·rw[hps,List.mem_append] at hp;exact Or.inr hp
 ·obtain⟨_,_,_,_,_,hz,hn⟩:=hW;refine⟨hok,_,_,([]++pa)++pv,⟨[]++pa,pv,trodAll_append (hargs _ (fun _ _=>rfl)) (hres _ _ _),hvars _ (fun _ _=>rfl),rfl,?_,?_⟩,?_⟩
  ·intro b off hp
   have hin:MemPlace.cell b off∈before:=by rw[hps];simpa using hp
   rw[hb.frozen (hlt _ hin)];exact hz b off hin
  ·intro ha;have:=hn ha;rw[hps] at this;simpa using this
  ·intro p hp _;rw[hps];simpa using hp
theorem Eg(hl:laidOutB P=true){W W':World}(hb:Bel W.heap.size W W'){sp:Nat→Bool}:∀{ts:List TypeId}{vs:List Value}{ds:List (DataW H)}{ps:List MemPlace},(∀t∈ts,P.readableRec t=true∧t<P.types.size)→DataW.TrodAll enc P W 0 (fun _=>true) true ts vs ds ps→(∀x∈ps,x.block<W.heap.size)→(∀x∈ps,sp x.block=true)→DataW.TrodAll enc P W' 0 sp true ts vs ds ps
 |[],[],[],_,_,h,_,_=>h
 |t::ts,v::vs,d::ds,ps,hr,h,hlt,hsp=>by
  obtain⟨p,q,h1,h2,rfl⟩:=h;refine⟨p,q,?_,Eg hl hb (fun t ht=>hr t (List.mem_cons_of_mem _ ht)) h2 (fun x hx=>hlt x (List.mem_append_right _ hx)) (fun x hx=>hsp x (List.mem_append_right _ hx)),rfl⟩;obtain⟨r1,r2⟩:=hr t List.mem_cons_self;exact WideElems.Trod_stays hl r1 r2 h1 (fun x hx=>hb.same (hlt x (List.mem_append_left _ hx))) (fun x hx=>hsp x (List.mem_append_left _ hx))
 |[],[],_::_,_,_,h,_,_=>h.elim
 |[],_::_,_,_,_,h,_,_=>h.elim
 |_::_,[],_,_,_,h,_,_=>h.elim
 |_::_,_::_,[],_,_,h,_,_=>h.elim
theorem uR{f:Func}{s:ChangeSpec}{apart fresh handsOn again:Bool}{W W':World}{args:Array Value}{ds gs:List (DataW H)}{before:List MemPlace}{tb:TypeId}(hl:laidOutB P=true)(hW:DataW.Whole enc P f.params.toList s.vars apart W args.toList ds gs before)(hv:s.vars=[])(hspec:s.fn H (ds++gs) = { results:=[.lit (.bool true)],args:=ds })(hr:f.resultTypes=#[tb])(htb:P.underlying tb=some .bool)(hread0:(f.params.toList.all fun t=>P.readableRec t&&decide (t<P.types.size))=true)(hb:Bel W.heap.size W W'):s.post enc P f apart fresh handsOn again W args (.bool true) W':=by
 have hread:∀t∈f.params.toList,P.readableRec t=true∧t<P.types.size:=fun t ht=>by
  have:=List.all_eq_true.1 hread0 t ht;simpa using this
 have hlt:∀p∈before,p.block<W.heap.size:=fun p hp=>hW.lt p hp
 have hW':=hW;obtain⟨p,q,hA,hV,rfl,_,_⟩:=hW;rw[hv] at hV
 have hq:q=[]∧gs=[]:=by
  cases gs with
  |nil=>exact⟨hV,rfl⟩
  |cons _ _=>exact hV.elim
 obtain⟨rfl,rfl⟩:=hq;refine LH (pa:=p) (pv:=[]) hW' (fun b sp hd=>?_) (fun sp hsp=>?_) (fun sp _=>?_) rfl hb ?_
 ·rw[hspec,hr];exact trodAll_mk1 (shut_bool htb true)
 ·rw[hspec];exact Eg hl hb hread hA (fun x hx=>hlt x (by simpa using hx)) (fun x hx=>hsp x (by simpa using hx))
 ·rw[hspec,hv];rfl
 ·rw[hr];intro j t r hj hv
  match j,hj,hv with
  |0,hj,hv=>
   simp[Value.resultList] at hj hv;subst hj;subst hv;simp only[Value.okWide,htb,Cell.okWide,Cell.ok]
end
end
section
variable{P:Program}{t:TypeId}{W:World}
omit [ar] in
theorem qX{α:Type}{c:α→List PV}(h:Reads P t c){fs:Array Field}(ht:P.underlying t=some (.struct fs)){r:Reach}{base:Nat}{v:Value}(hval:Value.okWide P W r base t v){H:Type}{enc:TypeId×Value→H}{held:Bool}{d:DataW H}{ps:List MemPlace}(hd:DataW.Trod enc P W 0 (fun _=>true) held t v d ps):∃y:α,Rep (fun _=>True) W (.agg (c y)) v:=by
 simp only[Value.okWide,ht] at hval;obtain⟨cs,rfl,_,_⟩:=hval;obtain⟨fuel,hd⟩:=hd;obtain⟨y,hy⟩:=h H enc W held fuel _ _ hd;simp only[Value.cells] at hy;exact⟨y,.agg (by simpa using hy.1) (fun j p u hp hu=>hy.2 j p u hp (by rw[Array.getElem?_toList];exact hu))⟩
end
section
variable{P:Program}{t e:TypeId}{W:World}
section
omit [ar]
theorem LI{s:Nat}{α:Type}{c:α→List PV}(ht:P.underlying t=some (.array 2 e))(hs:P.cellsOf e=s)(hss:P.cellsOf t=s+s)(h:Reads P e c):Reads P t (fun y:α×α=>c y.1++c y.2):=by
 intro H enc w held fuel cs x hx;obtain⟨xs,n,_,_,hl,hxl,hf⟩:=DataW.trod_array ht hx;have f0:=hf 0 (by omega);have f1:=hf 1 (by omega);rw[List.getElem?_eq_getElem (by omega),hs] at f0 f1;obtain⟨y,hy⟩:=h H enc w held n _ _ f0;obtain⟨z,hz⟩:=h H enc w held n _ _ f1;refine⟨(y,z),?_⟩;rw[Nat.zero_mul,List.drop_zero] at hy;rw[Nat.one_mul] at hz
 have e:cs=cs.take s++(cs.drop s).take s:=by
  rw[List.take_of_length_le (l:=cs.drop s) (by rw[List.length_drop,hl,hss];omega),List.take_append_drop]
 rw[e];exact hy.append hz
theorem LJ{α:Type}{p:α→PV}(h:Reads P t (fun y=>[p y])){v:Value}(hv:v.cells=#[v]){H:Type}{enc:TypeId×Value→H}{held:Bool}{d:DataW H}{ps:List MemPlace}(hd:DataW.Trod enc P W 0 (fun _=>true) held t v d ps):∃y:α,Rep (fun _=>True) W (p y) v:=by
 obtain⟨fuel,hd⟩:=hd;obtain⟨y,hy⟩:=h H enc W held fuel _ _ hd;rw[hv] at hy;exact⟨y,hy.2 0 _ v rfl rfl⟩
theorem FN{α:Type}{p:α→PV}(h:Reads P t (fun y=>[p y]))(ht:P.underlying t=some (.slice e)){r:Reach}{base:Nat}{v:Value}(hval:Value.okWide P W r base t v){H:Type}{enc:TypeId×Value→H}{held:Bool}{d:DataW H}{ps:List MemPlace}(hd:DataW.Trod enc P W 0 (fun _=>true) held t v d ps):∃y:α,Rep (fun _=>True) W (p y) v:=by
 obtain⟨a,len,cap,rfl⟩:=okWide_slice ht hval;exact LJ h rfl hd
end
end
end Go.Fi
namespace Go.Fi
open Go Go.RowKit
variable[ar]
variable{fk:Fk}
theorem Kw{P:Program}{K:Exit→St→Prop}{rid d1 d2 t ty1 ty2 e:Nat}{p1 p2:String}{a1 a2:Array Edge}{st tt:TypeId}{env:Env}{h:aj}{n nt:Nat}{ow fl:Bool}{k:Nat}{cells:List PV}(hu:P.underlying st=some (.slice e))(hg:get env t=.w ow fl (.sl k cells))(hd1:d1<nt)(hd2:d2<nt)(hk:∀b:Bool,(b=true→k=0∧cells=[])→K .normal ⟨(d2,.w false false (.bool b))::(d1,.w ow fl (.sl k cells))::env,h,n,nt⟩):aY fk P (.region rid #[⟨some d1,.move (.tmp t),ty1,p1,a1,none⟩,⟨some d2,.binOp .eql st (.tmp d1) (.const (.slice none 0 0)) tt,ty2,p2,a2,none⟩] false) ⟨env,h,n,nt⟩ K:=by
 intro B w0 a w m hs;refine nT ?_;simp only[fo,Region.wanted,if_true];intro w e1x;replace hs:=hs.move e1x;refine gu (fun c e=>by cases e) (rT w0 (⟨some d1,.move (.tmp t),ty1,p1,a1,none⟩:Oper) (K:=fun v h' n'=>v=get env t∧h'=h∧n'=n) (by simp) hs hd1 _ _ ?_)
 rintro v h' n' a w m ⟨rfl,rfl,rfl⟩ hs
 intro w e1x;replace hs:=hs.move e1x;refine gu (fun c e=>by cases e) ?_;rw[hg] at hs
 have hx:au B (LB m h') m w (.w ow fl (.sl k cells)) (a.eval (.tmp d1)):=by
  have:=hs.env d1;rw[show get (St.env ⟨put env (some d1) (.w ow fl (.sl k cells)),h',n',nt⟩) d1=.w ow fl (.sl k cells) from by simp[put,get]] at this;exact this
 obtain⟨a0,cap,hv,_,_,hnone,hne⟩:=hx.j1
 have hrun:(execOp a.eval ⟨some d2,.binOp .eql st (.tmp d1) (.const (.slice none 0 0)) tt,ty2,p2,a2,none⟩).run P w=.ok (.value (.bool a0.isNone)) w:=by
  have hv':a.eval (.tmp d1)=.slice a0 k cap:=hv;have hc:a.eval (.const (.slice none 0 0))=.slice none 0 0:=rfl
  have he':∀d,(Op.equalIn (d+1) st (.slice a0 k cap) (.slice none 0 0)).run P w=.ok a0.isNone w:=fun d=>by
   rw[Op.equalIn,Sem.run_bind,run_underlying hu];simp only[Result.andThen_ok]
   cases a0<;>rfl
  have he:(Op.equal st (.slice a0 k cap) (.slice none 0 0)).run P w=.ok a0.isNone w:=he' 9999;have hg:(eqGuard .eql st (.tmp d1) (.const (.slice none 0 0)) (.slice a0 k cap) (.slice none 0 0)).run P w=.ok () w:=rfl;simp[execOp,hv',hc,hg,binOp,he]
 unfold Oper.wpt;rw[hrun,Oper.lO];refine⟨_,m,hk a0.isNone (fun hb=>?_),hs.base,hs.below,by rw[gT];exact hs.defers,by rw[gS];exact hs.size,?_,hs.heap,hs.dom,hs.ids,hs.fr⟩
 ·have:a0=none:=by cases a0 with
   |none=>rfl
   |some x=>cases hb
  refine⟨(hnone this).1,?_⟩
  cases hcs:cells with
  |nil=>rfl
  |cons c r=>
   obtain⟨b,off,vals,h0,_⟩:=hne (by rw[hcs];simp);rw[this] at h0;cases h0
 ·exact jO _ a (some d2) _ _ (by show d2<a.tmps.size;rw[hs.size];exact hd2) (eY _) hs.env
def pS(M:List (ByteArray×Int)):List (PV×PV):=M.map fun p=>(.str p.1,.int .i64 p.2)
def mS(M:List (ByteArray×Int)):List AV:=[dQ (pS M)]
section
omit [ar]
theorem Ls{D:List Nat}{h:aj}{n n':Nat}(o f:Bool)(p:PV):lg D h n n' (.w o f p) (.w false false p):=.inl ⟨⟨(fun h=>by cases h),(fun h=>by cases h),.inl rfl⟩,rfl⟩
@[simp] theorem W3(M:List (ByteArray×Int)):(mS M).length=1:=rfl
@[simp] theorem Yw(M:List (ByteArray×Int))(n:Nat):AV.lt.ltL n (mS M)=true:=rfl
end
def uO(c:Bool)(r:Option Int):AV:=
 match c,r with
 |true,some v=>.w false false (.tup [.int .i64 v,.bool true])
 |true,none=>.w false false (.tup [.int .i64 0,.bool false])
 |false,some v=>.w false false (.int .i64 v)
 |false,none=>.w false false (.int .i64 0)
section
omit [ar]
@[simp] theorem W4(v:Int):uO true (some v)=.w false false (.tup [.int .i64 v,.bool true]):=rfl
@[simp] theorem W5:uO true none=.w false false (.tup [.int .i64 0,.bool false]):=rfl
@[simp] theorem W6(h:aj)(id:Nat):mpC h (.mp id)=aV h id:=rfl
end
def pn(h:aj)(id:Nat)(cells:Option (List AV))(r:Option (TypeDesc×PV))(k v:AV):Option (Prop×aj):=
 match cells.bind cN,k,v,r with
 |some l,.w _ _ kp,.w _ _ vp,some (d,_)=>some ((okM d kp l=true∧isLit vp=true),br h id [dQ (fM l kp vp)])
 |_,_,_,_=>none
def zG(h:aj)(r:Option (TypeDesc×PV))(m k v:AV):Option (Prop×aj):=
 match m with
 |.mp id=>pn h id (aV h id) r k v
 |_=>none
omit [ar] in
@[simp] theorem W7(h:aj)(r:Option (TypeDesc×PV))(id:Nat)(k v:AV):zG h r (.mp id) k v=pn h id (aV h id) r k v:=rfl
@[simp ↓] theorem W8{P:Program}{env:Env}{h:aj}{n:Nat}(t:TypeId)(x k:Operand)(c:Bool)(K:AV→aj→Nat→Prop):bn P env h n (.lookup t x k c) K=aW (aOp P h n (ev env) (.lookup t x k c)) (eK h n K) .it:=rfl
@[simp ↓] theorem W9{P:Program}{env:Env}{h:aj}{n:Nat}(t:TypeId)(x k:Operand)(c:Bool)(K:AV→List (List AV)→Prop):bm P env h n (.lookup t x k c) K=aW (aOp P h n (ev env) (.lookup t x k c)) K .it:=rfl
@[simp ↓] theorem Xa{P:Program}{env:Env}{h:aj}{n:Nat}(t:TypeId)(K:AV→aj→Nat→Prop):bn P env h n (.makeMap t none) K=pM (some ((ik P t).isSome=true,.mp n,(n,[dQ []])::h,n+1)) K .it:=rfl
@[simp ↓] theorem Xb{P:Program}{env:Env}{h:aj}{n:Nat}(t:TypeId)(m k v:Operand)(K:AV→aj→Nat→Prop):bn P env h n (.mapUpdate t m k v) K=sM (zG h (ik P t) (ev env m) (ev env k) (ev env v)) n K .it:=by
 show j8 P env h n t m k v K=_;unfold j8 zG pn
 cases ev env m with
 |mp id=>
  dsimp only
  cases (aV h id).bind cN<;>first
   |rfl
   |(cases ev env k<;>first
      |rfl
      |(cases ev env v<;>first
         |rfl
         |(cases ik P t<;>rfl)))
 |_=>rfl
section
omit [ar]
@[simp] theorem Xc(a:Nat):nK (.mp a)=a:=rfl
@[simp] theorem Xd(a:Nat)(D:List Nat):uD (.mp a) D=(a∈D):=rfl
@[simp] theorem Xe(env:Env)(t:TypeId)(x k:Operand)(c:Bool)(D:List Nat):touch env (.lookup t x k c) D=True:=rfl
@[simp] theorem Xg(env:Env)(t:TypeId)(m k v:Operand)(D:List Nat):touch env (.mapUpdate t m k v) D=uD (ev env m) D:=rfl
end
def nA(l:List ByteArray):List AV:=(l.map PV.str).map (AV.w false false)
omit [ar] in
@[simp] theorem Xh:nA []=[]:=rfl
end Go.Fi
