/- Lemmas. -/
import Derived.Test.YthpkmilhiganjaaGreatPLb
import Derived.Deep.LoopGhost
import Derived.KernelRfl
set_option linter.all false
set_option maxHeartbeats 32000000
set_option maxRecDepth 100000
namespace Go.Fi
open Go Go.RowKit
variable[bE]
def gd(ops:Array Oper)(env:Env)(o:Oper):Option Bool:=
 match o.guard with
 |none=>some true
 |some (j,want)=>
  match (ops[j]?).bind (·.dst) with
  |none=>some false
  |some t=>
   match get env t with
   |.w _ _ (.bool b)=>some (b==want)
   |.tup []=>some false
   |_=>none
def dq(P:Program)(ops:Array Oper)(nt:Nat):List Oper->Env->bz->Nat->(Env->bz->Nat->Prop)->Prop
 |[],e,h,n,K=>K e h n
 |o::os,e,h,n,K=>
  match gd ops e o with
  |some g=>dOk nt o.dst/\(g=true->df P e h n o.op λv h' n'=>dq P ops nt os (put e o.dst v) h' n' K) /\
    (g=false->dq P ops nt os (put e o.dst (.tup [])) h n K)
  |none=>False
def cK(fk:Fk)(P:Program)(c:Code)(st:St)(K:Exit->St->Prop):Prop:=
 ∀(B:Base)(w0:Ctx fk)(a:Act)(w:World)(m:Mm),Sim B w0 st a w m->c.wpT w0.r P (λe a' w'=>∃st' m',K e st'/\Sim B w0 st' a' w' m') a w
def Lek(fk:Fk)(st st':St):Prop:=∀(B:Base)(w0:Ctx fk)(a:Act)(w:World)(m:Mm),Sim B w0 st a w m->∃m',Sim B w0 st' a w m'
section
variable{fk:Fk}{P:Program}{K:Exit->St->Prop}{st st':St}
theorem pW{ops:Array Oper}{env:Env}{o:Oper}{g:Bool}{B:Base}{w0:Ctx fk}{h:bz}{n nt:Nat}{a:Act}{w:World}{m:Mm}(hg:gd ops env o=some g)(hs:Sim B w0 ⟨env,h,n,nt⟩ a w m):Region.wanted o (yielded ops a.tmps)=g:=by
 unfold gd at hg;unfold Region.wanted;split at hg
 .simp_all
 .rename_i j want e;rw[e];simp only;split at hg
  .rename_i ed;cases hg;simp[yielded,ed]
  .rename_i t ed;have ht:=hs.env t;split at hg
   .rename_i ow f b eg;cases hg;rw[show get (St.env ⟨env,h,n,nt⟩) t=get env t from rfl,eg] at ht;have hv:=ht.j3
    have a4:t<a.tmps.size:=by
     rcases eX t a.tmps.size with h|h
     .exact h
     .rw[dC,CS h] at hv;cases hv
    have hq:a.tmps[t]?=some (.bool b):=by
     rw[dC,dE a4] at hv;rw[dE a4]
     grind
    simp only[yielded,ed,jk,hq]
    cases b<;>cases want<;>rfl
   .rename_i eg;cases hg;rw[show get (St.env ⟨env,h,n,nt⟩) t=get env t from rfl,eg] at ht;obtain⟨vs,hv,hl,_⟩:=ht.xm
    have c4:vs=#[]:=ak
    subst c4
    have:yielded ops a.tmps j=none:=by
     simp only[yielded,ed,jk];rw[dC] at hv
     grind
    rw[this];rfl
   .cases hg
theorem nK{ops:Array Oper}{nt:Nat}{B:Base}{w0:Ctx fk}{Kr:Env->bz->Nat->Prop}{Q:Exit->Act->World->Prop}(hQ:∀e h n a w m,Kr e h n->Sim B w0 ⟨e,h,n,nt⟩ a w m->Q .normal a w):∀(os:List Oper)(e:Env)(h:bz)(n:Nat)(a:Act)(w:World)(m:Mm),dq P ops nt os e h n Kr->Sim B w0 ⟨e,h,n,nt⟩ a w m->ir w0.r P ops Q os a w
 |[],e,h,n,a,w,m,hk,hs=>hQ e h n a w m hk hs
 |o::os,e,h,n,a,w,m,hk,hs=>by
  simp only[dq] at hk;split at hk
  .rename_i g hg;have hw:=pW hg hs;simp only[ir,hw];intro w1 e1;replace hs:=hs.move e1
   cases g with
   |true=>
    simp only[cz];exact jS (vE (hk.2.1 rfl)) (vG w0 o (K:=λv h' n'=>dq P ops nt os (put e o.dst v) h' n' Kr) (hk.2.1 rfl) hs hk.1 Q _ (λv h' n' a' w' m' b5 h8=>nK hQ os _ _ _ _ _ m' b5 h8))
   |false=>
    simp only[dB,cP];refine nK hQ os _ _ _ _ _ m (hk.2.2 rfl) ⟨hs.base,hs.below,by rw[kX];exact hs.defers,by rw[kU];exact hs.size,?_,hs.heap,hs.dom,hs.ids,hs.fr⟩;exact nJ e a o.dst _ _ (by rw[hs.size];exact hk.1) (.tup rfl (λj p v hp=>by simp at hp)) hs.env
  trivial
theorem bH{id:Nat}{ops:Array Oper}{env:Env}{h:bz}{n nt:Nat}(hk:dq P ops nt ops.toList env h n λe' h' n'=>K .normal ⟨e',h',n',nt⟩):cK fk P (.region id ops false) ⟨env,h,n,nt⟩ K:=
 λ_ _ _ _ _ hs=>qY (nK (λ_ _ _ _ _ m b5 h8=>⟨_,m,b5,h8⟩) ops.toList _ _ _ _ _ _ hk hs)
theorem tA{c:Code}{K':Exit->St->Prop}(h:cK fk P c st K)(hk:∀e s,K e s->K' e s):cK fk P c st K':=
 λB w0 a w m hs=>eT (h B w0 a w m hs) (λ_ _ _ ⟨st',m',h1,h2⟩=>⟨st',m',hk _ _ h1,h2⟩)
def rT(fk:Fk)(P:Program)(b:Code)(K:Exit->St->Prop):Exit->St->Prop
 |.normal,s=>cK fk P b s K
 |e,s=>K e s
theorem bI{x y:Code}(h:cK fk P x st (rT fk P y K)):cK fk P (.seq x y) st K:=
 λB w0 a w m hs=>yz (eT (h B w0 a w m hs) (λe a' w' ⟨st',m',h1,h2⟩=>by
  cases e<;>first|exact h1 B w0 a' w' m' h2|exact⟨st',m',h1,h2⟩))
theorem cg(h:K .normal st):cK fk P .skip st K:=λ_ _ _ _ m hs=>JO ⟨st,m,h,hs⟩
theorem bV(h:K .ret st):cK fk P .ret st K:=λ_ _ _ _ m hs=>Dn ⟨st,m,h,hs⟩
theorem dg{id:Nat}(h:K (.exit id) st):cK fk P (.exit id) st K:=λ_ _ _ _ m hs=>JQ ⟨st,m,h,hs⟩
def iB(id:Nat)(K:Exit->St->Prop):Exit->St->Prop
 |.exit co,s=>if co=id then K .normal s else K (.exit co) s
 |e,s=>K e s
theorem gw{id:Nat}{c:Code}(h:cK fk P c st (iB id K)):cK fk P (.block id c) st K:=
 λB w0 a w m hs=>yA (eT (h B w0 a w m hs) (λe a' w' ⟨st',m',h1,h2⟩=>by
  cases e<;>first
   |exact⟨st',m',h1,h2⟩
   |(simp only[Exit.inBlock];simp only[iB] at h1;split<;>(rename_i bk;simp only[bk,cz,cP] at h1;exact⟨st',m',h1,h2⟩))))
def og(v:AV)(X Y:Prop):Prop:=
 match v with
 |.w _ _ (.bool b)=>(b=true->X)/\(b=false->Y)
 |.w _ _ .jE=>X/\Y
 |_=>False
theorem K3{c:Operand}{x y:Code}(h:og (ev st.env c) (cK fk P x st K) (cK fk P y st K)):cK fk P (.cond c x y) st K:=by
 intro B w0 a w m hs;have hc:bG B (LB m st.heap) m w (ev st.env c) (a.eval c):=mR c (λt _=>hs.env t);unfold og at h;split at h
 .rename_i o f b e;rw[e] at hc;refine u6 hc.j3 ?_;cases b
  .exact h.2 rfl B w0 a w m hs
  .exact h.1 rfl B w0 a w m hs
 .rename_i o f e;rw[e] at hc
  have:∃b,a.eval c=.bool b:=by
   generalize hv:a.eval c=v at hc
   cases hc with|w h _=>cases h with|jE b=>exact⟨b,rfl⟩
  obtain⟨b,hb⟩:=this;refine u6 hb ?_;cases b
  .exact h.2 B w0 a w m hs
  .exact h.1 B w0 a w m hs
 trivial
theorem K4{c:Code}(h:fk.k<=st.nxt->cK fk P c st K):cK fk P c st K:=λB w0 a w m hs=>h hs.fr.1 B w0 a w m hs
def j5(fk:Fk){α:Type}(J:α->Prop)(I:α->St)(μ:α->Nat)(x:α)(K:Exit->St->Prop):Exit->St->Prop
 |.normal,s=>∃y,J y/\μ y<μ x/\Lek fk s (I y)
 |e,s=>K e s
theorem vH{c:Code}{α:Type}(J:α->Prop)(I:α->St)(μ:α->Nat)(x0:α)(hJ:J x0)(h0:Lek fk st (I x0))(round:∀x,J x->cK fk P c (I x) (j5 fk J I μ x K)):cK fk P (.loop c) st K:=by
 intro B w0 a w m hs;refine yB (λk a w=>∃x m,J x/\μ x=k/\Sim B w0 (I x) a w m) (μ x0) aQ ?_
 rintro k a w ⟨x,m,hx,rfl,cl⟩
 refine eT (round x hx B w0 a w m cl) (λe a' w' ⟨st',m',h2,h3⟩=>?_)
 cases e<;>first
  |exact⟨st',m',h2,h3⟩
  |(obtain⟨y,hy,a4,hle⟩:=h2
    obtain⟨d9,h4⟩:=hle B w0 a' w' m' h3
    exact⟨μ y,a4,y,d9,hy,rfl,h4⟩)
def BQ(fk:Fk){β:Type}(id:Nat)(F:β->Prop)(fin:β->St)(R:St->Prop):Exit->St->Prop
 |.exit i,s=>i=id/\∃y,F y/\Lek fk s (fin y)
 |.ret,s=>R s
 |_,_=>False
end
def reach(ops:Array Oper):Nat->Nat->Nat->Bool
 |0,_,_=>false
 |f+1,i,j=>
  match ops[i]? with
  |some o=>o.after.toList.any λe=>Region.binds .any e&&(e.on==j || reach ops f e.on j)
  |none=>false
def dV(ops:Array Oper)(i:Nat):Option Nat:=(ops[i]?).bind (·.dst)
def jJ(ops:Array Oper)(o:Oper):List Nat:=
 (o.op.operands.toList.filterMap λx=>match x with | .tmp t=>some t|_=>none)++(match o.guard with|some (j,_)=>(dV ops j).toList|none=>[])
def uw(ops:Array Oper)(k:Nat):Bool:=
 decide (k<=ops.size) &&
 ((List.range ops.size).all λi=>match ops[i]? with
   |some o=>o.after.toList.all λe=>!Region.binds .any e || decide (e.on<i)
   |none=>true) &&
 ((List.range k).all λi=>match ops[i]? with
   |some o=>((jJ ops o).all λt=>(List.range k).all λj=>if dV ops j=some t then decide (j<i)&&reach ops 4 i j else true) &&
     ((List.range k).all λj=>decide (j=i) || o.dst.isNone || decide (dV ops j≠o.dst))
   |none=>false) &&
 ((List.range ops.size).all λi=>decide (i<k) || (List.range i).all λj=>reach ops 8 i j)
def gh(P:Program)(ops:Array Oper)(nt:Nat):List Oper->Env->bz->Nat->(Env->bz->Nat->Prop)->Prop
 |[],e,h,n,K=>K e h n
 |o::os,e,h,n,K=>
  match gd ops e o with
  |some g=>dOk nt o.dst/\(g=true->de P e h n o.op λv E=>gh P ops nt os (put e o.dst v) (ck h n E) (n+E.length) K) /\
    (g=false->gh P ops nt os (put e o.dst (.tup [])) h n K)
  |none=>False
structure Tr(P:Program)(ops:Array Oper)(nt:Nat)(os:List Oper)(e:Env)(h:bz)(n:Nat) where
 es:Nat->Env
 hs:Nat->bz
 ns:Nat->Nat
 vs:Nat->AV
 Es:Nat->List (List AV)
 gs:Nat->Bool
 e0:es 0=e
 h0:hs 0=h
 n0:ns 0=n
 step:∀i o,os[i]?=some o->dOk nt o.dst/\gd ops (es i) o=some (gs i)/\es (i+1)=put (es i) o.dst (vs i)/\hs (i+1)=ck (hs i) (ns i) (Es i)/\ns (i+1)=ns i+(Es i).length /\
  (gs i=true->QF P (es i) (hs i) (ns i) o.op (vs i) (Es i))/\(gs i=false->vs i=.tup []/\Es i=[])
theorem zj{P:Program}{ops:Array Oper}{nt:Nat}{K:Env->bz->Nat->Prop}:∀(os:List Oper)(e:Env)(h:bz)(n:Nat),gh P ops nt os e h n K->∃T:Tr P ops nt os e h n,K (T.es os.length) (T.hs os.length) (T.ns os.length)
 |[],e,h,n,hk=>⟨⟨λ_=>e,λ_=>h,λ_=>n,λ_=>.tup [],λ_=>[],λ_=>true,rfl,rfl,rfl,λi o hi=>by simp at hi⟩,hk⟩
 |o::os,e,h,n,hk=>by
  simp only[gh] at hk;split at hk
  .rename_i g hg;obtain⟨hd,h1,h2⟩:=hk
   have main:∀(v:AV)(E:List (List AV)),(g=true->QF P e h n o.op v E)->(g=false->v=.tup []/\E=[])->gh P ops nt os (put e o.dst v) (ck h n E) (n+E.length) K ->
    ∃T:Tr P ops nt (o::os) e h n,K (T.es (o::os).length) (T.hs (o::os).length) (T.ns (o::os).length):=by
    intro v E q1 q2 hr;obtain⟨T,hK⟩:=zj os _ _ _ hr
    refine⟨⟨λi=>match i with|0=>e|i+1=>T.es i,λi=>match i with|0=>h|i+1=>T.hs i,λi=>match i with|0=>n|i+1=>T.ns i,
     λi=>match i with|0=>v|i+1=>T.vs i,λi=>match i with|0=>E|i+1=>T.Es i,λi=>match i with|0=>g|i+1=>T.gs i,rfl,rfl,rfl,λi o' hi=>?_⟩,hK⟩
    cases i with
    |zero=>
     simp at hi;subst hi;exact⟨hd,hg,T.e0,T.h0,T.n0,q1,q2⟩
    |succ i=>exact T.step i o' aM
   cases g with
   |true=>
    obtain⟨v,E,q,hr⟩:=(h1 rfl).qf;exact main v E (λ_=>q) nofun hr
   |false=>exact main (.tup []) [] nofun (λ_=>⟨rfl,rfl⟩) (h2 rfl)
  trivial
section
variable{P:Program}{ops:Array Oper}{nt:Nat}{os:List Oper}{e:Env}{h:bz}{n:Nat}
theorem Tr.jK(T:Tr P ops nt os e h n){i j:Nat}(bl:i<=j)(hj:j<=os.length):T.ns i<=T.ns j:=by
 induction j with
 |zero=>have:i=0:=by omega
        simp_all
 |succ j ih=>
  by_cases hi:i=j+1
  .simp_all
  .have:=ih ab ab;have hs:=(T.step j os[j] (dO ab)).2.2.2.2.1;omega
theorem Tr.uy(T:Tr P ops nt os e h n){i j:Nat}(bl:i<=j)(hj:j<=os.length){p:Nat×List AV}(hp:p∈T.hs i):p∈T.hs j:=by
 induction j with
 |zero=>have:i=0:=by omega
        simp_all
 |succ j ih=>
  by_cases hi:i=j+1
  .simp_all
  .have:=ih ab ab;have hs:=(T.step j os[j] (dO ab)).2.2.2.1;rw[hs];exact (kY (T.Es j) (T.hs j) (T.ns j) p.1 p.2).2 (.inl this)
theorem Tr.H2(T:Tr P ops nt os e h n)(i:Nat)(hi:i<=os.length)(t:Nat):(∃(j:Nat)(o:Oper),j<i/\os[j]?=some o/\o.dst=some t/\get (T.es i) t=T.vs j)\/((∀(j:Nat)(o:Oper),j<i->os[j]?=some o->o.dst≠some t)/\get (T.es i) t=get e t):=by
 induction i with
 |zero=>rw[T.e0];simp
 |succ i ih=>
  have cw:os[i]?=some os[i]:=dO ab;have hs:=(T.step i os[i] cw).2.2.1;rw[hs]
  cases hd:os[i].dst with
  |none=>
   simp only[put]
   grind
  |some d=>
   simp only[put,get]
   grind
end
end Go.Fi
namespace Go.Fi
open Go Go.RowKit
variable[bE]
variable{fk:Fk}
section
variable{P:Program}{ops:Array Oper}{nt:Nat}{k:Nat}
def Closed(ops:Array Oper)(listed:Array Bool):Prop:=
 ∀(i:Nat)(o:Oper),ops[i]?=some o->listed.getD i false=true->∀e∈o.after,Region.binds .any e=true->listed.getD e.on false=true
omit [bE] in
theorem mV{listed:Array Bool}(hc:Closed ops listed):∀(f i j:Nat)(o:Oper),ops[i]?=some o->(∀e∈o.after,Region.binds .any e=true->listed.getD e.on false=true)->reach ops f i j=true->listed.getD j false=true
 |0,_,_,_,_,_,h=>by trivial
 |f+1,i,j,o,ho,he,h=>by
  simp only[reach,ho,List.any_eq_true,fe,sT] at h;obtain⟨e,hin,hb,h1⟩:=h;have hl:=he e (qU.1 hin) hb
  rcases h1 with h1|h1
  .have:e.on=j:=ak
   rw[<-this];exact hl
  .cases b6:ops[e.on]? with
   |none=>cases f<;>simp[reach,b6] at h1
   |some o'=>exact mV hc f e.on j o' b6 (hc e.on o' b6 hl) h1
omit [bE] in
theorem Closed.set{listed:Array Bool}(hc:Closed ops listed){i:Nat}{o:Oper}(ho:ops[i]?=some o)(he:∀e∈o.after,Region.binds .any e=true->listed.getD e.on false=true):Closed ops (listed.setIfInBounds i true):=by
 intro j o' b6 hl e hin hb;by_cases bl:i=j
 .subst bl
  rw[ho] at b6;injection b6 with b6;subst b6
  exact getD_set_true (he e hin hb)
 .rw[getD_set_ne false bl] at hl;exact getD_set_true (hc j o' b6 hl e hin hb)
def open_(listed:Array Bool):Nat:=listed.toList.countP (λb=>!b)
section
omit [bE]
theorem pX{listed:Array Bool}{i:Nat}(hi:listed[i]?=some false):open_ (listed.setIfInBounds i true)+1=open_ listed:=by
 unfold open_
 grind
theorem pY{listed:Array Bool}(h:open_ listed=0){i:Nat}(hi:i<listed.size):listed.getD i false=true:=by
 unfold open_ at h;rw[List.countP_eq_zero] at h;have:=h listed[i] ae;rw[dC,dE hi];simp_all
theorem qZ{listed:Array Bool}(h9:listed.size=ops.size)(b8:∀(i:Nat)(o:Oper),ops[i]?=some o->∀e∈o.after,Region.binds .any e=true->e.on<i):∀i,i<ops.size->listed.getD i false=false->Region.ready .any ops listed≠[]:=by
 intro i
 induction i using Nat.strongRecOn with
 |_ i ih=>
  intro hi hl;by_cases hex:∃e∈ops[i].after,Region.binds .any e=true/\listed.getD e.on false=false
  .grind
  .intro aq
   have:i∈Region.ready .any ops listed:=mem_ready.2 ⟨by
    rw[dC,dE ab] at hl ⊢
    exact hl,ops[i],dE hi,λe hin hb=>by
    simp_all⟩
   rw[aq] at this;cases this
theorem nL{listed:Array Bool}(h9:listed.size=ops.size){i:Nat}(hr:i∈Region.ready .any ops listed):∃o,ops[i]?=some o/\listed[i]?=some false/\∀e∈o.after,Region.binds .any e=true->listed.getD e.on false=true:=by
 obtain⟨h0,o,ho,he⟩:=mem_ready.1 hr
 have a4:i<listed.size:=by rw[h9];exact (cT.1 ho).1
 simp_all
end
theorem vI{B:Base}{w0:Ctx fk}{Kr:Env->bz->Nat->Prop}{Q:Exit->Act->World->Prop}(hQ:∀e h n a w m,Kr e h n->Sim B w0 ⟨e,h,n,nt⟩ a w m->Q .normal a w)(b8:∀(i:Nat)(o:Oper),ops[i]?=some o->∀e∈o.after,Region.binds .any e=true->e.on<i)(a9:∀i,k<=i->i<ops.size->∀j,j<i->reach ops 8 i j=true):∀(f i:Nat)(listed:Array Bool)(e:Env)(h:bz)(n:Nat)(a:Act)(w:World)(m:Mm),k<=i->i<=ops.size->listed.size=ops.size->Closed ops listed->(∀j,j<ops.size->(listed.getD j false=true↔j<i))->open_ listed<=f->dq P ops nt (ops.toList.drop i) e h n Kr->Sim B w0 ⟨e,h,n,nt⟩ a w m->jD w0.r P .any ops Q f listed a w:=by
 intro f
 induction f with
 |zero=>
  intro i listed e h n a w m cy hi h9 hc hl b4 hk hs
  have a5:i=ops.size:=by
   rcases eX i ops.size with a4|dk
   .have:=pY (x9.1 b4) (i:=i) ab;have:=(hl i a4).1 this;omega
   .omega
  subst a5;rw[Jv ae] at hk;refine⟨?_,hQ _ _ _ _ _ _ hk hs⟩
  cases hr:Region.ready .any ops listed with
  |nil=>rfl
  |cons x xs=>
   obtain⟨o,ho,hf,_⟩:=nL h9 (i:=x) (by rw[hr];simp);have hx:=(cT.1 ho).1;have:=(hl x hx).2 hx;rw[dC,hf] at this;cases this
 |succ f ih=>
  intro i listed e h n a w m cy hi h9 hc hl b4 hk hs;by_cases a4:i<ops.size
  .have b':=qZ h9 b8 i a4 (by
    cases hq:listed.getD i false with
    |true=>have:=(hl i a4).1 hq;omega
    |false=>rfl)
   refine⟨λaq=>absurd aq b',λx hx=>?_⟩;obtain⟨o,ho,hf,he⟩:=nL h9 hx;have bp:=(cT.1 ho).1
   have d7:x=i:=by
    have h1:¬x<i:=λd8=>by
     have:=(hl x bp).2 d8;rw[dC,hf] at this;cases this
    rcases eX i x with h2|h2
    .have:=mV hc 8 x i o ho he (a9 x ab bp i h2);have:=(hl i a4).1 this;omega
    .omega
   subst d7
   have bg:ops.toList.drop x=o::ops.toList.drop (x+1):=by
    rw[TM (by simpa using a4)];congr 1
    have:ops.toList[x]?=some o:=by rw[jo];exact ho
    rw[dO (by simpa using a4)] at this;injection this
   rw[bg] at hk;simp only[dq] at hk
   have a6:∀e' h' n' a' w' m',dq P ops nt (ops.toList.drop (x+1)) e' h' n' Kr->Sim B w0 ⟨e',h',n',nt⟩ a' w' m'->jD w0.r P .any ops Q f (listed.setIfInBounds x true) a' w':=by
    intro e' h' n' a' w' m' b5 h8;refine ih (x+1) _ e' h' n' a' w' m' ab ab (by simpa using h9) (hc.set ho he) (λj hj=>?_) (by have:=pX hf;omega) b5 h8;by_cases cm:x=j
    .subst cm;rw[dC,iX];simp[h9,hj]
    .rw[getD_set_ne false cm,hl j hj];omega
   split at hk
   .rename_i g hg;unfold lg;rw[ho];simp only[pW hg hs];intro w1 e1;replace hs:=hs.move e1
    cases g with
    |true=>
     simp only[cz];exact jS (vE (hk.2.1 rfl)) (vG w0 o (K:=λv h' n'=>dq P ops nt (ops.toList.drop (x+1)) (put e o.dst v) h' n' Kr) (hk.2.1 rfl) hs hk.1 Q _ (λv h' n' a' w' m' b5 h8=>a6 _ _ _ _ _ m' b5 h8))
    |false=>
     simp only[dB,cP];exact a6 _ _ _ _ _ m (hk.2.2 rfl) ⟨hs.base,hs.below,by rw[kX];exact hs.defers,by rw[kU];exact hs.size,nJ e a o.dst _ _ (by rw[hs.size];exact hk.1) (.tup rfl (λj p v hp=>by simp at hp)) hs.env,hs.heap,hs.dom,hs.ids,hs.fr⟩
   trivial
  .have a5:i=ops.size:=ab
   subst a5;rw[Jv ae] at hk
   have hr:Region.ready .any ops listed=[]:=by
    cases hr:Region.ready .any ops listed with
    |nil=>rfl
    |cons x xs=>
     obtain⟨o,ho,hf,_⟩:=nL h9 (i:=x) (by rw[hr];simp);have hx:=(cT.1 ho).1;have:=(hl x hx).2 hx;rw[dC,hf] at this;cases this
   refine⟨λ_=>hQ _ _ _ _ _ _ hk hs,λx hx=>?_⟩;rw[hr] at hx;cases hx
end
section
variable{P:Program}{ops:Array Oper}{nt:Nat}{k:Nat}
structure Chk(ops:Array Oper)(k:Nat):Prop where
 le:k<=ops.size
 down:∀(i:Nat)(o:Oper),ops[i]?=some o->∀e∈o.after,Region.binds .any e=true->e.on<i
 use:∀(i:Nat)(o:Oper),i<k->ops[i]?=some o->∀t∈jJ ops o,∀j,j<k->dV ops j=some t->j<i/\reach ops 4 i j=true
 once:∀(i:Nat)(o:Oper),i<k->ops[i]?=some o->∀j,j<k->j≠i->∀t,o.dst=some t->dV ops j≠some t
 wait:∀i,k<=i->i<ops.size->∀j,j<k->reach ops 8 i j=true
omit [bE] in
theorem zm(h:uw ops k=true):Chk ops k/\(∀i,k<=i->i<ops.size->∀j,j<i->reach ops 8 i j=true):=by
 simp only[uw,fe,decide_eq_true_eq,gm,sU] at h;obtain⟨⟨⟨h1,h2⟩,h3⟩,h4⟩:=h
 have a9:∀i,k<=i->i<ops.size->∀j,j<i->reach ops 8 i j=true:=by
  intro i hk hi j hj;have:=h4 i hi;simp only[sT,decide_eq_true_eq,gm,sU] at this
  rcases this with h|h
  .omega
  .exact h j hj
 refine⟨⟨h1,λi o ho e hin hb=>?_,λi o hi ho t ht j hj hd=>?_,λi o hi ho j hj b' t ht hd=>?_,λi hk hi j hj=>a9 i hk hi j ab⟩,a9⟩
 .have a4:=(cT.1 ho).1;have:=h2 i a4;simp only[ho,gm] at this;have:=this e (qU.2 hin);simpa[hb] using this
 .have:=h3 i hi;simp only[ho,fe,gm,sU] at this;have:=this.1 t ht j hj;simpa[hd] using this
 grind
omit [bE] in
theorem zn{o:Oper}{t:Nat}(h:(.tmp t:Operand)∈o.op.operands):t∈jJ ops o:=by
 unfold jJ;refine js.2 (.inl (List.mem_filterMap.2 ⟨.tmp t,qU.2 h,rfl⟩))
variable{e:Env}{h:bz}{n:Nat}
structure dW(P:Program)(ops:Array Oper)(nt k:Nat)(e:Env)(h:bz)(n:Nat)(T:Tr P ops nt (ops.toList.take k) e h n)(B:Base)(w0:Ctx fk)(listed:Array Bool)(a:Act)(w:World)(m:Mm):Prop where
 base:B.n=w0.w.heap.size
 below:Bel B.n w0.w w
 defers:a.defers=marks w0.ds
 size:a.tmps.size=nt
 heap:cQ B (T.hs k) m w
 dom:∀id,m.dom id↔id<n\/∃i,i<k/\listed.getD i false=true/\T.ns i<=id/\id<T.ns i+(T.Es i).length
 done:∀i t,i<k->listed.getD i false=true->dV ops i=some t->bG B (LB m (T.hs k)) m w (T.vs i) (a.tmps.getD t undef)
 old:∀t,(∀i,i<k->listed.getD i false=true->dV ops i≠some t)->bG B (LB m (T.hs k)) m w (get e t) (a.tmps.getD t undef)
 fr:pg B w0 (LB m (T.hs k)) m w n
theorem dW.bel{T:Tr P ops nt (ops.toList.take k) e h n}{B:Base}{w0:Ctx fk}{listed:Array Bool}{a:Act}{w w':World}{m:Mm}(hp:dW P ops nt k e h n T B w0 listed a w m)(hb:Bel w.heap.size w w'):dW P ops nt k e h n T B w0 listed a w' m:=by
 have hr:B.n<=w.heap.size:=by have:=hp.below.size;have:=hp.base;omega
 have hm:∀x v,bG B (LB m (T.hs k)) m w x v->bG B (LB m (T.hs k)) m w' x v:=λx v h=>h.mono (Mm.le.refl m) (λ_ _ x=>x) (λb hl _=>hb.block b hl)
 exact⟨hp.base,hp.below.trans (hb.mono hr),hp.defers,hp.size,hp.heap.below hb,hp.dom,λi t hi hl hd=>hm _ _ (hp.done i t hi hl hd),λt ht=>hm _ _ (hp.old t ht),hp.fr.mono (Mm.le.refl m) (λ_ _ x=>x) (λb hl _=>hb.block b hl) (bU _)⟩
omit [bE] in
theorem vJ{i:Nat}{o:Oper}(hi:i<k)(ho:ops[i]?=some o):(ops.toList.take k)[i]?=some o:=by
 rw[lQ,cu hi,jo];exact ho
omit [bE] in
theorem Em{i:Nat}{o:Oper}(ho:(ops.toList.take k)[i]?=some o):i<k/\ops[i]?=some o:=by
 rw[lQ] at ho;simp_all
theorem dW.slot{T:Tr P ops nt (ops.toList.take k) e h n}{B:Base}{w0:Ctx fk}{listed:Array Bool}{a:Act}{w:World}{m:Mm}(hp:dW P ops nt k e h n T B w0 listed a w m)(hc:Chk ops k)(aa:Closed ops listed){i:Nat}{o:Oper}(hi:i<k)(ho:ops[i]?=some o)(he:∀e∈o.after,Region.binds .any e=true->listed.getD e.on false=true){t:Nat}(ht:t∈jJ ops o):bG B (LB m (T.hs k)) m w (get (T.es i) t) (a.tmps.getD t undef):=by
 have hlen:(ops.toList.take k).length=k:=by simp[hc.le]
 rcases T.H2 i ab t with ⟨j,oj,h1,h2,h3,h4⟩|⟨h1,h2⟩
 .obtain⟨hj,b7⟩:=Em h2
  have hd:dV ops j=some t:=by simp[dV,b7,h3]
  obtain⟨_,hr⟩:=hc.use i o hi ho t ht j hj hd;rw[h4];exact hp.done j t hj (mV aa 4 i j o ho he hr) hd
 .rw[h2];refine hp.old t (λj hj hl hd=>?_);obtain⟨bc,_⟩:=hc.use i o hi ho t ht j hj hd
  cases b7:ops[j]? with
  |none=>grind
  |some oj=>exact h1 j oj bc (vJ hj b7) (by simpa[dV,b7] using hd)
omit [bE] in
theorem zo{o:Oper}{env:Env}{g:Bool}(hg:gd ops env o=some g){a:Act}{B:Base}{L:Nat->Prop}{m:Mm}{w:World}(hs:∀t,t∈jJ ops o->bG B L m w (get env t) (a.tmps.getD t undef)):Region.wanted o (yielded ops a.tmps)=g:=by
 unfold gd at hg;unfold Region.wanted;split at hg
 .simp_all
 .rename_i j want e;rw[e];simp only;split at hg
  .rename_i ed;cases hg;simp[yielded,ed]
  .rename_i t ed
   have ht:=hs t (by
    unfold jJ;refine js.2 (.inr ?_);rw[e]
    simp[dV,ed])
   split at hg
   .rename_i ow f b eg;cases hg;rw[eg] at ht;have hv:=ht.j3
    have a4:t<a.tmps.size:=by
     rcases eX t a.tmps.size with h|h
     .exact h
     .rw[dC,CS h] at hv;cases hv
    have hq:a.tmps[t]?=some (.bool b):=by
     rw[dC,dE a4] at hv;rw[dE a4]
     grind
    simp only[yielded,ed,jk,hq]
    cases b<;>cases want<;>rfl
   .rename_i eg;cases hg;rw[eg] at ht;obtain⟨vs,hv,hl,_⟩:=ht.xm
    have c4:vs=#[]:=ak
    subst c4
    have:yielded ops a.tmps j=none:=by
     simp only[yielded,ed,jk];rw[dC] at hv
     grind
    rw[this];rfl
   .cases hg
omit [bE] in
theorem oN{a:Act}{d:Option Nat}{v:Value}{t:Nat}(hd:dOk a.tmps.size d):(a.put d v).tmps.getD t undef=if d=some t then v else a.tmps.getD t undef:=by
 cases d with
 |none=>rfl
 |some d=>
  simp only[Act.put,cV];rw[dC,iX];by_cases h:d=t
  .subst h;simp only[cz];rw[cu (show d<a.tmps.size from hd)];rfl
  simp_all
theorem dW.next{T:Tr P ops nt (ops.toList.take k) e h n}{B:Base}{w0:Ctx fk}{listed:Array Bool}{a:Act}{w:World}{m:Mm}(hp:dW P ops nt k e h n T B w0 listed a w m)(hc:Chk ops k){i:Nat}{o:Oper}(hi:i<k)(ho:ops[i]?=some o)(hf:listed[i]?=some false){v':Value}{w':World}{m':Mm}(bv:dOk nt o.dst)(p:iP B (T.hs k) m w (T.ns i) (T.Es i).length (T.vs i) v' w' m'):dW P ops nt k e h n T B w0 (listed.setIfInBounds i true) (a.put o.dst v') w' m':=by
 obtain⟨p1,p2,p3,p4,p5,p6⟩:=p
 have hB:B.n<=w.heap.size:=by have:=hp.below.size;have:=hp.base;omega
 have hO:bE.ok w:=bE.keep w0.ok aF
 have b9:∀p v,bG B (LB m (T.hs k)) m w p v->bG B (LB m' (T.hs k)) m' w' p v:=λp v hr=>hr.mono p1 (λb hb hn hl=>by
  grind) (λb hb _=>p3.block b hb)
 have cp:dV ops i=o.dst:=by simp[dV,ho]
 have cf:dOk a.tmps.size o.dst:=by rw[hp.size];exact bv
 have d2:(listed.setIfInBounds i true).getD i false=true:=by
  have:=(cT.1 hf).1;rw[dC,iX];simp[this]
 have d3:∀j,j≠i->(listed.setIfInBounds i true).getD j false=listed.getD j false:=λj hj=>getD_set_ne false (gH hj)
 have dr:listed.getD i false=false:=by rw[dC,hf];rfl
 refine⟨hp.base,hp.below.trans (p3.mono hB),by rw[kX];exact hp.defers,by rw[kU];exact hp.size,p4,λid=>?_,λj t hj hl hd=>?_,λt ht=>?_,hp.fr.mono p1 (λb hb hn hl=>by
  grind) (λb hb _=>p3.block b hb) (bU _)⟩
 .rw[p2,hp.dom]
  grind
 .rw[oN cf];by_cases bc:j=i
  .simp_all
  .rw[d3 j bc] at hl
   have:o.dst≠some t:=λd4=>hc.once i o hi ho j hj bc t d4 hd
   rw[bN this];exact b9 _ _ (hp.done j t hj hl hd)
 .rw[oN cf];have h1:=ht i hi d2;rw[cp] at h1;rw[bN h1];refine b9 _ _ (hp.old t (λj hj hl=>ht j hj ?_))
  grind
theorem En{T:Tr P ops nt (ops.toList.take k) e h n}(hk:k<=ops.size){B:Base}{m:Mm}{w:World}(hs:cQ B h m w)(hd:∀i,m.dom i↔i<n)(bk:∀id c,(id,c)∈h->id<n):∀i,i<=k->cQ B (T.hs i) m w/\LB m (T.hs i)=LB m h/\(∀id c,(id,c)∈T.hs i->id<T.ns i):=by
 have hlen:(ops.toList.take k).length=k:=by simp[hk]
 intro i
 induction i with
 |zero=>intro _;rw[T.h0,T.n0];trivial
 |succ i ih=>
  intro hi;obtain⟨h1,h2,h3⟩:=ih ab;have bn:=T.step i _ (dO ab)
  have hn:n<=T.ns i:=by have:=T.jK (i:=0) (j:=i) ab ab;rw[T.n0] at this;exact this
  obtain⟨h4,h5⟩:=vD (T.Es i) (T.hs i) (T.ns i) h1 (λj hj cq=>by have:=(hd j).1 cq;omega) h3;rw[bn.2.2.2.1];refine⟨h4,h5.trans h2,λid c hin=>?_⟩;rw[bn.2.2.2.2.1]
  rcases (kY _ _ _ _ _).1 hin with h6|⟨q,h6,rfl⟩
  .have:=h3 id c h6;omega
  grind
theorem Eo{T:Tr P ops nt (ops.toList.take k) e h n}(hc:Chk ops k){B:Base}{w0:Ctx fk}{Q:Exit->Act->World->Prop}(bk:∀id c,(id,c)∈T.hs k->id<T.ns k)(ag:∀(f:Nat)(listed:Array Bool)(a:Act)(w:World)(m:Mm),listed.size=ops.size->Closed ops listed->(∀j,j<ops.size->(listed.getD j false=true↔j<k))->open_ listed<=f->Sim B w0 ⟨T.es k,T.hs k,T.ns k,nt⟩ a w m->jD w0.r P .any ops Q f listed a w):∀(f:Nat)(listed:Array Bool)(a:Act)(w:World)(m:Mm),listed.size=ops.size->Closed ops listed->open_ listed<=f->(∀i,k<=i->i<ops.size->listed.getD i false=false)->dW P ops nt k e h n T B w0 listed a w m->jD w0.r P .any ops Q f listed a w:=by
 have hlen:(ops.toList.take k).length=k:=by simp[hc.le]
 have last:∀(f:Nat)(listed:Array Bool)(a:Act)(w:World)(m:Mm),listed.size=ops.size->Closed ops listed->open_ listed<=f->dW P ops nt k e h n T B w0 listed a w m->(∀i,i<k->listed.getD i false=true) ->
  (∀i,k<=i->i<ops.size->listed.getD i false=false)->jD w0.r P .any ops Q f listed a w:=by
  intro f listed a w m h9 aa b4 hp a5 c7;refine ag f listed a w m h9 aa (λj hj=>⟨λh1=>?_,λh1=>a5 j h1⟩) b4 ⟨hp.base,hp.below,hp.defers,hp.size,λt=>?_,hp.heap,λid=>?_,bk,hp.fr.mono (Mm.le.refl m) (λ_ _ h=>h) (λ_ _ _=>rfl) (by have:=T.jK (i:=0) (j:=k) ab ab;rw[T.n0] at this;exact this)⟩
  .grind
  .rcases T.H2 k ab t with ⟨j,oj,h1,h2,h3,h4⟩|⟨h1,h2⟩
   .obtain⟨hj,b7⟩:=Em h2;show bG _ _ _ _ (get (T.es k) t) _;rw[h4];exact hp.done j t hj (a5 j hj) (by simp[dV,b7,h3])
   .show bG _ _ _ _ (get (T.es k) t) _;rw[h2];refine hp.old t (λj hj _ hd=>?_)
    cases b7:ops[j]? with
    |none=>grind
    |some oj=>exact h1 j oj hj (vJ hj b7) (by simpa[dV,b7] using hd)
  .rw[hp.dom];show _↔id<T.ns k
   have bb:∀i,i<=k->(id<T.ns i↔id<n\/∃j,j<i/\T.ns j<=id/\id<T.ns j+(T.Es j).length):=by
    intro i
    induction i with
    |zero=>intro _;rw[T.n0];constructor
           .exact .inl
           .rintro (h|⟨j,h,_⟩)
            .exact h
            .omega
    |succ i ih=>
     intro hi;have bn:=(T.step i _ (dO ab)).2.2.2.2.1;rw[bn];constructor
     .intro h1
      rcases eX id (T.ns i) with h2|h2
      .rcases (ih ab).1 h2 with h3|⟨j,h3,h4⟩
       .exact .inl h3
       .exact .inr ⟨j,ab,h4⟩
      .exact .inr ⟨i,ab,h2,h1⟩
     .rintro (h1|⟨j,h1,h2,h3⟩)
      .have:=(ih ab).2 (.inl h1);omega
      .by_cases bc:j=i
       .subst bc;exact h3
       .have:=(ih ab).2 (.inr ⟨j,ab,h2,h3⟩);omega
   rw[bb k (bU _)]
   grind
 intro f
 induction f with
 |zero=>
  intro listed a w m h9 aa b4 ay hp;have hz:=x9.1 b4
  have dp:k=ops.size:=by
   rcases eX k ops.size with h1|h1
   .have h2:=pY hz (i:=k) ab;rw[ay k (bU _) h1] at h2;cases h2
   simp_all
  exact last 0 listed a w m h9 aa b4 hp (λi hi=>pY hz ab) ay
 |succ f ih=>
  intro listed a w m h9 aa b4 ay hp;by_cases a5:∀i,i<k->listed.getD i false=true
  .grind
  .obtain⟨i0,cx⟩:=Classical.not_forall.1 a5;obtain⟨hi0k,hi0l⟩:=Classical.not_imp.1 cx
   have hi0f:listed.getD i0 false=false:=al
   have b':=qZ h9 hc.down i0 (by have:=hc.le;omega) hi0f;refine⟨λaq=>absurd aq b',λx hx=>?_⟩;obtain⟨o,ho,hf,he⟩:=nL h9 hx;have bp:=(cT.1 ho).1
   have bi:x<k:=by
    rcases eX x k with h1|h1
    .exact h1
    .have:=mV aa 8 x i0 o ho he (hc.wait x h1 bp i0 hi0k);rw[hi0f] at this;cases this
   obtain⟨bv,hw,_,_,_,c9,d5⟩:=T.step x o (vJ bi ho);unfold lg;rw[ho];simp only[zo hw (λt ht=>hp.slot hc aa bi ho he ht)];intro w e1;replace hp:=hp.bel (EnvD.ext e1)
   have hB:B.n<=w.heap.size:=by have:=hp.below.size;have:=hp.base;omega
   have hO:bE.ok w:=bE.keep w0.ok aF
   have a6:∀v' w' m',iP B (T.hs k) m w (T.ns x) (T.Es x).length (T.vs x) v' w' m'->jD w0.r P .any ops Q f (listed.setIfInBounds x true) (a.put o.dst v') w':=by
    intro v' w' m' aw;refine ih _ _ w' m' (by simpa using h9) (aa.set ho he) (by have:=pX hf;omega) (λj hj dl=>?_) (hp.next hc bi ho hf bv aw);rw[getD_set_ne false ab];simp_all
   cases hg:T.gs x with
   |true=>
    simp only[cz];refine jS (H0 (c9 hg)) ((c9 hg).sound o hO hp.heap hB (λid cs hl=>T.uy (i:=x) ab ab (fZ hl)) (λq cs hl=>?_) (λq hq hd=>?_) (λy hy=>?_) _ Q (λv' w' m' aw=>a6 v' w' m' aw))
    .refine T.uy (i:=x+1) ab ab ?_;rw[(T.step x o (vJ bi ho)).2.2.2.1];exact (kY _ _ _ _ _).2 (.inr ⟨q,hl,rfl⟩)
    .have dt:n<=T.ns x:=by have:=T.jK (i:=0) (j:=x) ab ab;rw[T.n0] at this;exact this
     rcases (hp.dom _).1 hd with h1|⟨j,hj,hl,h2,h3⟩
     .omega
     .have dm:j≠x:=by
       rintro rfl
       rw[dC,hf] at hl;cases hl
      have du:=(T.step j _ (dO ab)).2.2.2.2.1;have cl:=(T.step x _ (dO ab)).2.2.2.2.1
      rcases eX j x with h4|h4
      .have:=T.jK (i:=j+1) (j:=x) ab ab;omega
      .have:=T.jK (i:=x+1) (j:=j) ab ab;omega
    .refine mR y (λt e=>?_);subst e;exact hp.slot hc aa bi ho he (zn hy)
   |false=>
    simp only[dB,cP];obtain⟨h1,h2⟩:=d5 hg;refine a6 undef w m ?_;rw[h1,h2];exact⟨Mm.le.refl m,λi=>⟨.inl,λh=>h.elim id λh=>ak⟩,Bel.refl _ _,hp.heap,λb hb=>.inl hb,.tup rfl (λj p v hp=>by simp at hp)⟩
theorem Ep{K:Exit->St->Prop}(k:Nat){id:Nat}{Kp:Env->bz->Nat->Prop}(hm:P.follows .mixedOrders=true)(hc:Chk ops k)(hk:gh P ops nt (ops.toList.take k) e h n Kp)(ag:∀(B:Base)(w0:Ctx fk)(e':Env)(h':bz)(n':Nat),Kp e' h' n'->∀(f:Nat)(listed:Array Bool)(a:Act)(w:World)(m:Mm),listed.size=ops.size->Closed ops listed->(∀j,j<ops.size->(listed.getD j false=true↔j<k))->open_ listed<=f->Sim B w0 ⟨e',h',n',nt⟩ a w m->jD w0.r P .any ops (λe a w=>∃st' m',K e st'/\Sim B w0 st' a w m') f listed a w):cK fk P (.region id ops true) ⟨e,h,n,nt⟩ K:=by
 intro B w0 a w m hs;obtain⟨T,hK⟩:=zj _ _ _ _ hk
 have hlen:(ops.toList.take k).length=k:=by simp[hc.le]
 rw[hlen] at hK
 refine yC hm λw e1=>?_
 replace hs:=hs.move e1
 have h8:Sim B w0 ⟨e,h,n,nt⟩ a { w with drawn:=w.drawn+1 } m:=by
  have hb:Bel w.heap.size w { w with drawn:=w.drawn+1 }:=(Bel.refl _ _).drew;have hB:=hs.room;exact⟨hs.base,hs.below.trans (hb.mono hB),hs.defers,hs.size,λt=>(hs.env t).mono (Mm.le.refl m) (λ_ _ h=>h) (λb bt _=>hb.block b bt),hs.heap.below hb,hs.dom,hs.ids,hs.fr.mono (Mm.le.refl m) (λ_ _ h=>h) (λb bt _=>hb.block b bt) (bU _)⟩
 obtain⟨h1,h2,h3⟩:=En (T:=T) hc.le h8.heap h8.dom h8.ids k (bU _)
 have hf:∀i,(Array.replicate ops.size false).getD i false=false:=by
  intro i;rw[dC,ya]
  split<;>rfl
 refine Eo (T:=T) hc h3 (λf listed a w m=>ag B w0 _ _ _ hK f listed a w m) ops.size _ a _ m ae (λi o ho hl=>by rw[hf] at hl;cases hl) ?_ (λi _ _=>hf i) ⟨h8.base,h8.below,h8.defers,h8.size,h1,λid=>?_,(λi t hi hl=>by rw[hf] at hl;cases hl),λt _=>?_,by rw[h2];exact h8.fr⟩
 .unfold open_
  grind
 .rw[h8.dom];simp_all
 .rw[h2];exact h8.env t
theorem dD{K:Exit->St->Prop}(k:Nat){id:Nat}(hm:P.follows .mixedOrders=true)(bu:uw ops k=true)(hk:gh P ops nt (ops.toList.take k) e h n λe' h' n'=>dq P ops nt (ops.toList.drop k) e' h' n' λbq br c6=>K .normal ⟨bq,br,c6,nt⟩):cK fk P (.region id ops true) ⟨e,h,n,nt⟩ K:=by
 obtain⟨hc,a9⟩:=zm bu;refine Ep k hm hc hk (λB w0 e' h' n' hK f listed a w m h9 aa hl b4 hs=>?_);exact vI (Kr:=λbq br c6=>K .normal ⟨bq,br,c6,nt⟩) (λe' h' n' a' w' m' b5 ba=>⟨_,m',b5,ba⟩) hc.down a9 f k listed _ _ _ a w m (bU _) hc.le h9 aa hl b4 hK hs
end
end Go.Fi
namespace Go.Fi
open Go Go.RowKit
variable[bE]
def pD(P:Program)(env:Env)(h:bz):ResultVar->Option (AV×Prop)
 |.tmp t=>some (get env t,True)
 |.cell ad t=>match aOp P h 0 (ev env) (.load t (.tmp ad)) with
  |some (c,v,_)=>some (v,c)
  |none=>none
def jg(P:Program)(env:Env)(h:bz):List ResultVar->Option (List AV×Prop)
 |[]=>some ([],True)
 |r::rs=>match pD P env h r with
  |some (v,c)=>match jg P env h rs with
   |some (vs,d)=>some (v::vs,c/\d)
   |none=>none
  |none=>none
def oneOf:List AV->AV
 |[v]=>v
 |vs=>.tup vs
def oD(P:Program)(rs:List ResultVar)(st:St)(res:PV)(fr:Bool):Prop:=
 match jg P st.env st.heap rs with
 |some (vs,c)=>c/\frz st.heap 6 (oneOf vs)=some res/\(fr=true->eh st.heap 6 (oneOf vs)=true)
 |none=>False
def iT:Nat->List PV->Env
 |_,[]=>[]
 |i,p::r=>(i,.w false false p)::iT (i+1) r
def si(P:Program)(rs:List ResultVar)(res:PV)(fr:Bool):Exit->St->Prop
 |.normal,s=>oD P rs s res fr
 |.ret,s=>oD P rs s res fr
 |_,_=>False
section
variable{fk:Fk}{P:Program}{K:Exit->St->Prop}{st st':St}
omit [bE] in
theorem wR:∀(l:List PV)(i t:Nat),get (iT i l) t=if i<=t/\t<i+l.length then .w false false (l.getD (t-i) .undef) else .w false false .undef
 |[],i,t=>by simp[iT,get]
 |p::r,i,t=>by
  simp only[iT,get];by_cases h:i=t
  .subst h;simp
  .simp only[h,cP];rw[wR r (i+1) t]
   grind
def pE(tmps:Array Value):ResultVar->Sem Value
 |.tmp t=>pure (tmps.getD t undef)
 |.cell a t=>do loadVar t (<-asAddr (tmps.getD a undef))
theorem rq{B:Base}{w0:Ctx fk}{a:Act}{w:World}{m:Mm}(hs:Sim B w0 st a w m):∀(rs:List ResultVar)(vs:List AV)(c:Prop),jg P st.env st.heap rs=some (vs,c)->c->∃us:List Value,(rs.mapM (pE a.tmps)).run P w=.ok us w/\vs.length=us.length/\∀(j:Nat)(p:AV)(u:Value),vs[j]?=some p->us[j]?=some u->bG B (LB m st.heap) m w p u
 |[],vs,c,h,_=>by
  simp only[jg,cV,dz] at h;simp_all
 |r::rs,vs,c,h,hc=>by
  simp only[jg] at h;split at h
  .rename_i v d hr;split at h
   .rename_i bf d' d6;cases h;obtain⟨us,h1,h2,h3⟩:=rq hs rs bf d' d6 hc.2
    have bh:∃u,(pE a.tmps r).run P w=.ok u w/\bG B (LB m st.heap) m w v u:=by
     cases r with
     |tmp t=>
      simp only[pD,cV,dz] at hr;obtain⟨rfl,_⟩:=hr;exact⟨_,rfl,hs.env t⟩
     |cell ad t=>
      simp only[pD] at hr;split at hr
      .rename_i c0 v0 E0 h0;cases hr;have hx:bG B (LB m st.heap) m w (ev st.env (.tmp ad)) (a.eval (.tmp ad)):=hs.env ad;obtain⟨_,u,hu,ax⟩:=DI (P:=P) t (.tmp ad) { (default:Oper) with op:=.load t (.tmp ad)} rfl h0 hc.1 hs.heap (λid cs e=>fZ e) hx;refine⟨u,?_,ax⟩
       have hp:∃pa,a.tmps.getD ad undef=.pointer (some pa):=by
        have bo:bG B (LB m st.heap) m w (get st.env ad) (a.tmps.getD ad undef):=hs.env ad;simp only[aOp] at h0;split at h0
        .split at h0
         .rename_i id ver off e;rw[show ev st.env (.tmp ad)=get st.env ad from rfl] at e;rw[e] at bo;obtain⟨b,C,hv,_⟩:=bo.pb;exact⟨_,hv⟩
         .rename_i own f cells off e;rw[show ev st.env (.tmp ad)=get st.env ad from rfl] at e;rw[e] at bo;obtain⟨b,o',vals,hv,_⟩:=bo.qx;exact⟨_,hv⟩
         .cases h0
        .cases h0
       obtain⟨pa,c8⟩:=hp;have he:a.eval (.tmp ad)=.pointer (some pa):=c8;simp only[execOp,he,Instr.loadAt,Instr.sureAddr,Sem.run_bind,Sem.run_pure,Result.andThen_ok] at hu;simp only[pE,c8,asAddr,Sem.run_bind,Sem.run_pure,Result.andThen_ok]
       cases hl:(loadVar t pa).run P w with
       |ok x w1=>rw[hl] at hu;simp only[Result.andThen_ok,Result.ok.injEq,Next.value.injEq] at hu;rw[hu.1,hu.2]
       |halt x w1=>rw[hl] at hu;simp at hu
      .cases hr
    obtain⟨u,hu,dv⟩:=bh;refine⟨u::us,?_,by simp[h2],λj p q hp hq=>?_⟩
    .simp only[sK,Sem.run_bind,hu,h1,Result.andThen_ok,Sem.run_pure]
    grind
   .cases h
  .cases h
def Cw(P:Program)(fn:Func)(c:Code)(args:List PV)(res:PV)(fr:Bool):Prop:=
 ∀(G:Nat->Prop)(w:World)(vs:Array Value),bE.ok w->args.length=vs.size->(∀(j:Nat)(p:PV)(v:Value),args[j]?=some p->vs[j]?=some v->Rep G w p v) ->
  c.wpT none P (bodyPost P fn λe w'=>∃v,e=.returned v/\Bel w.heap.size w w'/\Rep (λb=>(b<w.heap.size->G b)/\(fr=true->w.heap.size<=b)) w' res v) { tmps:=vs++Array.replicate (fn.ntmps-vs.size) undef,defers:=[] } w
theorem Ge{fn:Func}{c:Code}{args:List PV}{res:PV}{fr:Bool}(bm:args.length<=fn.ntmps)(h:cK fk0 P c ⟨iT 0 args,[],0,fn.ntmps⟩ (si P fn.results.toList res fr)):Cw P fn c args res fr:=by
 refineλG w vs bw hlen ax=>?_
 have ba:Sim ⟨w.heap.size,G⟩ (⟨w,[],none,[],[],λri h=>au,bw⟩:Ctx fk0) ⟨iT 0 args,[],0,fn.ntmps⟩ { tmps:=vs++Array.replicate (fn.ntmps-vs.size) undef,defers:=[] } w ⟨λ_ _=>none,λ_=>0,λ_=>False⟩:=by
  refine⟨rfl,Bel.refl _ _,rfl,ar,λt=>?_,⟨λid cells hin=>(by cases hin),List.Pairwise.nil⟩,λi=>⟨λh=>h.elim,λh=>absurd h (oJ i)⟩,λid c hin=>(by cases hin),cG _,(λp hp=>by cases hp),λq hq=>by cases hq⟩;show bG _ _ _ _ (get (iT 0 args) t) _;rw[wR];split
  .rename_i ht
   have a4:t<args.length:=ab
   refine .w ?_ nofun
   have:(vs++Array.replicate (fn.ntmps-vs.size) undef).getD t undef=vs[t]'ab:=by
    rw[dC,sY ab,dE ab];rfl
   rw[this]
   refine (ax t _ _ al (dE ab)).imp λb hg=>⟨?_,nofun,λ_=>hg⟩
   rintro⟨id,cells,C,hin,_⟩
   cases hin
  .exact .w (.undef _) nofun
 refine eT (h _ _ _ _ _ ba) (λe a' w' ⟨st',m',hk,hs⟩=>?_)
 have main:oD P fn.results.toList st' res fr->a'.defers=[]/\∀w1,EnvD.E w' w1->∃v,(results fn a'.tmps).run P w1=.ok v w1/\∃v',Ending.returned v=.returned v'/\Bel w.heap.size w w1/\Rep (λb=>(b<w.heap.size->G b)/\(fr=true->w.heap.size<=b)) w1 res v':=by
  intro hr;refine⟨hs.defers,λw' e1=>?_⟩;replace hs:=hs.move e1;unfold oD at hr;split at hr
  .rename_i bf d c2;obtain⟨hd,cv,ct⟩:=hr;obtain⟨us,h1,h2,h3⟩:=rq hs _ _ _ c2 hd
   have c3:(results fn a'.tmps).run P w'=.ok (if h:us.toArray.size=1 then us.toArray[0] else .tuple us.toArray) w':=by
    have he:results fn a'.tmps=(do
     let vs <-fn.results.mapM (pE a'.tmps)
     pure (if h:vs.size=1 then vs[0] else .tuple vs)):=rfl
    rw[he,sL];simp only[Sem.run_bind,Sem.run_map,h1,Result.andThen_ok,Sem.run_pure]
   have bh:bG ⟨w.heap.size,G⟩ (LB m' st'.heap) m' w' (oneOf bf) (if h:us.toArray.size=1 then us.toArray[0] else .tuple us.toArray):=by
    have tupc:bf.length≠1->bG ⟨w.heap.size,G⟩ (LB m' st'.heap) m' w' (.tup bf) (if h:us.toArray.size=1 then us.toArray[0] else .tuple us.toArray):=by
     intro b';rw[dif_neg ar];exact .tup (by simpa using h2) (λj p u hp hu=>h3 j p u hp (by simpa using hu))
    match bf,h2,h3,tupc with
    |[],h2,h3,tupc=>exact tupc ae
    |[v],h2,h3,tupc=>
     obtain⟨u,rfl⟩:∃u,us=[u]:=Dd.1 aV;exact h3 0 v u rfl rfl
    |v::v2::r,h2,h3,tupc=>exact tupc ae
   refine⟨_,c3,_,rfl,hs.below,?_⟩;exact nI (B:=⟨w.heap.size,G⟩) hs.heap (λid cs e=>fZ e) fr (λb hb=>⟨λhl=>by simp only at hb;omega,λ_=>hb⟩) (λhf b hg=>⟨hg.2.2,λh=>by rw[hf] at h;cases h⟩) 6 _ _ _ cv ct bh
  trivial
 cases e<;>first|exact main hk|exact hk.elim
theorem Of{f:FuncId}{fn:Func}{c:Code}{args:List PV}{res:PV}{fr:Bool}(hf:P.funcs[f]?=some fn) (ao:(fn.name == "runtime.NumGoroutine")=false) (hb:fn.body=some c) (bm:args.length<=fn.ntmps) (h:cK fk0 P c ⟨iT 0 args,[],0,fn.ntmps⟩ (si P fn.results.toList res fr)):bX P f args res fr:=
 ⟨⟨fn,hf,ao,by rw[hb];rfl⟩,λG w vs bw hlen ax=>u7 hf hb (Ge bm h G w vs bw hlen ax)⟩
theorem rcK{f:FuncId}{fn:Func}{c:Code}{args:List PV}{res:PV}{fr:Bool}(hf:P.funcs[f]?=some fn)(h:cK fk0 P c ⟨iT 0 args,[],0,fn.ntmps⟩ (si P fn.results.toList res fr)) (ao:(fn.name == "runtime.NumGoroutine")=false:=by kernel_rfl) (hb:fn.body=some c:=by rfl) (bm:args.length<=fn.ntmps:=by exact ij aj):bX P f args res fr:=
 Of hf ao hb bm h
def sj:AV->AV->Prop
 |.w o f p,.w o' f' p'=>(o'=true->o=true)/\(f'=true->f=true)/\(p'=p\/p'=.undef/\f'=false)
 |a,b=>a=b
def sr(env:Env)(n:Nat):Env->Prop
 |[]=>True
 |(t,v)::r=>sj (get env t) v/\v.lt n=true/\sr env n r
def qH(h:bz)(n:Nat):bz->Prop
 |[]=>True
 |(i,c)::r=>bY h i=some c/\i<n/\AV.lt.ltL n c=true/\bY r i=none/\qH h n r
section
omit [bE]
theorem Gf{B:Base}{L:Nat->Prop}{m:Mm}{w:World}{x y:AV}{v:Value}(c5:sj x y)(h:bG B L m w x v):bG B L m w y v:=by
 unfold sj at c5;split at c5
 .obtain⟨h1,h2,h3⟩:=c5
  cases h with
  |w hr hf=>
   rcases h3 with rfl|⟨rfl,h4⟩
   .exact .w (hr.imp λb hg=>⟨hg.1,λe=>hg.2.1 (h1 e),hg.2.2⟩) (λe=>hf (h2 e))
   .exact .w (.undef _) (λe=>by rw[h4] at e;cases e)
 simp_all
theorem Gg{n:Nat}:∀{env' env:Env},sr env n env'->∀t,(sj (get env t) (get env' t)/\(get env' t).lt n=true)\/get env' t=.w false false .undef
 |[],env,_,t=>.inr rfl
 |(k,v)::r,env,h,t=>by
  obtain⟨h1,h2,h3⟩:=h;simp only[get];split
  .simp_all
  .exact Gg h3 t
theorem rr{n:Nat}{h:bz}:∀{h':bz},qH h n h'->∀i c,(i,c)∈h'->bY h i=some c/\i<n/\AV.lt.ltL n c=true
 |[],_,i,c,hin=>by cases hin
 |(k,v)::r,hh,i,c,hin=>by
  obtain⟨h1,h2,h3,h4,h5⟩:=hh
  rcases dU.1 hin with e|e
  .simp_all
  .exact rr h5 i c e
theorem AY:∀{h:bz}{i:Nat},bY h i=none->∀p∈h,p.1≠i
 |[],i,_,p,hp=>by cases hp
 |(k,v)::r,i,hh,p,hp=>by
  simp only[bY] at hh;split at hh
  .cases hh
  .rename_i hk
   rcases dU.1 hp with e|e
   .simp_all
   .exact AY hh p e
theorem Gh{n:Nat}{h:bz}:∀{h':bz},qH h n h'->h'.Pairwise λp q=>p.1≠q.1
 |[],_=>List.Pairwise.nil
 |(k,v)::r,hh=>by
  obtain⟨h1,h2,h3,h4,h5⟩:=hh;exact Ju.2 ⟨λq hq e=>AY h4 q hq e.symm,Gh h5⟩
end
theorem cY{env env':Env}{h h':bz}{n n' nt:Nat}(h1:sr env n' env')(h2:qH h n' h')(hk:fk.k<=n':=by first|exact cG _|omega|(simp;done)):Lek fk ⟨env,h,n,nt⟩ ⟨env',h',n',nt⟩:=by
 intro B w0 a w m hs
 have hL:∀b,LB { m with dom:=λi=>i<n' } h' b->LB m h b:=by
  rintro b ⟨id,c,C,hin,_,ha⟩
  obtain⟨g1,_,_⟩:=rr h2 id c hin;have hm:=fZ g1;exact⟨id,c,C,hm,(hs.dom id).2 (hs.ids id c hm),ha⟩
 refine⟨{ m with dom:=λi=>i<n' },hs.base,hs.below,hs.defers,hs.size,λt=>?_,⟨λid c hin hd=>?_,?_⟩,λi=>Iff.rfl,λid c hin=>(rr h2 id c hin).2.1,hk,λp hp=>⟨(hs.fr.2.1 p hp).1,(hs.fr.2.1 p hp).2.BN (AV.rQ hk (hs.fr.2.1 p hp).1) hL⟩,λq hq=>let ⟨o1,o2,o3,o4⟩:=hs.fr.2.2 q hq;⟨o1,o2,λh=>o3 (hL _ h),o4⟩⟩
 .show bG _ _ _ _ (get env' t) _
  rcases Gg h1 t with ⟨g1,g2⟩|g1
  .exact (Gf g1 (hs.env t)).BN g2 hL
  .rw[g1];exact .w (.undef _) nofun
 .obtain⟨g1,_,g3⟩:=rr h2 id c hin;have hm:=fZ g1;obtain⟨ht,bj⟩:=hs.heap.entry id c hm ((hs.dom id).2 (hs.ids id c hm));refine⟨ht,?_⟩
  rcases bj with bj|⟨b,C,cs,e,e1,e2,e3,e4,e5,e6⟩|bj
  .exact .inl bj
  .exact .inr (.inl ⟨b,C,cs,e,e1,e2,e3,e4,e5,λj p v hp hv=>(e6 j p v hp hv).BN (oL g3 j p hp) hL⟩)
  simp_all
 .have hk:=Gh h2;refine sJ ?_ hk;intro x y hx hy b';refine⟨b',λb C C' _ _ da db=>?_⟩;have mx:=fZ (rr h2 x.1 x.2 hx).1;have my:=fZ (rr h2 y.1 y.2 hy).1;have:=hs.heap.inj;rw[sQ] at this;obtain⟨p,hp,ep⟩:=kD mx;obtain⟨q,hq,eq⟩:=kD my;have dx:m.dom x.1:=(hs.dom _).2 (hs.ids _ _ mx);have dy:m.dom y.1:=(hs.dom _).2 (hs.ids _ _ my)
  grind
theorem Lek.refl(st:St):Lek fk st st:=λ_ _ _ _ m hs=>⟨m,hs⟩
theorem Lek.trans{a b c:St}(h:Lek fk a b)(k:Lek fk b c):Lek fk a c:=λB w0 x w m hs=>let ⟨m',h8⟩:=h B w0 x w m hs;k B w0 x w m' h8
end
end Go.Fi
