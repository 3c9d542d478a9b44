/- Lemmas. -/
import Derived.Test.YthpkmilhiganjaaGreatPLb
import Derived.Deep.LoopGhost
import Derived.KernelRfl
set_option linter.all false
set_option maxHeartbeats 32000000
set_option maxRecDepth 100000
namespace Go.Fi
open Go Go.RowKit
variable[av]
def fB(ops:Array Oper)(env:Env)(o:Oper):Option Bool:=
 match o.guard with
 |none=>some true
 |some (j,want)=>
  match (ops[j]?).bind (·.dst) with
  |none=>some false
  |some t=>
   match get env t with
   |.w _ _ (.bool b)=>some (b==want)
   |.tup []=>some false
   |_=>none
def bV(P:Program)(ops:Array Oper)(nt:Nat):List Oper->Env->ak->Nat->(Env->ak->Nat->Prop)->Prop
 |[],e,h,n,K=>K e h n
 |o::os,e,h,n,K=>
  match fB ops e o with
  |some g=>dOk nt o.dst/\(g=true->bH P e h n o.op λv h' n'=>bV P ops nt os (put e o.dst v) h' n' K) /\
    (g=false->bV P ops nt os (put e o.dst (.tup [])) h n K)
  |none=>False
def bm(fk:Fk)(P:Program)(c:Code)(st:St)(K:Exit->St->Prop):Prop:=
 ∀(B:Base)(w0:Ctx fk)(a:Act)(w:World)(m:Mm),Sim B w0 st a w m->c.wpT w0.r P (λe a' w'=>∃st' m',K e st'/\Sim B w0 st' a' w' m') a w
def Lek(fk:Fk)(st st':St):Prop:=∀(B:Base)(w0:Ctx fk)(a:Act)(w:World)(m:Mm),Sim B w0 st a w m->∃m',Sim B w0 st' a w m'
section
variable{fk:Fk}{P:Program}{K:Exit->St->Prop}{st st':St}
theorem pZ{ops:Array Oper}{env:Env}{o:Oper}{g:Bool}{B:Base}{w0:Ctx fk}{h:ak}{n nt:Nat}{a:Act}{w:World}{m:Mm}(hg:fB ops env o=some g)(hs:Sim B w0 ⟨env,h,n,nt⟩ a w m):Region.wanted o (yielded ops a.tmps)=g:=by
 unfold fB at hg;unfold Region.wanted;split at hg
 .simp_all
 .rename_i j want e;rw[e];simp only;split at hg
  .rename_i ed;cases hg;simp[yielded,ed]
  .rename_i t ed;have ht:=hs.env t;split at hg
   .rename_i ow f b eg;cases hg;rw[show get (St.env ⟨env,h,n,nt⟩) t=get env t from rfl,eg] at ht;have hv:=ht.jC
    have a4:t<a.tmps.size:=by
     rcases dF t a.tmps.size with h|h
     .exact h
     .rw[ck,CV h] at hv;cases hv
    have hq:a.tmps[t]?=some (.bool b):=by
     rw[ck,cJ a4] at hv;rw[cJ a4]
     grind
    simp only[yielded,ed,iP,hq]
    cases b<;>cases want<;>rfl
   .rename_i eg;cases hg;rw[show get (St.env ⟨env,h,n,nt⟩) t=get env t from rfl,eg] at ht;obtain⟨vs,hv,hl,_⟩:=ht.xo
    have c7:vs=#[]:=by grind
    subst c7
    have:yielded ops a.tmps j=none:=by
     simp only[yielded,ed,iP];rw[ck] at hv
     grind
    rw[this];rfl
   .cases hg
theorem ng{ops:Array Oper}{nt:Nat}{B:Base}{w0:Ctx fk}{Kr:Env->ak->Nat->Prop}{Q:Exit->Act->World->Prop}(hQ:∀e h n a w m,Kr e h n->Sim B w0 ⟨e,h,n,nt⟩ a w m->Q .normal a w):∀(os:List Oper)(e:Env)(h:ak)(n:Nat)(a:Act)(w:World)(m:Mm),bV P ops nt os e h n Kr->Sim B w0 ⟨e,h,n,nt⟩ a w m->gO w0.r P ops Q os a w
 |[],e,h,n,a,w,m,hk,hs=>hQ e h n a w m hk hs
 |o::os,e,h,n,a,w,m,hk,hs=>by
  simp only[bV] at hk;split at hk
  .rename_i g hg;have hw:=pZ hg hs;simp only[gO,hw];intro w1 e1;replace hs:=hs.move e1
   cases g with
   |true=>
    simp only[aX];exact jo (vD (hk.2.1 rfl)) (vE w0 o (K:=λv h' n'=>bV P ops nt os (put e o.dst v) h' n' Kr) (hk.2.1 rfl) hs hk.1 Q _ (λv h' n' a' w' m' aw h8=>ng hQ os _ _ _ _ _ m' aw h8))
   |false=>
    simp only[bI,a9];refine ng hQ os _ _ _ _ _ m (hk.2.2 rfl) ⟨hs.base,hs.below,by rw[jQ];exact hs.defers,by rw[jP];exact hs.size,?_,hs.heap,hs.dom,hs.ids,hs.fr⟩;exact na e a o.dst _ _ (by rw[hs.size];exact hk.1) (.tup rfl (λj p v hp=>by simp at hp)) hs.env
  trivial
theorem af{id:Nat}{ops:Array Oper}{env:Env}{h:ak}{n nt:Nat}(hk:bV P ops nt ops.toList env h n λe' h' n'=>K .normal ⟨e',h',n',nt⟩):bm fk P (.region id ops false) ⟨env,h,n,nt⟩ K:=
 λ_ _ _ _ _ hs=>qX (ng (λ_ _ _ _ _ m aw h8=>⟨_,m,aw,h8⟩) ops.toList _ _ _ _ _ _ hk hs)
theorem tj{c:Code}{K':Exit->St->Prop}(h:bm fk P c st K)(hk:∀e s,K e s->K' e s):bm fk P c st K':=
 λB w0 a w m hs=>dH (h B w0 a w m hs) (λ_ _ _ ⟨st',m',h1,h2⟩=>⟨st',m',hk _ _ h1,h2⟩)
def rQ(fk:Fk)(P:Program)(b:Code)(K:Exit->St->Prop):Exit->St->Prop
 |.normal,s=>bm fk P b s K
 |e,s=>K e s
theorem ai{x y:Code}(h:bm fk P x st (rQ fk P y K)):bm fk P (.seq x y) st K:=
 λB w0 a w m hs=>yE (dH (h B w0 a w m hs) (λe a' w' ⟨st',m',h1,h2⟩=>by
  cases e<;>first|exact h1 B w0 a' w' m' h2|exact⟨st',m',h1,h2⟩))
theorem au(h:K .normal st):bm fk P .skip st K:=λ_ _ _ _ m hs=>Jk ⟨st,m,h,hs⟩
theorem az(h:K .ret st):bm fk P .ret st K:=λ_ _ _ _ m hs=>Dn ⟨st,m,h,hs⟩
theorem aL{id:Nat}(h:K (.exit id) st):bm fk P (.exit id) st K:=λ_ _ _ _ m hs=>Jm ⟨st,m,h,hs⟩
def iB(id:Nat)(K:Exit->St->Prop):Exit->St->Prop
 |.exit cq,s=>if cq=id then K .normal s else K (.exit cq) s
 |e,s=>K e s
theorem fY{id:Nat}{c:Code}(h:bm fk P c st (iB id K)):bm fk P (.block id c) st K:=
 λB w0 a w m hs=>yG (dH (h B w0 a w m hs) (λe a' w' ⟨st',m',h1,h2⟩=>by
  cases e<;>first
   |exact⟨st',m',h1,h2⟩
   |(simp only[Exit.inBlock];simp only[iB] at h1;split<;>(rename_i bg;simp only[bg,aX,a9] at h1;exact⟨st',m',h1,h2⟩))))
def nN(v:AV)(X Y:Prop):Prop:=
 match v with
 |.w _ _ (.bool b)=>(b=true->X)/\(b=false->Y)
 |.w _ _ .ja=>X/\Y
 |_=>False
theorem Kw{c:Operand}{x y:Code}(h:nN (ev st.env c) (bm fk P x st K) (bm fk P y st K)):bm fk P (.cond c x y) st K:=by
 intro B w0 a w m hs;have hc:aA B (LB m st.heap) m w (ev st.env c) (a.eval c):=lQ c (λt _=>hs.env t);unfold nN at h;split at h
 .rename_i o f b e;rw[e] at hc;refine u5 hc.jC ?_;cases b
  .exact h.2 rfl B w0 a w m hs
  .exact h.1 rfl B w0 a w m hs
 .rename_i o f e;rw[e] at hc
  have:∃b,a.eval c=.bool b:=by
   generalize hv:a.eval c=v at hc
   cases hc with|w h _=>cases h with|ja b=>exact⟨b,rfl⟩
  obtain⟨b,hb⟩:=this;refine u5 hb ?_;cases b
  .exact h.2 B w0 a w m hs
  .exact h.1 B w0 a w m hs
 trivial
theorem Kx{c:Code}(h:fk.k<=st.nxt->bm fk P c st K):bm fk P c st K:=λB w0 a w m hs=>h hs.fr.1 B w0 a w m hs
def j3(fk:Fk){α:Type}(J:α->Prop)(I:α->St)(μ:α->Nat)(x:α)(K:Exit->St->Prop):Exit->St->Prop
 |.normal,s=>∃y,J y/\μ y<μ x/\Lek fk s (I y)
 |e,s=>K e s
theorem zo{c:Code}{α:Type}(J:α->Prop)(I:α->St)(μ:α->Nat)(x0:α)(hJ:J x0)(h0:Lek fk st (I x0))(round:∀x,J x->bm fk P c (I x) (j3 fk J I μ x K)):bm fk P (.loop c) st K:=by
 intro B w0 a w m hs;refine yH (λk a w=>∃x m,J x/\μ x=k/\Sim B w0 (I x) a w m) (μ x0) (by obtain⟨m',h⟩:=h0 B w0 a w m hs;grind) ?_
 rintro k a w ⟨x,m,hx,rfl,co⟩
 refine dH (round x hx B w0 a w m co) (λe a' w' ⟨st',m',h2,h3⟩=>?_)
 cases e<;>first
  |exact⟨st',m',h2,h3⟩
  |(obtain⟨y,hy,a4,hle⟩:=h2
    obtain⟨dh,h4⟩:=hle B w0 a' w' m' h3
    exact⟨μ y,a4,y,dh,hy,rfl,h4⟩)
def BR(fk:Fk){β:Type}(id:Nat)(F:β->Prop)(fin:β->St)(R:St->Prop):Exit->St->Prop
 |.exit i,s=>i=id/\∃y,F y/\Lek fk s (fin y)
 |.ret,s=>R s
 |_,_=>False
end
def reach(ops:Array Oper):Nat->Nat->Nat->Bool
 |0,_,_=>false
 |f+1,i,j=>
  match ops[i]? with
  |some o=>o.after.toList.any λe=>Region.binds .any e&&(e.on==j || reach ops f e.on j)
  |none=>false
def dp(ops:Array Oper)(i:Nat):Option Nat:=(ops[i]?).bind (·.dst)
def jd(ops:Array Oper)(o:Oper):List Nat:=
 (o.op.operands.toList.filterMap λx=>match x with | .tmp t=>some t|_=>none)++(match o.guard with|some (j,_)=>(dp ops j).toList|none=>[])
def um(ops:Array Oper)(k:Nat):Bool:=
 decide (k<=ops.size) &&
 ((List.range ops.size).all λi=>match ops[i]? with
   |some o=>o.after.toList.all λe=>!Region.binds .any e || decide (e.on<i)
   |none=>true) &&
 ((List.range k).all λi=>match ops[i]? with
   |some o=>((jd ops o).all λt=>(List.range k).all λj=>if dp ops j=some t then decide (j<i)&&reach ops 4 i j else true) &&
     ((List.range k).all λj=>decide (j=i) || o.dst.isNone || decide (dp ops j≠o.dst))
   |none=>false) &&
 ((List.range ops.size).all λi=>decide (i<k) || (List.range i).all λj=>reach ops 8 i j)
def fC(P:Program)(ops:Array Oper)(nt:Nat):List Oper->Env->ak->Nat->(Env->ak->Nat->Prop)->Prop
 |[],e,h,n,K=>K e h n
 |o::os,e,h,n,K=>
  match fB ops e o with
  |some g=>dOk nt o.dst/\(g=true->bG P e h n o.op λv E=>fC P ops nt os (put e o.dst v) (bu h n E) (n+E.length) K) /\
    (g=false->fC P ops nt os (put e o.dst (.tup [])) h n K)
  |none=>False
structure Tr(P:Program)(ops:Array Oper)(nt:Nat)(os:List Oper)(e:Env)(h:ak)(n:Nat) where
 es:Nat->Env
 hs:Nat->ak
 ns:Nat->Nat
 vs:Nat->AV
 Es:Nat->List (List AV)
 gs:Nat->Bool
 e0:es 0=e
 h0:hs 0=h
 n0:ns 0=n
 step:∀i o,os[i]?=some o->dOk nt o.dst/\fB ops (es i) o=some (gs i)/\es (i+1)=put (es i) o.dst (vs i)/\hs (i+1)=bu (hs i) (ns i) (Es i)/\ns (i+1)=ns i+(Es i).length /\
  (gs i=true->QF P (es i) (hs i) (ns i) o.op (vs i) (Es i))/\(gs i=false->vs i=.tup []/\Es i=[])
theorem zp{P:Program}{ops:Array Oper}{nt:Nat}{K:Env->ak->Nat->Prop}:∀(os:List Oper)(e:Env)(h:ak)(n:Nat),fC P ops nt os e h n K->∃T:Tr P ops nt os e h n,K (T.es os.length) (T.hs os.length) (T.ns os.length)
 |[],e,h,n,hk=>⟨⟨λ_=>e,λ_=>h,λ_=>n,λ_=>.tup [],λ_=>[],λ_=>true,rfl,rfl,rfl,λi o hi=>by simp at hi⟩,hk⟩
 |o::os,e,h,n,hk=>by
  simp only[fC] at hk;split at hk
  .rename_i g hg;obtain⟨hd,h1,h2⟩:=hk
   have main:∀(v:AV)(E:List (List AV)),(g=true->QF P e h n o.op v E)->(g=false->v=.tup []/\E=[])->fC P ops nt os (put e o.dst v) (bu h n E) (n+E.length) K ->
    ∃T:Tr P ops nt (o::os) e h n,K (T.es (o::os).length) (T.hs (o::os).length) (T.ns (o::os).length):=by
    intro v E q1 q2 hr;obtain⟨T,hK⟩:=zp os _ _ _ hr
    refine⟨⟨λi=>match i with|0=>e|i+1=>T.es i,λi=>match i with|0=>h|i+1=>T.hs i,λi=>match i with|0=>n|i+1=>T.ns i,
     λi=>match i with|0=>v|i+1=>T.vs i,λi=>match i with|0=>E|i+1=>T.Es i,λi=>match i with|0=>g|i+1=>T.gs i,rfl,rfl,rfl,λi o' hi=>?_⟩,hK⟩
    cases i with
    |zero=>
     simp at hi;subst hi;exact⟨hd,hg,T.e0,T.h0,T.n0,q1,q2⟩
    |succ i=>exact T.step i o' (by simpa using hi)
   cases g with
   |true=>
    obtain⟨v,E,q,hr⟩:=(h1 rfl).qf;exact main v E (λ_=>q) nofun hr
   |false=>exact main (.tup []) [] nofun (λ_=>⟨rfl,rfl⟩) (h2 rfl)
  trivial
section
variable{P:Program}{ops:Array Oper}{nt:Nat}{os:List Oper}{e:Env}{h:ak}{n:Nat}
theorem Tr.je(T:Tr P ops nt os e h n){i j:Nat}(bi:i<=j)(hj:j<=os.length):T.ns i<=T.ns j:=by
 induction j with
 |zero=>have:i=0:=by omega
        simp_all
 |succ j ih=>
  by_cases hi:i=j+1
  .simp_all
  .have:=ih (by omega) (by omega);have hs:=(T.step j os[j] (da (by omega))).2.2.2.2.1;omega
theorem Tr.uo(T:Tr P ops nt os e h n){i j:Nat}(bi:i<=j)(hj:j<=os.length){p:Nat×List AV}(hp:p∈T.hs i):p∈T.hs j:=by
 induction j with
 |zero=>have:i=0:=by omega
        simp_all
 |succ j ih=>
  by_cases hi:i=j+1
  .simp_all
  .have:=ih (by omega) (by omega);have hs:=(T.step j os[j] (da (by omega))).2.2.2.1;rw[hs];exact (jR (T.Es j) (T.hs j) (T.ns j) p.1 p.2).2 (.inl this)
theorem Tr.Hz(T:Tr P ops nt os e h n)(i:Nat)(hi:i<=os.length)(t:Nat):(∃(j:Nat)(o:Oper),j<i/\os[j]?=some o/\o.dst=some t/\get (T.es i) t=T.vs j)\/((∀(j:Nat)(o:Oper),j<i->os[j]?=some o->o.dst≠some t)/\get (T.es i) t=get e t):=by
 induction i with
 |zero=>rw[T.e0];simp
 |succ i ih=>
  have cy:os[i]?=some os[i]:=da (by omega);have hs:=(T.step i os[i] cy).2.2.1;rw[hs]
  cases hd:os[i].dst with
  |none=>
   simp only[put]
   grind
  |some d=>
   simp only[put,get]
   grind
end
end Go.Fi
namespace Go.Fi
open Go Go.RowKit
variable[av]
variable{fk:Fk}
section
variable{P:Program}{ops:Array Oper}{nt:Nat}{k:Nat}
def Closed(ops:Array Oper)(listed:Array Bool):Prop:=
 ∀(i:Nat)(o:Oper),ops[i]?=some o->listed.getD i false=true->∀e∈o.after,Region.binds .any e=true->listed.getD e.on false=true
omit [av] in
theorem lT{listed:Array Bool}(hc:Closed ops listed):∀(f i j:Nat)(o:Oper),ops[i]?=some o->(∀e∈o.after,Region.binds .any e=true->listed.getD e.on false=true)->reach ops f i j=true->listed.getD j false=true
 |0,_,_,_,_,_,h=>by trivial
 |f+1,i,j,o,ho,he,h=>by
  simp only[reach,ho,kE,bU,mW] at h;obtain⟨e,hin,hb,h1⟩:=h;have hl:=he e (qV.1 hin) hb
  rcases h1 with h1|h1
  .have:e.on=j:=by grind
   rw[<-this];exact hl
  .cases ax:ops[e.on]? with
   |none=>cases f<;>simp[reach,ax] at h1
   |some o'=>exact lT hc f e.on j o' ax (hc e.on o' ax hl) h1
omit [av] in
theorem Closed.set{listed:Array Bool}(hc:Closed ops listed){i:Nat}{o:Oper}(ho:ops[i]?=some o)(he:∀e∈o.after,Region.binds .any e=true->listed.getD e.on false=true):Closed ops (listed.setIfInBounds i true):=by
 intro j o' ax hl e hin hb;by_cases bi:i=j
 .subst bi
  rw[ho] at ax;injection ax with ax;subst ax
  exact getD_set_true (he e hin hb)
 .rw[getD_set_ne false bi] at hl;exact getD_set_true (hc j o' ax hl e hin hb)
def open_(listed:Array Bool):Nat:=listed.toList.countP (λb=>!b)
section
omit [av]
theorem p9{listed:Array Bool}{i:Nat}(hi:listed[i]?=some false):open_ (listed.setIfInBounds i true)+1=open_ listed:=by
 unfold open_
 grind
theorem qb{listed:Array Bool}(h:open_ listed=0){i:Nat}(hi:i<listed.size):listed.getD i false=true:=by
 unfold open_ at h;rw[List.countP_eq_zero] at h;have:=h listed[i] (by simp);rw[ck,cJ hi];simp_all
theorem qY{listed:Array Bool}(h9:listed.size=ops.size)(b4:∀(i:Nat)(o:Oper),ops[i]?=some o->∀e∈o.after,Region.binds .any e=true->e.on<i):∀i,i<ops.size->listed.getD i false=false->Region.ready .any ops listed≠[]:=by
 intro i
 induction i using Nat.strongRecOn with
 |_ i ih=>
  intro hi hl;by_cases hex:∃e∈ops[i].after,Region.binds .any e=true/\listed.getD e.on false=false
  .grind
  .intro ag
   have:i∈Region.ready .any ops listed:=mem_ready.2 ⟨by
    rw[ck,cJ (by omega)] at hl ⊢
    exact hl,ops[i],cJ hi,λe hin hb=>by
    simp_all⟩
   rw[ag] at this;cases this
theorem nh{listed:Array Bool}(h9:listed.size=ops.size){i:Nat}(hr:i∈Region.ready .any ops listed):∃o,ops[i]?=some o/\listed[i]?=some false/\∀e∈o.after,Region.binds .any e=true->listed.getD e.on false=true:=by
 obtain⟨h0,o,ho,he⟩:=mem_ready.1 hr
 have a4:i<listed.size:=by rw[h9];exact (bD.1 ho).1
 simp_all
end
theorem vG{B:Base}{w0:Ctx fk}{Kr:Env->ak->Nat->Prop}{Q:Exit->Act->World->Prop}(hQ:∀e h n a w m,Kr e h n->Sim B w0 ⟨e,h,n,nt⟩ a w m->Q .normal a w)(b4:∀(i:Nat)(o:Oper),ops[i]?=some o->∀e∈o.after,Region.binds .any e=true->e.on<i)(a7:∀i,k<=i->i<ops.size->∀j,j<i->reach ops 8 i j=true):∀(f i:Nat)(listed:Array Bool)(e:Env)(h:ak)(n:Nat)(a:Act)(w:World)(m:Mm),k<=i->i<=ops.size->listed.size=ops.size->Closed ops listed->(∀j,j<ops.size->(listed.getD j false=true↔j<i))->open_ listed<=f->bV P ops nt (ops.toList.drop i) e h n Kr->Sim B w0 ⟨e,h,n,nt⟩ a w m->iZ w0.r P .any ops Q f listed a w:=by
 intro f
 induction f with
 |zero=>
  intro i listed e h n a w m d2 hi h9 hc hl aq hk hs
  have a5:i=ops.size:=by
   rcases dF i ops.size with a4|df
   .have:=qb (x9.1 aq) (i:=i) (by omega);have:=(hl i a4).1 this;omega
   .omega
  subst a5;rw[Db (by simp)] at hk;refine⟨?_,hQ _ _ _ _ _ _ hk hs⟩
  cases hr:Region.ready .any ops listed with
  |nil=>rfl
  |cons x xs=>
   obtain⟨o,ho,hf,_⟩:=nh h9 (i:=x) (by rw[hr];simp);have hx:=(bD.1 ho).1;have:=(hl x hx).2 hx;rw[ck,hf] at this;cases this
 |succ f ih=>
  intro i listed e h n a w m d2 hi h9 hc hl aq hk hs;by_cases a4:i<ops.size
  .have b6:=qY h9 b4 i a4 (by
    cases hq:listed.getD i false with
    |true=>have:=(hl i a4).1 hq;omega
    |false=>rfl)
   refine⟨λag=>absurd ag b6,λx hx=>?_⟩;obtain⟨o,ho,hf,he⟩:=nh h9 hx;have bo:=(bD.1 ho).1
   have d8:x=i:=by
    have h1:¬x<i:=λd9=>by
     have:=(hl x bo).2 d9;rw[ck,hf] at this;cases this
    rcases dF i x with h2|h2
    .have:=lT hc 8 x i o ho he (a7 x (by omega) bo i h2);have:=(hl i a4).1 this;omega
    .omega
   subst d8
   have bb:ops.toList.drop x=o::ops.toList.drop (x+1):=by
    rw[SE (by simpa using a4)];congr 1
    have:ops.toList[x]?=some o:=by rw[iQ];exact ho
    rw[da (by simpa using a4)] at this;injection this
   rw[bb] at hk;simp only[bV] at hk
   have a6:∀e' h' n' a' w' m',bV P ops nt (ops.toList.drop (x+1)) e' h' n' Kr->Sim B w0 ⟨e',h',n',nt⟩ a' w' m'->iZ w0.r P .any ops Q f (listed.setIfInBounds x true) a' w':=by
    intro e' h' n' a' w' m' aw h8;refine ih (x+1) _ e' h' n' a' w' m' (by omega) (by omega) (by simpa using h9) (hc.set ho he) (λj hj=>?_) (by have:=p9 hf;omega) aw h8;by_cases cp:x=j
    .subst cp;rw[ck,iH];simp[h9,hj]
    .rw[getD_set_ne false cp,hl j hj];omega
   split at hk
   .rename_i g hg;unfold jW;rw[ho];simp only[pZ hg hs];intro w1 e1;replace hs:=hs.move e1
    cases g with
    |true=>
     simp only[aX];exact jo (vD (hk.2.1 rfl)) (vE w0 o (K:=λv h' n'=>bV P ops nt (ops.toList.drop (x+1)) (put e o.dst v) h' n' Kr) (hk.2.1 rfl) hs hk.1 Q _ (λv h' n' a' w' m' aw h8=>a6 _ _ _ _ _ m' aw h8))
    |false=>
     simp only[bI,a9];exact a6 _ _ _ _ _ m (hk.2.2 rfl) ⟨hs.base,hs.below,by rw[jQ];exact hs.defers,by rw[jP];exact hs.size,na e a o.dst _ _ (by rw[hs.size];exact hk.1) (.tup rfl (λj p v hp=>by simp at hp)) hs.env,hs.heap,hs.dom,hs.ids,hs.fr⟩
   trivial
  .have a5:i=ops.size:=by omega
   subst a5;rw[Db (by simp)] at hk
   have hr:Region.ready .any ops listed=[]:=by
    cases hr:Region.ready .any ops listed with
    |nil=>rfl
    |cons x xs=>
     obtain⟨o,ho,hf,_⟩:=nh h9 (i:=x) (by rw[hr];simp);have hx:=(bD.1 ho).1;have:=(hl x hx).2 hx;rw[ck,hf] at this;cases this
   refine⟨λ_=>hQ _ _ _ _ _ _ hk hs,λx hx=>?_⟩;rw[hr] at hx;cases hx
end
section
variable{P:Program}{ops:Array Oper}{nt:Nat}{k:Nat}
structure Chk(ops:Array Oper)(k:Nat):Prop where
 le:k<=ops.size
 down:∀(i:Nat)(o:Oper),ops[i]?=some o->∀e∈o.after,Region.binds .any e=true->e.on<i
 use:∀(i:Nat)(o:Oper),i<k->ops[i]?=some o->∀t∈jd ops o,∀j,j<k->dp ops j=some t->j<i/\reach ops 4 i j=true
 once:∀(i:Nat)(o:Oper),i<k->ops[i]?=some o->∀j,j<k->j≠i->∀t,o.dst=some t->dp ops j≠some t
 wait:∀i,k<=i->i<ops.size->∀j,j<k->reach ops 8 i j=true
omit [av] in
theorem zu(h:um ops k=true):Chk ops k/\(∀i,k<=i->i<ops.size->∀j,j<i->reach ops 8 i j=true):=by
 simp only[um,bU,decide_eq_true_eq,eh,gl] at h;obtain⟨⟨⟨h1,h2⟩,h3⟩,h4⟩:=h
 have a7:∀i,k<=i->i<ops.size->∀j,j<i->reach ops 8 i j=true:=by
  intro i hk hi j hj;have:=h4 i hi;simp only[mW,decide_eq_true_eq,eh,gl] at this
  rcases this with h|h
  .omega
  .exact h j hj
 refine⟨⟨h1,λi o ho e hin hb=>?_,λi o hi ho t ht j hj hd=>?_,λi o hi ho j hj b6 t ht hd=>?_,λi hk hi j hj=>a7 i hk hi j (by omega)⟩,a7⟩
 .have a4:=(bD.1 ho).1;have:=h2 i a4;simp only[ho,eh] at this;have:=this e (qV.2 hin);simpa[hb] using this
 .have:=h3 i hi;simp only[ho,bU,eh,gl] at this;have:=this.1 t ht j hj;simpa[hd] using this
 grind
omit [av] in
theorem zv{o:Oper}{t:Nat}(h:(.tmp t:Operand)∈o.op.operands):t∈jd ops o:=by
 unfold jd;refine iR.2 (.inl (List.mem_filterMap.2 ⟨.tmp t,qV.2 h,rfl⟩))
variable{e:Env}{h:ak}{n:Nat}
structure dq(P:Program)(ops:Array Oper)(nt k:Nat)(e:Env)(h:ak)(n:Nat)(T:Tr P ops nt (ops.toList.take k) e h n)(B:Base)(w0:Ctx fk)(listed:Array Bool)(a:Act)(w:World)(m:Mm):Prop where
 base:B.n=w0.w.heap.size
 below:Bel B.n w0.w w
 defers:a.defers=marks w0.ds
 size:a.tmps.size=nt
 heap:bt B (T.hs k) m w
 dom:∀id,m.dom id↔id<n\/∃i,i<k/\listed.getD i false=true/\T.ns i<=id/\id<T.ns i+(T.Es i).length
 done:∀i t,i<k->listed.getD i false=true->dp ops i=some t->aA B (LB m (T.hs k)) m w (T.vs i) (a.tmps.getD t undef)
 old:∀t,(∀i,i<k->listed.getD i false=true->dp ops i≠some t)->aA B (LB m (T.hs k)) m w (get e t) (a.tmps.getD t undef)
 fr:pb B w0 (LB m (T.hs k)) m w n
theorem dq.bel{T:Tr P ops nt (ops.toList.take k) e h n}{B:Base}{w0:Ctx fk}{listed:Array Bool}{a:Act}{w w':World}{m:Mm}(hp:dq P ops nt k e h n T B w0 listed a w m)(hb:Bel w.heap.size w w'):dq P ops nt k e h n T B w0 listed a w' m:=by
 have hr:B.n<=w.heap.size:=by have:=hp.below.size;have:=hp.base;omega
 have hm:∀x v,aA B (LB m (T.hs k)) m w x v->aA B (LB m (T.hs k)) m w' x v:=λx v h=>h.mono (Mm.le.refl m) (λ_ _ x=>x) (λb hl _=>hb.block b hl)
 exact⟨hp.base,hp.below.trans (hb.mono hr),hp.defers,hp.size,hp.heap.below hb,hp.dom,λi t hi hl hd=>hm _ _ (hp.done i t hi hl hd),λt ht=>hm _ _ (hp.old t ht),hp.fr.mono (Mm.le.refl m) (λ_ _ x=>x) (λb hl _=>hb.block b hl) (aE _)⟩
omit [av] in
theorem vH{i:Nat}{o:Oper}(hi:i<k)(ho:ops[i]?=some o):(ops.toList.take k)[i]?=some o:=by
 rw[jk,aB hi,iQ];exact ho
omit [av] in
theorem Em{i:Nat}{o:Oper}(ho:(ops.toList.take k)[i]?=some o):i<k/\ops[i]?=some o:=by
 rw[jk] at ho;simp_all
theorem dq.slot{T:Tr P ops nt (ops.toList.take k) e h n}{B:Base}{w0:Ctx fk}{listed:Array Bool}{a:Act}{w:World}{m:Mm}(hp:dq P ops nt k e h n T B w0 listed a w m)(hc:Chk ops k)(a8:Closed ops listed){i:Nat}{o:Oper}(hi:i<k)(ho:ops[i]?=some o)(he:∀e∈o.after,Region.binds .any e=true->listed.getD e.on false=true){t:Nat}(ht:t∈jd ops o):aA B (LB m (T.hs k)) m w (get (T.es i) t) (a.tmps.getD t undef):=by
 have hlen:(ops.toList.take k).length=k:=by simp[hc.le]
 rcases T.Hz i (by omega) t with ⟨j,oj,h1,h2,h3,h4⟩|⟨h1,h2⟩
 .obtain⟨hj,ay⟩:=Em h2
  have hd:dp ops j=some t:=by simp[dp,ay,h3]
  obtain⟨_,hr⟩:=hc.use i o hi ho t ht j hj hd;rw[h4];exact hp.done j t hj (lT a8 4 i j o ho he hr) hd
 .rw[h2];refine hp.old t (λj hj hl hd=>?_);obtain⟨bh,_⟩:=hc.use i o hi ho t ht j hj hd
  cases ay:ops[j]? with
  |none=>grind
  |some oj=>exact h1 j oj bh (vH hj ay) (by simpa[dp,ay] using hd)
omit [av] in
theorem zw{o:Oper}{env:Env}{g:Bool}(hg:fB ops env o=some g){a:Act}{B:Base}{L:Nat->Prop}{m:Mm}{w:World}(hs:∀t,t∈jd ops o->aA B L m w (get env t) (a.tmps.getD t undef)):Region.wanted o (yielded ops a.tmps)=g:=by
 unfold fB at hg;unfold Region.wanted;split at hg
 .simp_all
 .rename_i j want e;rw[e];simp only;split at hg
  .rename_i ed;cases hg;simp[yielded,ed]
  .rename_i t ed
   have ht:=hs t (by
    unfold jd;refine iR.2 (.inr ?_);rw[e]
    simp[dp,ed])
   split at hg
   .rename_i ow f b eg;cases hg;rw[eg] at ht;have hv:=ht.jC
    have a4:t<a.tmps.size:=by
     rcases dF t a.tmps.size with h|h
     .exact h
     .rw[ck,CV h] at hv;cases hv
    have hq:a.tmps[t]?=some (.bool b):=by
     rw[ck,cJ a4] at hv;rw[cJ a4]
     grind
    simp only[yielded,ed,iP,hq]
    cases b<;>cases want<;>rfl
   .rename_i eg;cases hg;rw[eg] at ht;obtain⟨vs,hv,hl,_⟩:=ht.xo
    have c7:vs=#[]:=by grind
    subst c7
    have:yielded ops a.tmps j=none:=by
     simp only[yielded,ed,iP];rw[ck] at hv
     grind
    rw[this];rfl
   .cases hg
omit [av] in
theorem oF{a:Act}{d:Option Nat}{v:Value}{t:Nat}(hd:dOk a.tmps.size d):(a.put d v).tmps.getD t undef=if d=some t then v else a.tmps.getD t undef:=by
 cases d with
 |none=>rfl
 |some d=>
  simp only[Act.put,bz];rw[ck,iH];by_cases h:d=t
  .subst h;simp only[aX];rw[aB (show d<a.tmps.size from hd)];rfl
  simp_all
theorem dq.next{T:Tr P ops nt (ops.toList.take k) e h n}{B:Base}{w0:Ctx fk}{listed:Array Bool}{a:Act}{w:World}{m:Mm}(hp:dq P ops nt k e h n T B w0 listed a w m)(hc:Chk ops k){i:Nat}{o:Oper}(hi:i<k)(ho:ops[i]?=some o)(hf:listed[i]?=some false){v':Value}{w':World}{m':Mm}(c3:dOk nt o.dst)(p:iw B (T.hs k) m w (T.ns i) (T.Es i).length (T.vs i) v' w' m'):dq P ops nt k e h n T B w0 (listed.setIfInBounds i true) (a.put o.dst v') w' m':=by
 obtain⟨p1,p2,p3,p4,p5,p6⟩:=p
 have hB:B.n<=w.heap.size:=by have:=hp.below.size;have:=hp.base;omega
 have hO:av.ok w:=av.keep w0.ok (by have:=hp.below;rw[hp.base] at this;exact this)
 have b5:∀p v,aA B (LB m (T.hs k)) m w p v->aA B (LB m' (T.hs k)) m' w' p v:=λp v hr=>hr.mono p1 (λb hb hn hl=>by
  grind) (λb hb _=>p3.block b hb)
 have cu:dp ops i=o.dst:=by simp[dp,ho]
 have cm:dOk a.tmps.size o.dst:=by rw[hp.size];exact c3
 have d3:(listed.setIfInBounds i true).getD i false=true:=by
  have:=(bD.1 hf).1;rw[ck,iH];simp[this]
 have d4:∀j,j≠i->(listed.setIfInBounds i true).getD j false=listed.getD j false:=λj hj=>getD_set_ne false (cK hj)
 have dl:listed.getD i false=false:=by rw[ck,hf];rfl
 refine⟨hp.base,hp.below.trans (p3.mono hB),by rw[jQ];exact hp.defers,by rw[jP];exact hp.size,p4,λid=>?_,λj t hj hl hd=>?_,λt ht=>?_,hp.fr.mono p1 (λb hb hn hl=>by
  grind) (λb hb _=>p3.block b hb) (aE _)⟩
 .rw[p2,hp.dom]
  grind
 .rw[oF cm];by_cases bh:j=i
  .simp_all
  .rw[d4 j bh] at hl
   have:o.dst≠some t:=λd5=>hc.once i o hi ho j hj bh t d5 hd
   rw[ar this];exact b5 _ _ (hp.done j t hj hl hd)
 .rw[oF cm];have h1:=ht i hi d3;rw[cu] at h1;rw[ar h1];refine b5 _ _ (hp.old t (λj hj hl=>ht j hj ?_))
  grind
theorem En{T:Tr P ops nt (ops.toList.take k) e h n}(hk:k<=ops.size){B:Base}{m:Mm}{w:World}(hs:bt B h m w)(hd:∀i,m.dom i↔i<n)(bg:∀id c,(id,c)∈h->id<n):∀i,i<=k->bt B (T.hs i) m w/\LB m (T.hs i)=LB m h/\(∀id c,(id,c)∈T.hs i->id<T.ns i):=by
 have hlen:(ops.toList.take k).length=k:=by simp[hk]
 intro i
 induction i with
 |zero=>intro _;rw[T.h0,T.n0];trivial
 |succ i ih=>
  intro hi;obtain⟨h1,h2,h3⟩:=ih (by omega);have bk:=T.step i _ (da (by omega))
  have hn:n<=T.ns i:=by have:=T.je (i:=0) (j:=i) (by omega) (by omega);rw[T.n0] at this;exact this
  obtain⟨h4,h5⟩:=vC (T.Es i) (T.hs i) (T.ns i) h1 (λj hj cv=>by have:=(hd j).1 cv;omega) h3;rw[bk.2.2.2.1];refine⟨h4,h5.trans h2,λid c hin=>?_⟩;rw[bk.2.2.2.2.1]
  rcases (jR _ _ _ _ _).1 hin with h6|⟨q,h6,rfl⟩
  .have:=h3 id c h6;omega
  grind
theorem Eo{T:Tr P ops nt (ops.toList.take k) e h n}(hc:Chk ops k){B:Base}{w0:Ctx fk}{Q:Exit->Act->World->Prop}(bg:∀id c,(id,c)∈T.hs k->id<T.ns k)(aa:∀(f:Nat)(listed:Array Bool)(a:Act)(w:World)(m:Mm),listed.size=ops.size->Closed ops listed->(∀j,j<ops.size->(listed.getD j false=true↔j<k))->open_ listed<=f->Sim B w0 ⟨T.es k,T.hs k,T.ns k,nt⟩ a w m->iZ w0.r P .any ops Q f listed a w):∀(f:Nat)(listed:Array Bool)(a:Act)(w:World)(m:Mm),listed.size=ops.size->Closed ops listed->open_ listed<=f->(∀i,k<=i->i<ops.size->listed.getD i false=false)->dq P ops nt k e h n T B w0 listed a w m->iZ w0.r P .any ops Q f listed a w:=by
 have hlen:(ops.toList.take k).length=k:=by simp[hc.le]
 have last:∀(f:Nat)(listed:Array Bool)(a:Act)(w:World)(m:Mm),listed.size=ops.size->Closed ops listed->open_ listed<=f->dq P ops nt k e h n T B w0 listed a w m->(∀i,i<k->listed.getD i false=true) ->
  (∀i,k<=i->i<ops.size->listed.getD i false=false)->iZ w0.r P .any ops Q f listed a w:=by
  intro f listed a w m h9 a8 aq hp a5 cf;refine aa f listed a w m h9 a8 (λj hj=>⟨λh1=>?_,λh1=>a5 j h1⟩) aq ⟨hp.base,hp.below,hp.defers,hp.size,λt=>?_,hp.heap,λid=>?_,bg,hp.fr.mono (Mm.le.refl m) (λ_ _ h=>h) (λ_ _ _=>rfl) (by have:=T.je (i:=0) (j:=k) (by omega) (by omega);rw[T.n0] at this;exact this)⟩
  .grind
  .rcases T.Hz k (by omega) t with ⟨j,oj,h1,h2,h3,h4⟩|⟨h1,h2⟩
   .obtain⟨hj,ay⟩:=Em h2;show aA _ _ _ _ (get (T.es k) t) _;rw[h4];exact hp.done j t hj (a5 j hj) (by simp[dp,ay,h3])
   .show aA _ _ _ _ (get (T.es k) t) _;rw[h2];refine hp.old t (λj hj _ hd=>?_)
    cases ay:ops[j]? with
    |none=>grind
    |some oj=>exact h1 j oj hj (vH hj ay) (by simpa[dp,ay] using hd)
  .rw[hp.dom];show _↔id<T.ns k
   have b':∀i,i<=k->(id<T.ns i↔id<n\/∃j,j<i/\T.ns j<=id/\id<T.ns j+(T.Es j).length):=by
    intro i
    induction i with
    |zero=>intro _;rw[T.n0];constructor
           .exact .inl
           .rintro (h|⟨j,h,_⟩)
            .exact h
            .omega
    |succ i ih=>
     intro hi;have bk:=(T.step i _ (da (by omega))).2.2.2.2.1;rw[bk];constructor
     .intro h1
      rcases dF id (T.ns i) with h2|h2
      .rcases (ih (by omega)).1 h2 with h3|⟨j,h3,h4⟩
       .exact .inl h3
       .exact .inr ⟨j,by omega,h4⟩
      .exact .inr ⟨i,by omega,h2,h1⟩
     .rintro (h1|⟨j,h1,h2,h3⟩)
      .have:=(ih (by omega)).2 (.inl h1);omega
      .by_cases bh:j=i
       .subst bh;exact h3
       .have:=(ih (by omega)).2 (.inr ⟨j,by omega,h2,h3⟩);omega
   rw[b' k (aE _)]
   grind
 intro f
 induction f with
 |zero=>
  intro listed a w m h9 a8 aq ao hp;have hz:=x9.1 aq
  have dk:k=ops.size:=by
   rcases dF k ops.size with h1|h1
   .have h2:=qb hz (i:=k) (by omega);rw[ao k (aE _) h1] at h2;cases h2
   simp_all
  exact last 0 listed a w m h9 a8 aq hp (λi hi=>qb hz (by omega)) ao
 |succ f ih=>
  intro listed a w m h9 a8 aq ao hp;by_cases a5:∀i,i<k->listed.getD i false=true
  .grind
  .obtain⟨i0,cz⟩:=Classical.not_forall.1 a5;obtain⟨hi0k,hi0l⟩:=Classical.not_imp.1 cz
   have hi0f:listed.getD i0 false=false:=by simp_all
   have b6:=qY h9 hc.down i0 (by have:=hc.le;omega) hi0f;refine⟨λag=>absurd ag b6,λx hx=>?_⟩;obtain⟨o,ho,hf,he⟩:=nh h9 hx;have bo:=(bD.1 ho).1
   have bc:x<k:=by
    rcases dF x k with h1|h1
    .exact h1
    .have:=lT a8 8 x i0 o ho he (hc.wait x h1 bo i0 hi0k);rw[hi0f] at this;cases this
   obtain⟨c3,hw,_,_,_,cj,d6⟩:=T.step x o (vH bc ho);unfold jW;rw[ho];simp only[zw hw (λt ht=>hp.slot hc a8 bc ho he ht)];intro w e1;replace hp:=hp.bel (EnvD.ext e1)
   have hB:B.n<=w.heap.size:=by have:=hp.below.size;have:=hp.base;omega
   have hO:av.ok w:=av.keep w0.ok (by have:=hp.below;rw[hp.base] at this;exact this)
   have a6:∀v' w' m',iw B (T.hs k) m w (T.ns x) (T.Es x).length (T.vs x) v' w' m'->iZ w0.r P .any ops Q f (listed.setIfInBounds x true) (a.put o.dst v') w':=by
    intro v' w' m' aj;refine ih _ _ w' m' (by simpa using h9) (a8.set ho he) (by have:=p9 hf;omega) (λj hj dg=>?_) (hp.next hc bc ho hf c3 aj);rw[getD_set_ne false (by omega)];simp_all
   cases hg:T.gs x with
   |true=>
    simp only[aX];refine jo (Hy (cj hg)) ((cj hg).sound o hO hp.heap hB (λid cs hl=>T.uo (i:=x) (by omega) (by omega) (fu hl)) (λq cs hl=>?_) (λq hq hd=>?_) (λy hy=>?_) _ Q (λv' w' m' aj=>a6 v' w' m' aj))
    .refine T.uo (i:=x+1) (by omega) (by omega) ?_;rw[(T.step x o (vH bc ho)).2.2.2.1];exact (jR _ _ _ _ _).2 (.inr ⟨q,hl,rfl⟩)
    .have dr:n<=T.ns x:=by have:=T.je (i:=0) (j:=x) (by omega) (by omega);rw[T.n0] at this;exact this
     rcases (hp.dom _).1 hd with h1|⟨j,hj,hl,h2,h3⟩
     .omega
     .have dj:j≠x:=by
       rintro rfl
       rw[ck,hf] at hl;cases hl
      have dt:=(T.step j _ (da (by omega))).2.2.2.2.1;have co:=(T.step x _ (da (by omega))).2.2.2.2.1
      rcases dF j x with h4|h4
      .have:=T.je (i:=j+1) (j:=x) (by omega) (by omega);omega
      .have:=T.je (i:=x+1) (j:=j) (by omega) (by omega);omega
    .refine lQ y (λt e=>?_);subst e;exact hp.slot hc a8 bc ho he (zv hy)
   |false=>
    simp only[bI,a9];obtain⟨h1,h2⟩:=d6 hg;refine a6 undef w m ?_;rw[h1,h2];exact⟨Mm.le.refl m,λi=>⟨.inl,λh=>h.elim id λh=>by grind⟩,Bel.refl _ _,hp.heap,λb hb=>.inl hb,.tup rfl (λj p v hp=>by simp at hp)⟩
theorem Ep{K:Exit->St->Prop}(k:Nat){id:Nat}{Kp:Env->ak->Nat->Prop}(hm:P.follows .mixedOrders=true)(hc:Chk ops k)(hk:fC P ops nt (ops.toList.take k) e h n Kp)(aa:∀(B:Base)(w0:Ctx fk)(e':Env)(h':ak)(n':Nat),Kp e' h' n'->∀(f:Nat)(listed:Array Bool)(a:Act)(w:World)(m:Mm),listed.size=ops.size->Closed ops listed->(∀j,j<ops.size->(listed.getD j false=true↔j<k))->open_ listed<=f->Sim B w0 ⟨e',h',n',nt⟩ a w m->iZ w0.r P .any ops (λe a w=>∃st' m',K e st'/\Sim B w0 st' a w m') f listed a w):bm fk P (.region id ops true) ⟨e,h,n,nt⟩ K:=by
 intro B w0 a w m hs;obtain⟨T,hK⟩:=zp _ _ _ _ hk
 have hlen:(ops.toList.take k).length=k:=by simp[hc.le]
 rw[hlen] at hK
 refine yJ hm λw e1=>?_
 replace hs:=hs.move e1
 have h8:Sim B w0 ⟨e,h,n,nt⟩ a { w with drawn:=w.drawn+1 } m:=by
  have hb:Bel w.heap.size w { w with drawn:=w.drawn+1 }:=(Bel.refl _ _).drew;have hB:=hs.room;exact⟨hs.base,hs.below.trans (hb.mono hB),hs.defers,hs.size,λt=>(hs.env t).mono (Mm.le.refl m) (λ_ _ h=>h) (λb bv _=>hb.block b bv),hs.heap.below hb,hs.dom,hs.ids,hs.fr.mono (Mm.le.refl m) (λ_ _ h=>h) (λb bv _=>hb.block b bv) (aE _)⟩
 obtain⟨h1,h2,h3⟩:=En (T:=T) hc.le h8.heap h8.dom h8.ids k (aE _)
 have hf:∀i,(Array.replicate ops.size false).getD i false=false:=by
  intro i;rw[ck,ya]
  split<;>rfl
 refine Eo (T:=T) hc h3 (λf listed a w m=>aa B w0 _ _ _ hK f listed a w m) ops.size _ a _ m (by simp) (λi o ho hl=>by rw[hf] at hl;cases hl) ?_ (λi _ _=>hf i) ⟨h8.base,h8.below,h8.defers,h8.size,h1,λid=>?_,(λi t hi hl=>by rw[hf] at hl;cases hl),λt _=>?_,by rw[h2];exact h8.fr⟩
 .unfold open_
  grind
 .rw[h8.dom];simp_all
 .rw[h2];exact h8.env t
theorem aQ{K:Exit->St->Prop}(k:Nat){id:Nat}(hm:P.follows .mixedOrders=true)(c2:um ops k=true)(hk:fC P ops nt (ops.toList.take k) e h n λe' h' n'=>bV P ops nt (ops.toList.drop k) e' h' n' λbp bq c9=>K .normal ⟨bp,bq,c9,nt⟩):bm fk P (.region id ops true) ⟨e,h,n,nt⟩ K:=by
 obtain⟨hc,a7⟩:=zu c2;refine Ep k hm hc hk (λB w0 e' h' n' hK f listed a w m h9 a8 hl aq hs=>?_);exact vG (Kr:=λbp bq c9=>K .normal ⟨bp,bq,c9,nt⟩) (λe' h' n' a' w' m' aw b9=>⟨_,m',aw,b9⟩) hc.down a7 f k listed _ _ _ a w m (aE _) hc.le h9 a8 hl aq hK hs
end
end Go.Fi
namespace Go.Fi
open Go Go.RowKit
variable[av]
def gz(P:Program)(env:Env)(h:ak):ResultVar->Option (AV×Prop)
 |.tmp t=>some (get env t,True)
 |.cell ad t=>match aOp P h 0 (ev env) (.load t (.tmp ad)) with
  |some (c,v,_)=>some (v,c)
  |none=>none
def eX(P:Program)(env:Env)(h:ak):List ResultVar->Option (List AV×Prop)
 |[]=>some ([],True)
 |r::rs=>match gz P env h r with
  |some (v,c)=>match eX P env h rs with
   |some (vs,d)=>some (v::vs,c/\d)
   |none=>none
  |none=>none
def oneOf:List AV->AV
 |[v]=>v
 |vs=>.tup vs
def nY(P:Program)(rs:List ResultVar)(st:St)(res:PV)(fr:Bool):Prop:=
 match eX P st.env st.heap rs with
 |some (vs,c)=>c/\frz st.heap 6 (oneOf vs)=some res/\(fr=true->dQ st.heap 6 (oneOf vs)=true)
 |none=>False
def iF:Nat->List PV->Env
 |_,[]=>[]
 |i,p::r=>(i,.w false false p)::iF (i+1) r
def sd(P:Program)(rs:List ResultVar)(res:PV)(fr:Bool):Exit->St->Prop
 |.normal,s=>nY P rs s res fr
 |.ret,s=>nY P rs s res fr
 |_,_=>False
section
variable{fk:Fk}{P:Program}{K:Exit->St->Prop}{st st':St}
omit [av] in
theorem wQ:∀(l:List PV)(i t:Nat),get (iF i l) t=if i<=t/\t<i+l.length then .w false false (l.getD (t-i) .undef) else .w false false .undef
 |[],i,t=>by simp[iF,get]
 |p::r,i,t=>by
  simp only[iF,get];by_cases h:i=t
  .subst h;simp
  .simp only[h,a9];rw[wQ r (i+1) t]
   grind
def pD(tmps:Array Value):ResultVar->Sem Value
 |.tmp t=>pure (tmps.getD t undef)
 |.cell a t=>do loadVar t (<-asAddr (tmps.getD a undef))
theorem rp{B:Base}{w0:Ctx fk}{a:Act}{w:World}{m:Mm}(hs:Sim B w0 st a w m):∀(rs:List ResultVar)(vs:List AV)(c:Prop),eX P st.env st.heap rs=some (vs,c)->c->∃us:List Value,(rs.mapM (pD a.tmps)).run P w=.ok us w/\vs.length=us.length/\∀(j:Nat)(p:AV)(u:Value),vs[j]?=some p->us[j]?=some u->aA B (LB m st.heap) m w p u
 |[],vs,c,h,_=>by
  simp only[eX,bz,bX] at h;simp_all
 |r::rs,vs,c,h,hc=>by
  simp only[eX] at h;split at h
  .rename_i v d hr;split at h
   .rename_i ba d' d7;cases h;obtain⟨us,h1,h2,h3⟩:=rp hs rs ba d' d7 hc.2
    have b7:∃u,(pD a.tmps r).run P w=.ok u w/\aA B (LB m st.heap) m w v u:=by
     cases r with
     |tmp t=>
      simp only[gz,bz,bX] at hr;obtain⟨rfl,_⟩:=hr;exact⟨_,rfl,hs.env t⟩
     |cell ad t=>
      simp only[gz] at hr;split at hr
      .rename_i c0 v0 E0 h0;cases hr;have hx:aA B (LB m st.heap) m w (ev st.env (.tmp ad)) (a.eval (.tmp ad)):=hs.env ad;obtain⟨_,u,hu,al⟩:=DI (P:=P) t (.tmp ad) { (default:Oper) with op:=.load t (.tmp ad)} rfl h0 hc.1 hs.heap (λid cs e=>fu e) hx;refine⟨u,?_,al⟩
       have hp:∃pa,a.tmps.getD ad undef=.pointer (some pa):=by
        have bl:aA B (LB m st.heap) m w (get st.env ad) (a.tmps.getD ad undef):=hs.env ad;simp only[aOp] at h0;split at h0
        .split at h0
         .rename_i id ver off e;rw[show ev st.env (.tmp ad)=get st.env ad from rfl] at e;rw[e] at bl;obtain⟨b,C,hv,_⟩:=bl.o7;exact⟨_,hv⟩
         .rename_i own f cells off e;rw[show ev st.env (.tmp ad)=get st.env ad from rfl] at e;rw[e] at bl;obtain⟨b,o',vals,hv,_⟩:=bl.qB;exact⟨_,hv⟩
         .cases h0
        .cases h0
       obtain⟨pa,cg⟩:=hp;have he:a.eval (.tmp ad)=.pointer (some pa):=cg;simp only[execOp,he,Instr.loadAt,Instr.sureAddr,Sem.run_bind,Sem.run_pure,Result.andThen_ok] at hu;simp only[pD,cg,asAddr,Sem.run_bind,Sem.run_pure,Result.andThen_ok]
       cases hl:(loadVar t pa).run P w with
       |ok x w1=>rw[hl] at hu;simp only[Result.andThen_ok,Result.ok.injEq,Next.value.injEq] at hu;rw[hu.1,hu.2]
       |halt x w1=>rw[hl] at hu;simp at hu
      .cases hr
    obtain⟨u,hu,dv⟩:=b7;refine⟨u::us,?_,by simp[h2],λj p q hp hq=>?_⟩
    .simp only[xY,Sem.run_bind,hu,h1,Result.andThen_ok,Sem.run_pure]
    grind
   .cases h
  .cases h
def mM(P:Program)(fn:Func)(c:Code)(args:List PV)(res:PV)(fr:Bool):Prop:=
 ∀(G:Nat->Prop)(w:World)(vs:Array Value),av.ok w->args.length=vs.size->(∀(j:Nat)(p:PV)(v:Value),args[j]?=some p->vs[j]?=some v->Rep G w p v) ->
  c.wpT none P (bodyPost P fn λe w'=>∃v,e=.returned v/\Bel w.heap.size w w'/\Rep (λb=>(b<w.heap.size->G b)/\(fr=true->w.heap.size<=b)) w' res v) { tmps:=vs++Array.replicate (fn.ntmps-vs.size) undef,defers:=[] } w
theorem ny{fn:Func}{c:Code}{args:List PV}{res:PV}{fr:Bool}(bj:args.length<=fn.ntmps)(h:bm fk0 P c ⟨iF 0 args,[],0,fn.ntmps⟩ (sd P fn.results.toList res fr)):mM P fn c args res fr:=by
 refineλG w vs c4 hlen al=>?_
 have b9:Sim ⟨w.heap.size,G⟩ (⟨w,[],none,[],[],λri h=>(by cases h),c4⟩:Ctx fk0) ⟨iF 0 args,[],0,fn.ntmps⟩ { tmps:=vs++Array.replicate (fn.ntmps-vs.size) undef,defers:=[] } w ⟨λ_ _=>none,λ_=>0,λ_=>False⟩:=by
  refine⟨rfl,Bel.refl _ _,rfl,by simp;omega,λt=>?_,⟨λid cells hin=>(by cases hin),List.Pairwise.nil⟩,λi=>⟨λh=>h.elim,λh=>absurd h (ye i)⟩,λid c hin=>(by cases hin),aK _,(λp hp=>by cases hp),λq hq=>by cases hq⟩;show aA _ _ _ _ (get (iF 0 args) t) _;rw[wQ];split
  .rename_i ht
   have a4:t<args.length:=by omega
   refine .w ?_ nofun
   have:(vs++Array.replicate (fn.ntmps-vs.size) undef).getD t undef=vs[t]'(by omega):=by
    rw[ck,sS (by omega),cJ (by omega)];rfl
   rw[this]
   refine (al t _ _ (by simp_all) (cJ (by omega))).imp λb hg=>⟨?_,nofun,λ_=>hg⟩
   rintro⟨id,cells,C,hin,_⟩
   cases hin
  .exact .w (.undef _) nofun
 refine dH (h _ _ _ _ _ b9) (λe a' w' ⟨st',m',hk,hs⟩=>?_)
 have main:nY P fn.results.toList st' res fr->a'.defers=[]/\∀w1,EnvD.E w' w1->∃v,(results fn a'.tmps).run P w1=.ok v w1/\∃v',Ending.returned v=.returned v'/\Bel w.heap.size w w1/\Rep (λb=>(b<w.heap.size->G b)/\(fr=true->w.heap.size<=b)) w1 res v':=by
  intro hr;refine⟨hs.defers,λw' e1=>?_⟩;replace hs:=hs.move e1;unfold nY at hr;split at hr
  .rename_i ba d c5;obtain⟨hd,cx,cw⟩:=hr;obtain⟨us,h1,h2,h3⟩:=rp hs _ _ _ c5 hd
   have c6:(results fn a'.tmps).run P w'=.ok (if h:us.toArray.size=1 then us.toArray[0] else .tuple us.toArray) w':=by
    have he:results fn a'.tmps=(do
     let vs <-fn.results.mapM (pD a'.tmps)
     pure (if h:vs.size=1 then vs[0] else .tuple vs)):=rfl
    rw[he,sK];simp only[Sem.run_bind,Sem.run_map,h1,Result.andThen_ok,Sem.run_pure]
   have b7:aA ⟨w.heap.size,G⟩ (LB m' st'.heap) m' w' (oneOf ba) (if h:us.toArray.size=1 then us.toArray[0] else .tuple us.toArray):=by
    have tupc:ba.length≠1->aA ⟨w.heap.size,G⟩ (LB m' st'.heap) m' w' (.tup ba) (if h:us.toArray.size=1 then us.toArray[0] else .tuple us.toArray):=by
     intro b6;rw[dif_neg (by simp;omega)];exact .tup (by simpa using h2) (λj p u hp hu=>h3 j p u hp (by simpa using hu))
    match ba,h2,h3,tupc with
    |[],h2,h3,tupc=>exact tupc (by simp)
    |[v],h2,h3,tupc=>
     obtain⟨u,rfl⟩:∃u,us=[u]:=Dg.1 (by simpa using h2.symm);exact h3 0 v u rfl rfl
    |v::v2::r,h2,h3,tupc=>exact tupc (by simp)
   refine⟨_,c6,_,rfl,hs.below,?_⟩;exact m9 (B:=⟨w.heap.size,G⟩) hs.heap (λid cs e=>fu e) fr (λb hb=>⟨λhl=>by simp only at hb;omega,λ_=>hb⟩) (λhf b hg=>⟨hg.2.2,λh=>by rw[hf] at h;cases h⟩) 6 _ _ _ cx cw b7
  trivial
 cases e<;>first|exact main hk|exact hk.elim
theorem NL{f:FuncId}{fn:Func}{c:Code}{args:List PV}{res:PV}{fr:Bool}(hf:P.funcs[f]?=some fn) (ae:(fn.name == "runtime.NumGoroutine")=false) (hb:fn.body=some c) (bj:args.length<=fn.ntmps) (h:bm fk0 P c ⟨iF 0 args,[],0,fn.ntmps⟩ (sd P fn.results.toList res fr)):aC P f args res fr:=
 ⟨⟨fn,hf,ae,by rw[hb];rfl⟩,λG w vs c4 hlen al=>u6 hf hb (ny bj h G w vs c4 hlen al)⟩
theorem rcK{f:FuncId}{fn:Func}{c:Code}{args:List PV}{res:PV}{fr:Bool}(hf:P.funcs[f]?=some fn)(h:bm fk0 P c ⟨iF 0 args,[],0,fn.ntmps⟩ (sd P fn.results.toList res fr)) (ae:(fn.name == "runtime.NumGoroutine")=false:=by kernel_rfl) (hb:fn.body=some c:=by rfl) (bj:args.length<=fn.ntmps:=by exact di (by kernel_rfl)):aC P f args res fr:=
 NL hf ae hb bj h
def se:AV->AV->Prop
 |.w o f p,.w o' f' p'=>(o'=true->o=true)/\(f'=true->f=true)/\(p'=p\/p'=.undef/\f'=false)
 |a,b=>a=b
def si(env:Env)(n:Nat):Env->Prop
 |[]=>True
 |(t,v)::r=>se (get env t) v/\v.lt n=true/\si env n r
def qK(h:ak)(n:Nat):ak->Prop
 |[]=>True
 |(i,c)::r=>bf h i=some c/\i<n/\AV.lt.ltL n c=true/\bf r i=none/\qK h n r
section
omit [av]
theorem F8{B:Base}{L:Nat->Prop}{m:Mm}{w:World}{x y:AV}{v:Value}(c8:se x y)(h:aA B L m w x v):aA B L m w y v:=by
 unfold se at c8;split at c8
 .obtain⟨h1,h2,h3⟩:=c8
  cases h with
  |w hr hf=>
   rcases h3 with rfl|⟨rfl,h4⟩
   .exact .w (hr.imp λb hg=>⟨hg.1,λe=>hg.2.1 (h1 e),hg.2.2⟩) (λe=>hf (h2 e))
   .exact .w (.undef _) (λe=>by rw[h4] at e;cases e)
 simp_all
theorem F9{n:Nat}:∀{env' env:Env},si env n env'->∀t,(se (get env t) (get env' t)/\(get env' t).lt n=true)\/get env' t=.w false false .undef
 |[],env,_,t=>.inr rfl
 |(k,v)::r,env,h,t=>by
  obtain⟨h1,h2,h3⟩:=h;simp only[get];split
  .simp_all
  .exact F9 h3 t
theorem rq{n:Nat}{h:ak}:∀{h':ak},qK h n h'->∀i c,(i,c)∈h'->bf h i=some c/\i<n/\AV.lt.ltL n c=true
 |[],_,i,c,hin=>by cases hin
 |(k,v)::r,hh,i,c,hin=>by
  obtain⟨h1,h2,h3,h4,h5⟩:=hh
  rcases cD.1 hin with e|e
  .simp_all
  .exact rq h5 i c e
theorem Bb:∀{h:ak}{i:Nat},bf h i=none->∀p∈h,p.1≠i
 |[],i,_,p,hp=>by cases hp
 |(k,v)::r,i,hh,p,hp=>by
  simp only[bf] at hh;split at hh
  .cases hh
  .rename_i hk
   rcases cD.1 hp with e|e
   .simp_all
   .exact Bb hh p e
theorem Ga{n:Nat}{h:ak}:∀{h':ak},qK h n h'->h'.Pairwise λp q=>p.1≠q.1
 |[],_=>List.Pairwise.nil
 |(k,v)::r,hh=>by
  obtain⟨h1,h2,h3,h4,h5⟩:=hh;exact IY.2 ⟨λq hq e=>Bb h4 q hq e.symm,Ga h5⟩
end
theorem aD{env env':Env}{h h':ak}{n n' nt:Nat}(h1:si env n' env')(h2:qK h n' h')(hk:fk.k<=n':=by first|exact aK _|omega|(simp;done)):Lek fk ⟨env,h,n,nt⟩ ⟨env',h',n',nt⟩:=by
 intro B w0 a w m hs
 have hL:∀b,LB { m with dom:=λi=>i<n' } h' b->LB m h b:=by
  rintro b ⟨id,c,C,hin,_,ha⟩
  obtain⟨g1,_,_⟩:=rq h2 id c hin;have hm:=fu g1;exact⟨id,c,C,hm,(hs.dom id).2 (hs.ids id c hm),ha⟩
 refine⟨{ m with dom:=λi=>i<n' },hs.base,hs.below,hs.defers,hs.size,λt=>?_,⟨λid c hin hd=>?_,?_⟩,λi=>Iff.rfl,λid c hin=>(rq h2 id c hin).2.1,hk,λp hp=>⟨(hs.fr.2.1 p hp).1,(hs.fr.2.1 p hp).2.BQ (AV.rO hk (hs.fr.2.1 p hp).1) hL⟩,λq hq=>let ⟨o1,o2,o3,o4⟩:=hs.fr.2.2 q hq;⟨o1,o2,λh=>o3 (hL _ h),o4⟩⟩
 .show aA _ _ _ _ (get env' t) _
  rcases F9 h1 t with ⟨g1,g2⟩|g1
  .exact (F8 g1 (hs.env t)).BQ g2 hL
  .rw[g1];exact .w (.undef _) nofun
 .obtain⟨g1,_,g3⟩:=rq h2 id c hin;have hm:=fu g1;obtain⟨ht,bd⟩:=hs.heap.entry id c hm ((hs.dom id).2 (hs.ids id c hm));refine⟨ht,?_⟩
  rcases bd with bd|⟨b,C,cs,e,e1,e2,e3,e4,e5,e6⟩|bd
  .exact .inl bd
  .exact .inr (.inl ⟨b,C,cs,e,e1,e2,e3,e4,e5,λj p v hp hv=>(e6 j p v hp hv).BQ (oD g3 j p hp) hL⟩)
  simp_all
 .have hk:=Ga h2;refine sJ ?_ hk;intro x y hx hy b6;refine⟨b6,λb C C' _ _ db dc=>?_⟩;have mx:=fu (rq h2 x.1 x.2 hx).1;have my:=fu (rq h2 y.1 y.2 hy).1;have:=hs.heap.inj;rw[sN] at this;obtain⟨p,hp,ep⟩:=lN mx;obtain⟨q,hq,eq⟩:=lN my;have dx:m.dom x.1:=(hs.dom _).2 (hs.ids _ _ mx);have dy:m.dom y.1:=(hs.dom _).2 (hs.ids _ _ my)
  grind
theorem Lek.refl(st:St):Lek fk st st:=λ_ _ _ _ m hs=>⟨m,hs⟩
theorem Lek.trans{a b c:St}(h:Lek fk a b)(k:Lek fk b c):Lek fk a c:=λB w0 x w m hs=>let ⟨m',h8⟩:=h B w0 x w m hs;k B w0 x w m' h8
end
end Go.Fi
