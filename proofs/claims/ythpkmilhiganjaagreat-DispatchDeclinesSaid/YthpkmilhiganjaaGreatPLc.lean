/- Lemmas. -/
import Derived.Test.YthpkmilhiganjaaGreatPLb
import Derived.Deep.LoopGhost
import Derived.KernelRfl
set_option linter.all false
set_option maxHeartbeats 32000000
set_option maxRecDepth 100000
namespace Go.Fi
open Go Go.RowKit
variable[ak]
def fE(ops:Array Oper)(env:Env)(o:Oper):Option Bool:=
 match o.guard with
 |none=>some true
 |some (j,want)=>
  match (ops[j]?).bind (·.dst) with
  |none=>some false
  |some t=>
   match get env t with
   |.w _ _ (.bool b)=>some (b==want)
   |.tup []=>some false
   |_=>none
def bD(P:Program)(ops:Array Oper)(nt:Nat):List Oper->Env->ae->Nat->(Env->ae->Nat->Prop)->Prop
 |[],e,h,n,K=>K e h n
 |o::os,e,h,n,K=>
  match fE ops e o with
  |some g=>dOk nt o.dst/\(g=true->bn P e h n o.op λv h' n'=>bD P ops nt os (put e o.dst v) h' n' K) /\
    (g=false->bD P ops nt os (put e o.dst (.tup [])) h n K)
  |none=>False
def aS(fk:Fk)(P:Program)(c:Code)(st:St)(K:Exit->St->Prop):Prop:=
 ∀(B:Base)(w0:Ctx fk)(a:Act)(w:World)(m:Mm),Sim B w0 st a w m->c.wpT w0.r P (λe a' w'=>∃st' m',K e st'/\Sim B w0 st' a' w' m') a w
def Lek(fk:Fk)(st st':St):Prop:=∀(B:Base)(w0:Ctx fk)(a:Act)(w:World)(m:Mm),Sim B w0 st a w m->∃m',Sim B w0 st' a w m'
section
variable{fk:Fk}{P:Program}{K:Exit->St->Prop}{st st':St}
theorem o8{ops:Array Oper}{env:Env}{o:Oper}{g:Bool}{B:Base}{w0:Ctx fk}{h:ae}{n nt:Nat}{a:Act}{w:World}{m:Mm}(hg:fE ops env o=some g)(hs:Sim B w0 ⟨env,h,n,nt⟩ a w m):Region.wanted o (yielded ops a.tmps)=g:=by
 unfold fE at hg;unfold Region.wanted;split at hg
 .simp_all
 .rename_i j want e;rw[e];simp only;split at hg
  .rename_i ed;cases hg;simp[yielded,ed]
  .rename_i t ed;have ht:=hs.env t;split at hg
   .rename_i ow f b eg;cases hg;rw[show get (St.env ⟨env,h,n,nt⟩) t=get env t from rfl,eg] at ht;have hv:=ht.jy
    have a4:t<a.tmps.size:=by
     rcases dN t a.tmps.size with h|h
     .exact h
     .rw[bQ,Ci h] at hv;cases hv
    have hq:a.tmps[t]?=some (.bool b):=by
     rw[bQ,bS a4] at hv;rw[bS a4]
     grind
    simp only[yielded,ed,iP,hq]
    cases b<;>cases want<;>rfl
   .rename_i eg;cases hg;rw[show get (St.env ⟨env,h,n,nt⟩) t=get env t from rfl,eg] at ht;obtain⟨vs,hv,hl,_⟩:=ht.wD
    have c8:vs=#[]:=by grind
    subst c8
    have:yielded ops a.tmps j=none:=by
     simp only[yielded,ed,iP];rw[bQ] at hv
     grind
    rw[this];rfl
   .cases hg
theorem mP{ops:Array Oper}{nt:Nat}{B:Base}{w0:Ctx fk}{Kr:Env->ae->Nat->Prop}{Q:Exit->Act->World->Prop}(hQ:∀e h n a w m,Kr e h n->Sim B w0 ⟨e,h,n,nt⟩ a w m->Q .normal a w):∀(os:List Oper)(e:Env)(h:ae)(n:Nat)(a:Act)(w:World)(m:Mm),bD P ops nt os e h n Kr->Sim B w0 ⟨e,h,n,nt⟩ a w m->gN w0.r P ops Q os a w
 |[],e,h,n,a,w,m,hk,hs=>hQ e h n a w m hk hs
 |o::os,e,h,n,a,w,m,hk,hs=>by
  simp only[bD] at hk;split at hk
  .rename_i g hg;have hw:=o8 hg hs;simp only[gN,hw];intro w1 e1;replace hs:=hs.move e1
   cases g with
   |true=>
    simp only[aJ];exact jk (uR (hk.2.1 rfl)) (uS w0 o (K:=λv h' n'=>bD P ops nt os (put e o.dst v) h' n' Kr) (hk.2.1 rfl) hs hk.1 Q _ (λv h' n' a' w' m' b4 h8=>mP hQ os _ _ _ _ _ m' b4 h8))
   |false=>
    simp only[bw,aQ];refine mP hQ os _ _ _ _ _ m (hk.2.2 rfl) ⟨hs.base,hs.below,by rw[jM];exact hs.defers,by rw[jL];exact hs.size,?_,hs.heap,hs.dom,hs.ids,hs.fr⟩;exact mN e a o.dst _ _ (by rw[hs.size];exact hk.1) (.tup rfl (λj p v hp=>by simp at hp)) hs.env
  trivial
theorem af{id:Nat}{ops:Array Oper}{env:Env}{h:ae}{n nt:Nat}(hk:bD P ops nt ops.toList env h n λe' h' n'=>K .normal ⟨e',h',n',nt⟩):aS fk P (.region id ops false) ⟨env,h,n,nt⟩ K:=
 λ_ _ _ _ _ hs=>qu (mP (λ_ _ _ _ _ m b4 h8=>⟨_,m,b4,h8⟩) ops.toList _ _ _ _ _ _ hk hs)
theorem sd{c:Code}{K':Exit->St->Prop}(h:aS fk P c st K)(hk:∀e s,K e s->K' e s):aS fk P c st K':=
 λB w0 a w m hs=>dK (h B w0 a w m hs) (λ_ _ _ ⟨st',m',h1,h2⟩=>⟨st',m',hk _ _ h1,h2⟩)
def qS(fk:Fk)(P:Program)(b:Code)(K:Exit->St->Prop):Exit->St->Prop
 |.normal,s=>aS fk P b s K
 |e,s=>K e s
theorem aj{x y:Code}(h:aS fk P x st (qS fk P y K)):aS fk P (.seq x y) st K:=
 λB w0 a w m hs=>xT (dK (h B w0 a w m hs) (λe a' w' ⟨st',m',h1,h2⟩=>by
  cases e<;>first|exact h1 B w0 a' w' m' h2|exact⟨st',m',h1,h2⟩))
theorem aE(h:K .normal st):aS fk P .skip st K:=λ_ _ _ _ m hs=>IH ⟨st,m,h,hs⟩
theorem av(h:K .ret st):aS fk P .ret st K:=λ_ _ _ _ m hs=>Cz ⟨st,m,h,hs⟩
theorem aK{id:Nat}(h:K (.exit id) st):aS fk P (.exit id) st K:=λ_ _ _ _ m hs=>IJ ⟨st,m,h,hs⟩
def gS(id:Nat)(K:Exit->St->Prop):Exit->St->Prop
 |.exit cp,s=>if cp=id then K .normal s else K (.exit cp) s
 |e,s=>K e s
theorem fT{id:Nat}{c:Code}(h:aS fk P c st (gS id K)):aS fk P (.block id c) st K:=
 λB w0 a w m hs=>xU (dK (h B w0 a w m hs) (λe a' w' ⟨st',m',h1,h2⟩=>by
  cases e<;>first
   |exact⟨st',m',h1,h2⟩
   |(simp only[Exit.inBlock];simp only[gS] at h1;split<;>(rename_i bl;simp only[bl,aJ,aQ] at h1;exact⟨st',m',h1,h2⟩))))
def ni(v:AV)(X Y:Prop):Prop:=
 match v with
 |.w _ _ (.bool b)=>(b=true->X)/\(b=false->Y)
 |.w _ _ .iI=>X/\Y
 |_=>False
theorem JS{c:Operand}{x y:Code}(h:ni (ev st.env c) (aS fk P x st K) (aS fk P y st K)):aS fk P (.cond c x y) st K:=by
 intro B w0 a w m hs;have hc:al B (LB m st.heap) m w (ev st.env c) (a.eval c):=lM c (λt _=>hs.env t);unfold ni at h;split at h
 .rename_i o f b e;rw[e] at hc;refine uk hc.jy ?_;cases b
  .exact h.2 rfl B w0 a w m hs
  .exact h.1 rfl B w0 a w m hs
 .rename_i o f e;rw[e] at hc
  have:∃b,a.eval c=.bool b:=by
   generalize hv:a.eval c=v at hc
   cases hc with|w h _=>cases h with|iI b=>exact⟨b,rfl⟩
  obtain⟨b,hb⟩:=this;refine uk hb ?_;cases b
  .exact h.2 B w0 a w m hs
  .exact h.1 B w0 a w m hs
 trivial
theorem JU{c:Code}(h:fk.k<=st.nxt->aS fk P c st K):aS fk P c st K:=λB w0 a w m hs=>h hs.fr.1 B w0 a w m hs
def jX(fk:Fk){α:Type}(J:α->Prop)(I:α->St)(μ:α->Nat)(x:α)(K:Exit->St->Prop):Exit->St->Prop
 |.normal,s=>∃y,J y/\μ y<μ x/\Lek fk s (I y)
 |e,s=>K e s
theorem yD{c:Code}{α:Type}(J:α->Prop)(I:α->St)(μ:α->Nat)(x0:α)(hJ:J x0)(h0:Lek fk st (I x0))(round:∀x,J x->aS fk P c (I x) (jX fk J I μ x K)):aS fk P (.loop c) st K:=by
 intro B w0 a w m hs;refine xV (λk a w=>∃x m,J x/\μ x=k/\Sim B w0 (I x) a w m) (μ x0) (by obtain⟨m',h⟩:=h0 B w0 a w m hs;grind) ?_
 rintro k a w ⟨x,m,hx,rfl,cm⟩
 refine dK (round x hx B w0 a w m cm) (λe a' w' ⟨st',m',h2,h3⟩=>?_)
 cases e<;>first
  |exact⟨st',m',h2,h3⟩
  |(obtain⟨y,hy,a4,hle⟩:=h2
    obtain⟨dh,h4⟩:=hle B w0 a' w' m' h3
    exact⟨μ y,a4,y,dh,hy,rfl,h4⟩)
def Bh(fk:Fk){β:Type}(id:Nat)(F:β->Prop)(fin:β->St)(R:St->Prop):Exit->St->Prop
 |.exit i,s=>i=id/\∃y,F y/\Lek fk s (fin y)
 |.ret,s=>R s
 |_,_=>False
end
def reach(ops:Array Oper):Nat->Nat->Nat->Bool
 |0,_,_=>false
 |f+1,i,j=>
  match ops[i]? with
  |some o=>o.after.toList.any λe=>Region.binds .any e&&(e.on==j || reach ops f e.on j)
  |none=>false
def cO(ops:Array Oper)(i:Nat):Option Nat:=(ops[i]?).bind (·.dst)
def jc(ops:Array Oper)(o:Oper):List Nat:=
 (o.op.operands.toList.filterMap λx=>match x with | .tmp t=>some t|_=>none)++(match o.guard with|some (j,_)=>(cO ops j).toList|none=>[])
def tA(ops:Array Oper)(k:Nat):Bool:=
 decide (k<=ops.size) &&
 ((List.range ops.size).all λi=>match ops[i]? with
   |some o=>o.after.toList.all λe=>!Region.binds .any e || decide (e.on<i)
   |none=>true) &&
 ((List.range k).all λi=>match ops[i]? with
   |some o=>((jc ops o).all λt=>(List.range k).all λj=>if cO ops j=some t then decide (j<i)&&reach ops 4 i j else true) &&
     ((List.range k).all λj=>decide (j=i) || o.dst.isNone || decide (cO ops j≠o.dst))
   |none=>false) &&
 ((List.range ops.size).all λi=>decide (i<k) || (List.range i).all λj=>reach ops 8 i j)
def fF(P:Program)(ops:Array Oper)(nt:Nat):List Oper->Env->ae->Nat->(Env->ae->Nat->Prop)->Prop
 |[],e,h,n,K=>K e h n
 |o::os,e,h,n,K=>
  match fE ops e o with
  |some g=>dOk nt o.dst/\(g=true->bj P e h n o.op λv E=>fF P ops nt os (put e o.dst v) (aX h n E) (n+E.length) K) /\
    (g=false->fF P ops nt os (put e o.dst (.tup [])) h n K)
  |none=>False
structure Tr(P:Program)(ops:Array Oper)(nt:Nat)(os:List Oper)(e:Env)(h:ae)(n:Nat) where
 es:Nat->Env
 hs:Nat->ae
 ns:Nat->Nat
 vs:Nat->AV
 Es:Nat->List (List AV)
 gs:Nat->Bool
 e0:es 0=e
 h0:hs 0=h
 n0:ns 0=n
 step:∀i o,os[i]?=some o->dOk nt o.dst/\fE ops (es i) o=some (gs i)/\es (i+1)=put (es i) o.dst (vs i)/\hs (i+1)=aX (hs i) (ns i) (Es i)/\ns (i+1)=ns i+(Es i).length /\
  (gs i=true->QF P (es i) (hs i) (ns i) o.op (vs i) (Es i))/\(gs i=false->vs i=.tup []/\Es i=[])
theorem yE{P:Program}{ops:Array Oper}{nt:Nat}{K:Env->ae->Nat->Prop}:∀(os:List Oper)(e:Env)(h:ae)(n:Nat),fF P ops nt os e h n K->∃T:Tr P ops nt os e h n,K (T.es os.length) (T.hs os.length) (T.ns os.length)
 |[],e,h,n,hk=>⟨⟨λ_=>e,λ_=>h,λ_=>n,λ_=>.tup [],λ_=>[],λ_=>true,rfl,rfl,rfl,λi o hi=>by simp at hi⟩,hk⟩
 |o::os,e,h,n,hk=>by
  simp only[fF] at hk;split at hk
  .rename_i g hg;obtain⟨hd,h1,h2⟩:=hk
   have main:∀(v:AV)(E:List (List AV)),(g=true->QF P e h n o.op v E)->(g=false->v=.tup []/\E=[])->fF P ops nt os (put e o.dst v) (aX h n E) (n+E.length) K ->
    ∃T:Tr P ops nt (o::os) e h n,K (T.es (o::os).length) (T.hs (o::os).length) (T.ns (o::os).length):=by
    intro v E q1 q2 hr;obtain⟨T,hK⟩:=yE os _ _ _ hr
    refine⟨⟨λi=>match i with|0=>e|i+1=>T.es i,λi=>match i with|0=>h|i+1=>T.hs i,λi=>match i with|0=>n|i+1=>T.ns i,
     λi=>match i with|0=>v|i+1=>T.vs i,λi=>match i with|0=>E|i+1=>T.Es i,λi=>match i with|0=>g|i+1=>T.gs i,rfl,rfl,rfl,λi o' hi=>?_⟩,hK⟩
    cases i with
    |zero=>
     simp at hi;subst hi;exact⟨hd,hg,T.e0,T.h0,T.n0,q1,q2⟩
    |succ i=>exact T.step i o' (by simpa using hi)
   cases g with
   |true=>
    obtain⟨v,E,q,hr⟩:=(h1 rfl).qf;exact main v E (λ_=>q) nofun hr
   |false=>exact main (.tup []) [] nofun (λ_=>⟨rfl,rfl⟩) (h2 rfl)
  trivial
section
variable{P:Program}{ops:Array Oper}{nt:Nat}{os:List Oper}{e:Env}{h:ae}{n:Nat}
theorem Tr.jd(T:Tr P ops nt os e h n){i j:Nat}(bo:i<=j)(hj:j<=os.length):T.ns i<=T.ns j:=by
 induction j with
 |zero=>have:i=0:=by omega
        simp_all
 |succ j ih=>
  by_cases hi:i=j+1
  .simp_all
  .have:=ih (by omega) (by omega);have hs:=(T.step j os[j] (cG (by omega))).2.2.2.2.1;omega
theorem Tr.tB(T:Tr P ops nt os e h n){i j:Nat}(bo:i<=j)(hj:j<=os.length){p:Nat×List AV}(hp:p∈T.hs i):p∈T.hs j:=by
 induction j with
 |zero=>have:i=0:=by omega
        simp_all
 |succ j ih=>
  by_cases hi:i=j+1
  .simp_all
  .have:=ih (by omega) (by omega);have hs:=(T.step j os[j] (cG (by omega))).2.2.2.1;rw[hs];exact (jN (T.Es j) (T.hs j) (T.ns j) p.1 p.2).2 (.inl this)
theorem Tr.G2(T:Tr P ops nt os e h n)(i:Nat)(hi:i<=os.length)(t:Nat):(∃(j:Nat)(o:Oper),j<i/\os[j]?=some o/\o.dst=some t/\get (T.es i) t=T.vs j)\/((∀(j:Nat)(o:Oper),j<i->os[j]?=some o->o.dst≠some t)/\get (T.es i) t=get e t):=by
 induction i with
 |zero=>rw[T.e0];simp
 |succ i ih=>
  have cx:os[i]?=some os[i]:=cG (by omega);have hs:=(T.step i os[i] cx).2.2.1;rw[hs]
  cases hd:os[i].dst with
  |none=>
   simp only[put]
   grind
  |some d=>
   simp only[put,get]
   grind
end
end Go.Fi
namespace Go.Fi
open Go Go.RowKit
variable[ak]
variable{fk:Fk}
section
variable{P:Program}{ops:Array Oper}{nt:Nat}{k:Nat}
def Closed(ops:Array Oper)(listed:Array Bool):Prop:=
 ∀(i:Nat)(o:Oper),ops[i]?=some o->listed.getD i false=true->∀e∈o.after,Region.binds .any e=true->listed.getD e.on false=true
omit [ak] in
theorem lP{listed:Array Bool}(hc:Closed ops listed):∀(f i j:Nat)(o:Oper),ops[i]?=some o->(∀e∈o.after,Region.binds .any e=true->listed.getD e.on false=true)->reach ops f i j=true->listed.getD j false=true
 |0,_,_,_,_,_,h=>by trivial
 |f+1,i,j,o,ho,he,h=>by
  simp only[reach,ho,List.any_eq_true,di,rX] at h;obtain⟨e,hin,hb,h1⟩:=h;have hl:=he e (qm.1 hin) hb
  rcases h1 with h1|h1
  .have:e.on=j:=by grind
   rw[<-this];exact hl
  .cases b5:ops[e.on]? with
   |none=>cases f<;>simp[reach,b5] at h1
   |some o'=>exact lP hc f e.on j o' b5 (hc e.on o' b5 hl) h1
omit [ak] in
theorem Closed.set{listed:Array Bool}(hc:Closed ops listed){i:Nat}{o:Oper}(ho:ops[i]?=some o)(he:∀e∈o.after,Region.binds .any e=true->listed.getD e.on false=true):Closed ops (listed.setIfInBounds i true):=by
 intro j o' b5 hl e hin hb;by_cases bo:i=j
 .subst bo
  rw[ho] at b5;injection b5 with b5;subst b5
  exact getD_set_true (he e hin hb)
 .rw[getD_set_ne false bo] at hl;exact getD_set_true (hc j o' b5 hl e hin hb)
def open_(listed:Array Bool):Nat:=listed.toList.countP (λb=>!b)
section
omit [ak]
theorem o9{listed:Array Bool}{i:Nat}(hi:listed[i]?=some false):open_ (listed.setIfInBounds i true)+1=open_ listed:=by
 unfold open_
 grind
theorem pb{listed:Array Bool}(h:open_ listed=0){i:Nat}(hi:i<listed.size):listed.getD i false=true:=by
 unfold open_ at h;rw[List.countP_eq_zero] at h;have:=h listed[i] (by simp);rw[bQ,bS hi];simp_all
theorem qv{listed:Array Bool}(h9:listed.size=ops.size)(b9:∀(i:Nat)(o:Oper),ops[i]?=some o->∀e∈o.after,Region.binds .any e=true->e.on<i):∀i,i<ops.size->listed.getD i false=false->Region.ready .any ops listed≠[]:=by
 intro i
 induction i using Nat.strongRecOn with
 |_ i ih=>
  intro hi hl;by_cases hex:∃e∈ops[i].after,Region.binds .any e=true/\listed.getD e.on false=false
  .grind
  .intro ar
   have:i∈Region.ready .any ops listed:=mem_ready.2 ⟨by
    rw[bQ,bS (by omega)] at hl ⊢
    exact hl,ops[i],bS hi,λe hin hb=>by
    simp_all⟩
   rw[ar] at this;cases this
theorem mQ{listed:Array Bool}(h9:listed.size=ops.size){i:Nat}(hr:i∈Region.ready .any ops listed):∃o,ops[i]?=some o/\listed[i]?=some false/\∀e∈o.after,Region.binds .any e=true->listed.getD e.on false=true:=by
 obtain⟨h0,o,ho,he⟩:=mem_ready.1 hr
 have a4:i<listed.size:=by rw[h9];exact (a8.1 ho).1
 simp_all
end
theorem uU{B:Base}{w0:Ctx fk}{Kr:Env->ae->Nat->Prop}{Q:Exit->Act->World->Prop}(hQ:∀e h n a w m,Kr e h n->Sim B w0 ⟨e,h,n,nt⟩ a w m->Q .normal a w)(b9:∀(i:Nat)(o:Oper),ops[i]?=some o->∀e∈o.after,Region.binds .any e=true->e.on<i)(aa:∀i,k<=i->i<ops.size->∀j,j<i->reach ops 8 i j=true):∀(f i:Nat)(listed:Array Bool)(e:Env)(h:ae)(n:Nat)(a:Act)(w:World)(m:Mm),k<=i->i<=ops.size->listed.size=ops.size->Closed ops listed->(∀j,j<ops.size->(listed.getD j false=true↔j<i))->open_ listed<=f->bD P ops nt (ops.toList.drop i) e h n Kr->Sim B w0 ⟨e,h,n,nt⟩ a w m->iY w0.r P .any ops Q f listed a w:=by
 intro f
 induction f with
 |zero=>
  intro i listed e h n a w m d2 hi h9 hc hl ay hk hs
  have a5:i=ops.size:=by
   rcases dN i ops.size with a4|dg
   .have:=pb (xu.1 ay) (i:=i) (by omega);have:=(hl i a4).1 this;omega
   .omega
  subst a5;rw[Im (by simp)] at hk;refine⟨?_,hQ _ _ _ _ _ _ hk hs⟩
  cases hr:Region.ready .any ops listed with
  |nil=>rfl
  |cons x xs=>
   obtain⟨o,ho,hf,_⟩:=mQ h9 (i:=x) (by rw[hr];simp);have hx:=(a8.1 ho).1;have:=(hl x hx).2 hx;rw[bQ,hf] at this;cases this
 |succ f ih=>
  intro i listed e h n a w m d2 hi h9 hc hl ay hk hs;by_cases a4:i<ops.size
  .have bh:=qv h9 b9 i a4 (by
    cases hq:listed.getD i false with
    |true=>have:=(hl i a4).1 hq;omega
    |false=>rfl)
   refine⟨λar=>absurd ar bh,λx hx=>?_⟩;obtain⟨o,ho,hf,he⟩:=mQ h9 hx;have bu:=(a8.1 ho).1
   have d8:x=i:=by
    have h1:¬x<i:=λd9=>by
     have:=(hl x bu).2 d9;rw[bQ,hf] at this;cases this
    rcases dN i x with h2|h2
    .have:=lP hc 8 x i o ho he (aa x (by omega) bu i h2);have:=(hl i a4).1 this;omega
    .omega
   subst d8
   have bg:ops.toList.drop x=o::ops.toList.drop (x+1):=by
    rw[Sk (by simpa using a4)];congr 1
    have:ops.toList[x]?=some o:=by rw[iQ];exact ho
    rw[cG (by simpa using a4)] at this;injection this
   rw[bg] at hk;simp only[bD] at hk
   have a6:∀e' h' n' a' w' m',bD P ops nt (ops.toList.drop (x+1)) e' h' n' Kr->Sim B w0 ⟨e',h',n',nt⟩ a' w' m'->iY w0.r P .any ops Q f (listed.setIfInBounds x true) a' w':=by
    intro e' h' n' a' w' m' b4 h8;refine ih (x+1) _ e' h' n' a' w' m' (by omega) (by omega) (by simpa using h9) (hc.set ho he) (λj hj=>?_) (by have:=o9 hf;omega) b4 h8;by_cases co:x=j
    .subst co;rw[bQ,iE];simp[h9,hj]
    .rw[getD_set_ne false co,hl j hj];omega
   split at hk
   .rename_i g hg;unfold jR;rw[ho];simp only[o8 hg hs];intro w1 e1;replace hs:=hs.move e1
    cases g with
    |true=>
     simp only[aJ];exact jk (uR (hk.2.1 rfl)) (uS w0 o (K:=λv h' n'=>bD P ops nt (ops.toList.drop (x+1)) (put e o.dst v) h' n' Kr) (hk.2.1 rfl) hs hk.1 Q _ (λv h' n' a' w' m' b4 h8=>a6 _ _ _ _ _ m' b4 h8))
    |false=>
     simp only[bw,aQ];exact a6 _ _ _ _ _ m (hk.2.2 rfl) ⟨hs.base,hs.below,by rw[jM];exact hs.defers,by rw[jL];exact hs.size,mN e a o.dst _ _ (by rw[hs.size];exact hk.1) (.tup rfl (λj p v hp=>by simp at hp)) hs.env,hs.heap,hs.dom,hs.ids,hs.fr⟩
   trivial
  .have a5:i=ops.size:=by omega
   subst a5;rw[Im (by simp)] at hk
   have hr:Region.ready .any ops listed=[]:=by
    cases hr:Region.ready .any ops listed with
    |nil=>rfl
    |cons x xs=>
     obtain⟨o,ho,hf,_⟩:=mQ h9 (i:=x) (by rw[hr];simp);have hx:=(a8.1 ho).1;have:=(hl x hx).2 hx;rw[bQ,hf] at this;cases this
   refine⟨λ_=>hQ _ _ _ _ _ _ hk hs,λx hx=>?_⟩;rw[hr] at hx;cases hx
end
section
variable{P:Program}{ops:Array Oper}{nt:Nat}{k:Nat}
structure Chk(ops:Array Oper)(k:Nat):Prop where
 le:k<=ops.size
 down:∀(i:Nat)(o:Oper),ops[i]?=some o->∀e∈o.after,Region.binds .any e=true->e.on<i
 use:∀(i:Nat)(o:Oper),i<k->ops[i]?=some o->∀t∈jc ops o,∀j,j<k->cO ops j=some t->j<i/\reach ops 4 i j=true
 once:∀(i:Nat)(o:Oper),i<k->ops[i]?=some o->∀j,j<k->j≠i->∀t,o.dst=some t->cO ops j≠some t
 wait:∀i,k<=i->i<ops.size->∀j,j<k->reach ops 8 i j=true
omit [ak] in
theorem yJ(h:tA ops k=true):Chk ops k/\(∀i,k<=i->i<ops.size->∀j,j<i->reach ops 8 i j=true):=by
 simp only[tA,di,decide_eq_true_eq,fR,qn] at h;obtain⟨⟨⟨h1,h2⟩,h3⟩,h4⟩:=h
 have aa:∀i,k<=i->i<ops.size->∀j,j<i->reach ops 8 i j=true:=by
  intro i hk hi j hj;have:=h4 i hi;simp only[rX,decide_eq_true_eq,fR,qn] at this
  rcases this with h|h
  .omega
  .exact h j hj
 refine⟨⟨h1,λi o ho e hin hb=>?_,λi o hi ho t ht j hj hd=>?_,λi o hi ho j hj bh t ht hd=>?_,λi hk hi j hj=>aa i hk hi j (by omega)⟩,aa⟩
 .have a4:=(a8.1 ho).1;have:=h2 i a4;simp only[ho,fR] at this;have:=this e (qm.2 hin);simpa[hb] using this
 .have:=h3 i hi;simp only[ho,di,fR,qn] at this;have:=this.1 t ht j hj;simpa[hd] using this
 grind
omit [ak] in
theorem yK{o:Oper}{t:Nat}(h:(.tmp t:Operand)∈o.op.operands):t∈jc ops o:=by
 unfold jc;refine iF.2 (.inl (List.mem_filterMap.2 ⟨.tmp t,qm.2 h,rfl⟩))
variable{e:Env}{h:ae}{n:Nat}
structure cP(P:Program)(ops:Array Oper)(nt k:Nat)(e:Env)(h:ae)(n:Nat)(T:Tr P ops nt (ops.toList.take k) e h n)(B:Base)(w0:Ctx fk)(listed:Array Bool)(a:Act)(w:World)(m:Mm):Prop where
 base:B.n=w0.w.heap.size
 below:Bel B.n w0.w w
 defers:a.defers=marks w0.ds
 size:a.tmps.size=nt
 heap:aY B (T.hs k) m w
 dom:∀id,m.dom id↔id<n\/∃i,i<k/\listed.getD i false=true/\T.ns i<=id/\id<T.ns i+(T.Es i).length
 done:∀i t,i<k->listed.getD i false=true->cO ops i=some t->al B (LB m (T.hs k)) m w (T.vs i) (a.tmps.getD t undef)
 old:∀t,(∀i,i<k->listed.getD i false=true->cO ops i≠some t)->al B (LB m (T.hs k)) m w (get e t) (a.tmps.getD t undef)
 fr:oF B w0 (LB m (T.hs k)) m w n
theorem cP.bel{T:Tr P ops nt (ops.toList.take k) e h n}{B:Base}{w0:Ctx fk}{listed:Array Bool}{a:Act}{w w':World}{m:Mm}(hp:cP P ops nt k e h n T B w0 listed a w m)(hb:Bel w.heap.size w w'):cP P ops nt k e h n T B w0 listed a w' m:=by
 have hr:B.n<=w.heap.size:=by have:=hp.below.size;have:=hp.base;omega
 have hm:∀x v,al B (LB m (T.hs k)) m w x v->al B (LB m (T.hs k)) m w' x v:=λx v h=>h.mono (Mm.le.refl m) (λ_ _ x=>x) (λb hl _=>hb.block b hl)
 exact⟨hp.base,hp.below.trans (hb.mono hr),hp.defers,hp.size,hp.heap.below hb,hp.dom,λi t hi hl hd=>hm _ _ (hp.done i t hi hl hd),λt ht=>hm _ _ (hp.old t ht),hp.fr.mono (Mm.le.refl m) (λ_ _ x=>x) (λb hl _=>hb.block b hl) (aD _)⟩
omit [ak] in
theorem uV{i:Nat}{o:Oper}(hi:i<k)(ho:ops[i]?=some o):(ops.toList.take k)[i]?=some o:=by
 rw[jH,az hi,iQ];exact ho
omit [ak] in
theorem DC{i:Nat}{o:Oper}(ho:(ops.toList.take k)[i]?=some o):i<k/\ops[i]?=some o:=by
 rw[jH] at ho;simp_all
theorem cP.slot{T:Tr P ops nt (ops.toList.take k) e h n}{B:Base}{w0:Ctx fk}{listed:Array Bool}{a:Act}{w:World}{m:Mm}(hp:cP P ops nt k e h n T B w0 listed a w m)(hc:Chk ops k)(ag:Closed ops listed){i:Nat}{o:Oper}(hi:i<k)(ho:ops[i]?=some o)(he:∀e∈o.after,Region.binds .any e=true->listed.getD e.on false=true){t:Nat}(ht:t∈jc ops o):al B (LB m (T.hs k)) m w (get (T.es i) t) (a.tmps.getD t undef):=by
 have hlen:(ops.toList.take k).length=k:=by simp[hc.le]
 rcases T.G2 i (by omega) t with ⟨j,oj,h1,h2,h3,h4⟩|⟨h1,h2⟩
 .obtain⟨hj,b6⟩:=DC h2
  have hd:cO ops j=some t:=by simp[cO,b6,h3]
  obtain⟨_,hr⟩:=hc.use i o hi ho t ht j hj hd;rw[h4];exact hp.done j t hj (lP ag 4 i j o ho he hr) hd
 .rw[h2];refine hp.old t (λj hj hl hd=>?_);obtain⟨bd,_⟩:=hc.use i o hi ho t ht j hj hd
  cases b6:ops[j]? with
  |none=>grind
  |some oj=>exact h1 j oj bd (uV hj b6) (by simpa[cO,b6] using hd)
omit [ak] in
theorem yL{o:Oper}{env:Env}{g:Bool}(hg:fE ops env o=some g){a:Act}{B:Base}{L:Nat->Prop}{m:Mm}{w:World}(hs:∀t,t∈jc ops o->al B L m w (get env t) (a.tmps.getD t undef)):Region.wanted o (yielded ops a.tmps)=g:=by
 unfold fE at hg;unfold Region.wanted;split at hg
 .simp_all
 .rename_i j want e;rw[e];simp only;split at hg
  .rename_i ed;cases hg;simp[yielded,ed]
  .rename_i t ed
   have ht:=hs t (by
    unfold jc;refine iF.2 (.inr ?_);rw[e]
    simp[cO,ed])
   split at hg
   .rename_i ow f b eg;cases hg;rw[eg] at ht;have hv:=ht.jy
    have a4:t<a.tmps.size:=by
     rcases dN t a.tmps.size with h|h
     .exact h
     .rw[bQ,Ci h] at hv;cases hv
    have hq:a.tmps[t]?=some (.bool b):=by
     rw[bQ,bS a4] at hv;rw[bS a4]
     grind
    simp only[yielded,ed,iP,hq]
    cases b<;>cases want<;>rfl
   .rename_i eg;cases hg;rw[eg] at ht;obtain⟨vs,hv,hl,_⟩:=ht.wD
    have c8:vs=#[]:=by grind
    subst c8
    have:yielded ops a.tmps j=none:=by
     simp only[yielded,ed,iP];rw[bQ] at hv
     grind
    rw[this];rfl
   .cases hg
omit [ak] in
theorem nT{a:Act}{d:Option Nat}{v:Value}{t:Nat}(hd:dOk a.tmps.size d):(a.put d v).tmps.getD t undef=if d=some t then v else a.tmps.getD t undef:=by
 cases d with
 |none=>rfl
 |some d=>
  simp only[Act.put,a7];rw[bQ,iE];by_cases h:d=t
  .subst h;simp only[aJ];rw[az (show d<a.tmps.size from hd)];rfl
  simp_all
theorem cP.next{T:Tr P ops nt (ops.toList.take k) e h n}{B:Base}{w0:Ctx fk}{listed:Array Bool}{a:Act}{w:World}{m:Mm}(hp:cP P ops nt k e h n T B w0 listed a w m)(hc:Chk ops k){i:Nat}{o:Oper}(hi:i<k)(ho:ops[i]?=some o)(hf:listed[i]?=some false){v':Value}{w':World}{m':Mm}(c4:dOk nt o.dst)(p:ir B (T.hs k) m w (T.ns i) (T.Es i).length (T.vs i) v' w' m'):cP P ops nt k e h n T B w0 (listed.setIfInBounds i true) (a.put o.dst v') w' m':=by
 obtain⟨p1,p2,p3,p4,p5,p6⟩:=p
 have hB:B.n<=w.heap.size:=by have:=hp.below.size;have:=hp.base;omega
 have hO:ak.ok w:=ak.keep w0.ok (by have:=hp.below;rw[hp.base] at this;exact this)
 have b':∀p v,al B (LB m (T.hs k)) m w p v->al B (LB m' (T.hs k)) m' w' p v:=λp v hr=>hr.mono p1 (λb hb hn hl=>by
  grind) (λb hb _=>p3.block b hb)
 have cq:cO ops i=o.dst:=by simp[cO,ho]
 have cl:dOk a.tmps.size o.dst:=by rw[hp.size];exact c4
 have d3:(listed.setIfInBounds i true).getD i false=true:=by
  have:=(a8.1 hf).1;rw[bQ,iE];simp[this]
 have d4:∀j,j≠i->(listed.setIfInBounds i true).getD j false=listed.getD j false:=λj hj=>getD_set_ne false (bT hj)
 have dm:listed.getD i false=false:=by rw[bQ,hf];rfl
 refine⟨hp.base,hp.below.trans (p3.mono hB),by rw[jM];exact hp.defers,by rw[jL];exact hp.size,p4,λid=>?_,λj t hj hl hd=>?_,λt ht=>?_,hp.fr.mono p1 (λb hb hn hl=>by
  grind) (λb hb _=>p3.block b hb) (aD _)⟩
 .rw[p2,hp.dom]
  grind
 .rw[nT cl];by_cases bd:j=i
  .simp_all
  .rw[d4 j bd] at hl
   have:o.dst≠some t:=λd5=>hc.once i o hi ho j hj bd t d5 hd
   rw[ai this];exact b' _ _ (hp.done j t hj hl hd)
 .rw[nT cl];have h1:=ht i hi d3;rw[cq] at h1;rw[ai h1];refine b' _ _ (hp.old t (λj hj hl=>ht j hj ?_))
  grind
theorem DD{T:Tr P ops nt (ops.toList.take k) e h n}(hk:k<=ops.size){B:Base}{m:Mm}{w:World}(hs:aY B h m w)(hd:∀i,m.dom i↔i<n)(bl:∀id c,(id,c)∈h->id<n):∀i,i<=k->aY B (T.hs i) m w/\LB m (T.hs i)=LB m h/\(∀id c,(id,c)∈T.hs i->id<T.ns i):=by
 have hlen:(ops.toList.take k).length=k:=by simp[hk]
 intro i
 induction i with
 |zero=>intro _;rw[T.h0,T.n0];trivial
 |succ i ih=>
  intro hi;obtain⟨h1,h2,h3⟩:=ih (by omega);have bq:=T.step i _ (cG (by omega))
  have hn:n<=T.ns i:=by have:=T.jd (i:=0) (j:=i) (by omega) (by omega);rw[T.n0] at this;exact this
  obtain⟨h4,h5⟩:=uQ (T.Es i) (T.hs i) (T.ns i) h1 (λj hj ct=>by have:=(hd j).1 ct;omega) h3;rw[bq.2.2.2.1];refine⟨h4,h5.trans h2,λid c hin=>?_⟩;rw[bq.2.2.2.2.1]
  rcases (jN _ _ _ _ _).1 hin with h6|⟨q,h6,rfl⟩
  .have:=h3 id c h6;omega
  grind
theorem DF{T:Tr P ops nt (ops.toList.take k) e h n}(hc:Chk ops k){B:Base}{w0:Ctx fk}{Q:Exit->Act->World->Prop}(bl:∀id c,(id,c)∈T.hs k->id<T.ns k)(ao:∀(f:Nat)(listed:Array Bool)(a:Act)(w:World)(m:Mm),listed.size=ops.size->Closed ops listed->(∀j,j<ops.size->(listed.getD j false=true↔j<k))->open_ listed<=f->Sim B w0 ⟨T.es k,T.hs k,T.ns k,nt⟩ a w m->iY w0.r P .any ops Q f listed a w):∀(f:Nat)(listed:Array Bool)(a:Act)(w:World)(m:Mm),listed.size=ops.size->Closed ops listed->open_ listed<=f->(∀i,k<=i->i<ops.size->listed.getD i false=false)->cP P ops nt k e h n T B w0 listed a w m->iY w0.r P .any ops Q f listed a w:=by
 have hlen:(ops.toList.take k).length=k:=by simp[hc.le]
 have last:∀(f:Nat)(listed:Array Bool)(a:Act)(w:World)(m:Mm),listed.size=ops.size->Closed ops listed->open_ listed<=f->cP P ops nt k e h n T B w0 listed a w m->(∀i,i<k->listed.getD i false=true) ->
  (∀i,k<=i->i<ops.size->listed.getD i false=false)->iY w0.r P .any ops Q f listed a w:=by
  intro f listed a w m h9 ag ay hp a5 cg;refine ao f listed a w m h9 ag (λj hj=>⟨λh1=>?_,λh1=>a5 j h1⟩) ay ⟨hp.base,hp.below,hp.defers,hp.size,λt=>?_,hp.heap,λid=>?_,bl,hp.fr.mono (Mm.le.refl m) (λ_ _ h=>h) (λ_ _ _=>rfl) (by have:=T.jd (i:=0) (j:=k) (by omega) (by omega);rw[T.n0] at this;exact this)⟩
  .grind
  .rcases T.G2 k (by omega) t with ⟨j,oj,h1,h2,h3,h4⟩|⟨h1,h2⟩
   .obtain⟨hj,b6⟩:=DC h2;show al _ _ _ _ (get (T.es k) t) _;rw[h4];exact hp.done j t hj (a5 j hj) (by simp[cO,b6,h3])
   .show al _ _ _ _ (get (T.es k) t) _;rw[h2];refine hp.old t (λj hj _ hd=>?_)
    cases b6:ops[j]? with
    |none=>grind
    |some oj=>exact h1 j oj hj (uV hj b6) (by simpa[cO,b6] using hd)
  .rw[hp.dom];show _↔id<T.ns k
   have bc:∀i,i<=k->(id<T.ns i↔id<n\/∃j,j<i/\T.ns j<=id/\id<T.ns j+(T.Es j).length):=by
    intro i
    induction i with
    |zero=>intro _;rw[T.n0];constructor
           .exact .inl
           .rintro (h|⟨j,h,_⟩)
            .exact h
            .omega
    |succ i ih=>
     intro hi;have bq:=(T.step i _ (cG (by omega))).2.2.2.2.1;rw[bq];constructor
     .intro h1
      rcases dN id (T.ns i) with h2|h2
      .rcases (ih (by omega)).1 h2 with h3|⟨j,h3,h4⟩
       .exact .inl h3
       .exact .inr ⟨j,by omega,h4⟩
      .exact .inr ⟨i,by omega,h2,h1⟩
     .rintro (h1|⟨j,h1,h2,h3⟩)
      .have:=(ih (by omega)).2 (.inl h1);omega
      .by_cases bd:j=i
       .subst bd;exact h3
       .have:=(ih (by omega)).2 (.inr ⟨j,by omega,h2,h3⟩);omega
   rw[bc k (aD _)]
   grind
 intro f
 induction f with
 |zero=>
  intro listed a w m h9 ag ay ax hp;have hz:=xu.1 ay
  have dl:k=ops.size:=by
   rcases dN k ops.size with h1|h1
   .have h2:=pb hz (i:=k) (by omega);rw[ax k (aD _) h1] at h2;cases h2
   simp_all
  exact last 0 listed a w m h9 ag ay hp (λi hi=>pb hz (by omega)) ax
 |succ f ih=>
  intro listed a w m h9 ag ay ax hp;by_cases a5:∀i,i<k->listed.getD i false=true
  .grind
  .obtain⟨i0,cy⟩:=Classical.not_forall.1 a5;obtain⟨hi0k,hi0l⟩:=Classical.not_imp.1 cy
   have hi0f:listed.getD i0 false=false:=by simp_all
   have bh:=qv h9 hc.down i0 (by have:=hc.le;omega) hi0f;refine⟨λar=>absurd ar bh,λx hx=>?_⟩;obtain⟨o,ho,hf,he⟩:=mQ h9 hx;have bu:=(a8.1 ho).1
   have bi:x<k:=by
    rcases dN x k with h1|h1
    .exact h1
    .have:=lP ag 8 x i0 o ho he (hc.wait x h1 bu i0 hi0k);rw[hi0f] at this;cases this
   obtain⟨c4,hw,_,_,_,ck,d6⟩:=T.step x o (uV bi ho);unfold jR;rw[ho];simp only[yL hw (λt ht=>hp.slot hc ag bi ho he ht)];intro w e1;replace hp:=hp.bel (EnvD.ext e1)
   have hB:B.n<=w.heap.size:=by have:=hp.below.size;have:=hp.base;omega
   have hO:ak.ok w:=ak.keep w0.ok (by have:=hp.below;rw[hp.base] at this;exact this)
   have a6:∀v' w' m',ir B (T.hs k) m w (T.ns x) (T.Es x).length (T.vs x) v' w' m'->iY w0.r P .any ops Q f (listed.setIfInBounds x true) (a.put o.dst v') w':=by
    intro v' w' m' au;refine ih _ _ w' m' (by simpa using h9) (ag.set ho he) (by have:=o9 hf;omega) (λj hj dj=>?_) (hp.next hc bi ho hf c4 au);rw[getD_set_ne false (by omega)];simp_all
   cases hg:T.gs x with
   |true=>
    simp only[aJ];refine jk (G1 (ck hg)) ((ck hg).sound o hO hp.heap hB (λid cs hl=>T.tB (i:=x) (by omega) (by omega) (fA hl)) (λq cs hl=>?_) (λq hq hd=>?_) (λy hy=>?_) _ Q (λv' w' m' au=>a6 v' w' m' au))
    .refine T.tB (i:=x+1) (by omega) (by omega) ?_;rw[(T.step x o (uV bi ho)).2.2.2.1];exact (jN _ _ _ _ _).2 (.inr ⟨q,hl,rfl⟩)
    .have dp:n<=T.ns x:=by have:=T.jd (i:=0) (j:=x) (by omega) (by omega);rw[T.n0] at this;exact this
     rcases (hp.dom _).1 hd with h1|⟨j,hj,hl,h2,h3⟩
     .omega
     .have dk:j≠x:=by
       rintro rfl
       rw[bQ,hf] at hl;cases hl
      have dq:=(T.step j _ (cG (by omega))).2.2.2.2.1;have cm:=(T.step x _ (cG (by omega))).2.2.2.2.1
      rcases dN j x with h4|h4
      .have:=T.jd (i:=j+1) (j:=x) (by omega) (by omega);omega
      .have:=T.jd (i:=x+1) (j:=j) (by omega) (by omega);omega
    .refine lM y (λt e=>?_);subst e;exact hp.slot hc ag bi ho he (yK hy)
   |false=>
    simp only[bw,aQ];obtain⟨h1,h2⟩:=d6 hg;refine a6 undef w m ?_;rw[h1,h2];exact⟨Mm.le.refl m,λi=>⟨.inl,λh=>h.elim id λh=>by grind⟩,Bel.refl _ _,hp.heap,λb hb=>.inl hb,.tup rfl (λj p v hp=>by simp at hp)⟩
theorem DG{K:Exit->St->Prop}(k:Nat){id:Nat}{Kp:Env->ae->Nat->Prop}(hm:P.follows .mixedOrders=true)(hc:Chk ops k)(hk:fF P ops nt (ops.toList.take k) e h n Kp)(ao:∀(B:Base)(w0:Ctx fk)(e':Env)(h':ae)(n':Nat),Kp e' h' n'->∀(f:Nat)(listed:Array Bool)(a:Act)(w:World)(m:Mm),listed.size=ops.size->Closed ops listed->(∀j,j<ops.size->(listed.getD j false=true↔j<k))->open_ listed<=f->Sim B w0 ⟨e',h',n',nt⟩ a w m->iY w0.r P .any ops (λe a w=>∃st' m',K e st'/\Sim B w0 st' a w m') f listed a w):aS fk P (.region id ops true) ⟨e,h,n,nt⟩ K:=by
 intro B w0 a w m hs;obtain⟨T,hK⟩:=yE _ _ _ _ hk
 have hlen:(ops.toList.take k).length=k:=by simp[hc.le]
 rw[hlen] at hK
 refine xW hm λw e1=>?_
 replace hs:=hs.move e1
 have h8:Sim B w0 ⟨e,h,n,nt⟩ a { w with drawn:=w.drawn+1 } m:=by
  have hb:Bel w.heap.size w { w with drawn:=w.drawn+1 }:=(Bel.refl _ _).drew;have hB:=hs.room;exact⟨hs.base,hs.below.trans (hb.mono hB),hs.defers,hs.size,λt=>(hs.env t).mono (Mm.le.refl m) (λ_ _ h=>h) (λb c2 _=>hb.block b c2),hs.heap.below hb,hs.dom,hs.ids,hs.fr.mono (Mm.le.refl m) (λ_ _ h=>h) (λb c2 _=>hb.block b c2) (aD _)⟩
 obtain⟨h1,h2,h3⟩:=DD (T:=T) hc.le h8.heap h8.dom h8.ids k (aD _)
 have hf:∀i,(Array.replicate ops.size false).getD i false=false:=by
  intro i;rw[bQ,xw]
  split<;>rfl
 refine DF (T:=T) hc h3 (λf listed a w m=>ao B w0 _ _ _ hK f listed a w m) ops.size _ a _ m (by simp) (λi o ho hl=>by rw[hf] at hl;cases hl) ?_ (λi _ _=>hf i) ⟨h8.base,h8.below,h8.defers,h8.size,h1,λid=>?_,(λi t hi hl=>by rw[hf] at hl;cases hl),λt _=>?_,by rw[h2];exact h8.fr⟩
 .unfold open_
  grind
 .rw[h8.dom];simp_all
 .rw[h2];exact h8.env t
theorem bm{K:Exit->St->Prop}(k:Nat){id:Nat}(hm:P.follows .mixedOrders=true)(c3:tA ops k=true)(hk:fF P ops nt (ops.toList.take k) e h n λe' h' n'=>bD P ops nt (ops.toList.drop k) e' h' n' λbv bz cf=>K .normal ⟨bv,bz,cf,nt⟩):aS fk P (.region id ops true) ⟨e,h,n,nt⟩ K:=by
 obtain⟨hc,aa⟩:=yJ c3;refine DG k hm hc hk (λB w0 e' h' n' hK f listed a w m h9 ag hl ay hs=>?_);exact uU (Kr:=λbv bz cf=>K .normal ⟨bv,bz,cf,nt⟩) (λe' h' n' a' w' m' b4 bb=>⟨_,m',b4,bb⟩) hc.down aa f k listed _ _ _ a w m (aD _) hc.le h9 ag hl ay hK hs
end
end Go.Fi
namespace Go.Fi
open Go Go.RowKit
variable[ak]
def nD(P:Program)(env:Env)(h:ae):ResultVar->Option (AV×Prop)
 |.tmp t=>some (get env t,True)
 |.cell ad t=>match aOp P h 0 (ev env) (.load t (.tmp ad)) with
  |some (c,v,_)=>some (v,c)
  |none=>none
def iM(P:Program)(env:Env)(h:ae):List ResultVar->Option (List AV×Prop)
 |[]=>some ([],True)
 |r::rs=>match nD P env h r with
  |some (v,c)=>match iM P env h rs with
   |some (vs,d)=>some (v::vs,c/\d)
   |none=>none
  |none=>none
def oneOf:List AV->AV
 |[v]=>v
 |vs=>.tup vs
def nE(P:Program)(rs:List ResultVar)(st:St)(res:PV)(fr:Bool):Prop:=
 match iM P st.env st.heap rs with
 |some (vs,c)=>c/\frz st.heap 6 (oneOf vs)=some res/\(fr=true->dY st.heap 6 (oneOf vs)=true)
 |none=>False
def iB:Nat->List PV->Env
 |_,[]=>[]
 |i,p::r=>(i,.w false false p)::iB (i+1) r
def ry(P:Program)(rs:List ResultVar)(res:PV)(fr:Bool):Exit->St->Prop
 |.normal,s=>nE P rs s res fr
 |.ret,s=>nE P rs s res fr
 |_,_=>False
section
variable{fk:Fk}{P:Program}{K:Exit->St->Prop}{st st':St}
omit [ak] in
theorem vS:∀(l:List PV)(i t:Nat),get (iB i l) t=if i<=t/\t<i+l.length then .w false false (l.getD (t-i) .undef) else .w false false .undef
 |[],i,t=>by simp[iB,get]
 |p::r,i,t=>by
  simp only[iB,get];by_cases h:i=t
  .subst h;simp
  .simp only[h,aQ];rw[vS r (i+1) t]
   grind
def oP(tmps:Array Value):ResultVar->Sem Value
 |.tmp t=>pure (tmps.getD t undef)
 |.cell a t=>do loadVar t (<-asAddr (tmps.getD a undef))
theorem qD{B:Base}{w0:Ctx fk}{a:Act}{w:World}{m:Mm}(hs:Sim B w0 st a w m):∀(rs:List ResultVar)(vs:List AV)(c:Prop),iM P st.env st.heap rs=some (vs,c)->c->∃us:List Value,(rs.mapM (oP a.tmps)).run P w=.ok us w/\vs.length=us.length/\∀(j:Nat)(p:AV)(u:Value),vs[j]?=some p->us[j]?=some u->al B (LB m st.heap) m w p u
 |[],vs,c,h,_=>by
  simp only[iM,a7,bE] at h;simp_all
 |r::rs,vs,c,h,hc=>by
  simp only[iM] at h;split at h
  .rename_i v d hr;split at h
   .rename_i bf d' d7;cases h;obtain⟨us,h1,h2,h3⟩:=qD hs rs bf d' d7 hc.2
    have ba:∃u,(oP a.tmps r).run P w=.ok u w/\al B (LB m st.heap) m w v u:=by
     cases r with
     |tmp t=>
      simp only[nD,a7,bE] at hr;obtain⟨rfl,_⟩:=hr;exact⟨_,rfl,hs.env t⟩
     |cell ad t=>
      simp only[nD] at hr;split at hr
      .rename_i c0 v0 E0 h0;cases hr;have hx:al B (LB m st.heap) m w (ev st.env (.tmp ad)) (a.eval (.tmp ad)):=hs.env ad;obtain⟨_,u,hu,aw⟩:=CY (P:=P) t (.tmp ad) { (default:Oper) with op:=.load t (.tmp ad)} rfl h0 hc.1 hs.heap (λid cs e=>fA e) hx;refine⟨u,?_,aw⟩
       have hp:∃pa,a.tmps.getD ad undef=.pointer (some pa):=by
        have br:al B (LB m st.heap) m w (get st.env ad) (a.tmps.getD ad undef):=hs.env ad;simp only[aOp] at h0;split at h0
        .split at h0
         .rename_i id ver off e;rw[show ev st.env (.tmp ad)=get st.env ad from rfl] at e;rw[e] at br;obtain⟨b,C,hv,_⟩:=br.oC;exact⟨_,hv⟩
         .rename_i own f cells off e;rw[show ev st.env (.tmp ad)=get st.env ad from rfl] at e;rw[e] at br;obtain⟨b,o',vals,hv,_⟩:=br.pJ;exact⟨_,hv⟩
         .cases h0
        .cases h0
       obtain⟨pa,cj⟩:=hp;have he:a.eval (.tmp ad)=.pointer (some pa):=cj;simp only[execOp,he,Instr.loadAt,Instr.sureAddr,Sem.run_bind,Sem.run_pure,Result.andThen_ok] at hu;simp only[oP,cj,asAddr,Sem.run_bind,Sem.run_pure,Result.andThen_ok]
       cases hl:(loadVar t pa).run P w with
       |ok x w1=>rw[hl] at hu;simp only[Result.andThen_ok,Result.ok.injEq,Next.value.injEq] at hu;rw[hu.1,hu.2]
       |halt x w1=>rw[hl] at hu;simp at hu
      .cases hr
    obtain⟨u,hu,dr⟩:=ba;refine⟨u::us,?_,by simp[h2],λj p q hp hq=>?_⟩
    .simp only[xo,Sem.run_bind,hu,h1,Result.andThen_ok,Sem.run_pure]
    grind
   .cases h
  .cases h
def BY(P:Program)(fn:Func)(c:Code)(args:List PV)(res:PV)(fr:Bool):Prop:=
 ∀(G:Nat->Prop)(w:World)(vs:Array Value),ak.ok w->args.length=vs.size->(∀(j:Nat)(p:PV)(v:Value),args[j]?=some p->vs[j]?=some v->Rep G w p v) ->
  c.wpT none P (bodyPost P fn λe w'=>∃v,e=.returned v/\Bel w.heap.size w w'/\Rep (λb=>(b<w.heap.size->G b)/\(fr=true->w.heap.size<=b)) w' res v) { tmps:=vs++Array.replicate (fn.ntmps-vs.size) undef,defers:=[] } w
theorem Fz{fn:Func}{c:Code}{args:List PV}{res:PV}{fr:Bool}(bp:args.length<=fn.ntmps)(h:aS fk0 P c ⟨iB 0 args,[],0,fn.ntmps⟩ (ry P fn.results.toList res fr)):BY P fn c args res fr:=by
 refineλG w vs c5 hlen aw=>?_
 have bb:Sim ⟨w.heap.size,G⟩ (⟨w,[],none,[],[],λri h=>(by cases h),c5⟩:Ctx fk0) ⟨iB 0 args,[],0,fn.ntmps⟩ { tmps:=vs++Array.replicate (fn.ntmps-vs.size) undef,defers:=[] } w ⟨λ_ _=>none,λ_=>0,λ_=>False⟩:=by
  refine⟨rfl,Bel.refl _ _,rfl,by simp;omega,λt=>?_,⟨λid cells hin=>(by cases hin),List.Pairwise.nil⟩,λi=>⟨λh=>h.elim,λh=>absurd h (Iv i)⟩,λid c hin=>(by cases hin),aR _,(λp hp=>by cases hp),λq hq=>by cases hq⟩;show al _ _ _ _ (get (iB 0 args) t) _;rw[vS];split
  .rename_i ht
   have a4:t<args.length:=by omega
   refine .w ?_ nofun
   have:(vs++Array.replicate (fn.ntmps-vs.size) undef).getD t undef=vs[t]'(by omega):=by
    rw[bQ,rZ (by omega),bS (by omega)];rfl
   rw[this]
   refine (aw t _ _ (by simp_all) (bS (by omega))).imp λb hg=>⟨?_,nofun,λ_=>hg⟩
   rintro⟨id,cells,C,hin,_⟩
   cases hin
  .exact .w (.undef _) nofun
 refine dK (h _ _ _ _ _ bb) (λe a' w' ⟨st',m',hk,hs⟩=>?_)
 have main:nE P fn.results.toList st' res fr->a'.defers=[]/\∀w1,EnvD.E w' w1->∃v,(results fn a'.tmps).run P w1=.ok v w1/\∃v',Ending.returned v=.returned v'/\Bel w.heap.size w w1/\Rep (λb=>(b<w.heap.size->G b)/\(fr=true->w.heap.size<=b)) w1 res v':=by
  intro hr;refine⟨hs.defers,λw' e1=>?_⟩;replace hs:=hs.move e1;unfold nE at hr;split at hr
  .rename_i bf d c6;obtain⟨hd,cw,cv⟩:=hr;obtain⟨us,h1,h2,h3⟩:=qD hs _ _ _ c6 hd
   have c7:(results fn a'.tmps).run P w'=.ok (if h:us.toArray.size=1 then us.toArray[0] else .tuple us.toArray) w':=by
    have he:results fn a'.tmps=(do
     let vs <-fn.results.mapM (oP a'.tmps)
     pure (if h:vs.size=1 then vs[0] else .tuple vs)):=rfl
    rw[he,rR];simp only[Sem.run_bind,Sem.run_map,h1,Result.andThen_ok,Sem.run_pure]
   have ba:al ⟨w.heap.size,G⟩ (LB m' st'.heap) m' w' (oneOf bf) (if h:us.toArray.size=1 then us.toArray[0] else .tuple us.toArray):=by
    have tupc:bf.length≠1->al ⟨w.heap.size,G⟩ (LB m' st'.heap) m' w' (.tup bf) (if h:us.toArray.size=1 then us.toArray[0] else .tuple us.toArray):=by
     intro bh;rw[dif_neg (by simp;omega)];exact .tup (by simpa using h2) (λj p u hp hu=>h3 j p u hp (by simpa using hu))
    match bf,h2,h3,tupc with
    |[],h2,h3,tupc=>exact tupc (by simp)
    |[v],h2,h3,tupc=>
     obtain⟨u,rfl⟩:∃u,us=[u]:=Cq.1 (by simpa using h2.symm);exact h3 0 v u rfl rfl
    |v::v2::r,h2,h3,tupc=>exact tupc (by simp)
   refine⟨_,c7,_,rfl,hs.below,?_⟩;exact mM (B:=⟨w.heap.size,G⟩) hs.heap (λid cs e=>fA e) fr (λb hb=>⟨λhl=>by simp only at hb;omega,λ_=>hb⟩) (λhf b hg=>⟨hg.2.2,λh=>by rw[hf] at h;cases h⟩) 6 _ _ _ cw cv ba
  trivial
 cases e<;>first|exact main hk|exact hk.elim
theorem M8{f:FuncId}{fn:Func}{c:Code}{args:List PV}{res:PV}{fr:Bool}(hf:P.funcs[f]?=some fn) (aq:(fn.name == "runtime.NumGoroutine")=false) (hb:fn.body=some c) (bp:args.length<=fn.ntmps) (h:aS fk0 P c ⟨iB 0 args,[],0,fn.ntmps⟩ (ry P fn.results.toList res fr)):aB P f args res fr:=
 ⟨⟨fn,hf,aq,by rw[hb];rfl⟩,λG w vs c5 hlen aw=>um hf hb (Fz bp h G w vs c5 hlen aw)⟩
theorem rcK{f:FuncId}{fn:Func}{c:Code}{args:List PV}{res:PV}{fr:Bool}(hf:P.funcs[f]?=some fn)(h:aS fk0 P c ⟨iB 0 args,[],0,fn.ntmps⟩ (ry P fn.results.toList res fr)) (aq:(fn.name == "runtime.NumGoroutine")=false:=by kernel_rfl) (hb:fn.body=some c:=by rfl) (bp:args.length<=fn.ntmps:=by exact ga (by kernel_rfl)):aB P f args res fr:=
 M8 hf aq hb bp h
def rz:AV->AV->Prop
 |.w o f p,.w o' f' p'=>(o'=true->o=true)/\(f'=true->f=true)/\(p'=p\/p'=.undef/\f'=false)
 |a,b=>a=b
def rA(env:Env)(n:Nat):Env->Prop
 |[]=>True
 |(t,v)::r=>rz (get env t) v/\v.lt n=true/\rA env n r
def pW(h:ae)(n:Nat):ae->Prop
 |[]=>True
 |(i,c)::r=>aU h i=some c/\i<n/\AV.lt.ltL n c=true/\aU r i=none/\pW h n r
section
omit [ak]
theorem FA{B:Base}{L:Nat->Prop}{m:Mm}{w:World}{x y:AV}{v:Value}(c9:rz x y)(h:al B L m w x v):al B L m w y v:=by
 unfold rz at c9;split at c9
 .obtain⟨h1,h2,h3⟩:=c9
  cases h with
  |w hr hf=>
   rcases h3 with rfl|⟨rfl,h4⟩
   .exact .w (hr.imp λb hg=>⟨hg.1,λe=>hg.2.1 (h1 e),hg.2.2⟩) (λe=>hf (h2 e))
   .exact .w (.undef _) (λe=>by rw[h4] at e;cases e)
 simp_all
theorem FB{n:Nat}:∀{env' env:Env},rA env n env'->∀t,(rz (get env t) (get env' t)/\(get env' t).lt n=true)\/get env' t=.w false false .undef
 |[],env,_,t=>.inr rfl
 |(k,v)::r,env,h,t=>by
  obtain⟨h1,h2,h3⟩:=h;simp only[get];split
  .simp_all
  .exact FB h3 t
theorem qE{n:Nat}{h:ae}:∀{h':ae},pW h n h'->∀i c,(i,c)∈h'->aU h i=some c/\i<n/\AV.lt.ltL n c=true
 |[],_,i,c,hin=>by cases hin
 |(k,v)::r,hh,i,c,hin=>by
  obtain⟨h1,h2,h3,h4,h5⟩:=hh
  rcases db.1 hin with e|e
  .simp_all
  .exact qE h5 i c e
theorem Ar:∀{h:ae}{i:Nat},aU h i=none->∀p∈h,p.1≠i
 |[],i,_,p,hp=>by cases hp
 |(k,v)::r,i,hh,p,hp=>by
  simp only[aU] at hh;split at hh
  .cases hh
  .rename_i hk
   rcases db.1 hp with e|e
   .simp_all
   .exact Ar hh p e
theorem FC{n:Nat}{h:ae}:∀{h':ae},pW h n h'->h'.Pairwise λp q=>p.1≠q.1
 |[],_=>List.Pairwise.nil
 |(k,v)::r,hh=>by
  obtain⟨h1,h2,h3,h4,h5⟩:=hh;exact Il.2 ⟨λq hq e=>Ar h4 q hq e.symm,FC h5⟩
end
theorem aM{env env':Env}{h h':ae}{n n' nt:Nat}(h1:rA env n' env')(h2:pW h n' h')(hk:fk.k<=n':=by first|exact aR _|omega|(simp;done)):Lek fk ⟨env,h,n,nt⟩ ⟨env',h',n',nt⟩:=by
 intro B w0 a w m hs
 have hL:∀b,LB { m with dom:=λi=>i<n' } h' b->LB m h b:=by
  rintro b ⟨id,c,C,hin,_,ha⟩
  obtain⟨g1,_,_⟩:=qE h2 id c hin;have hm:=fA g1;exact⟨id,c,C,hm,(hs.dom id).2 (hs.ids id c hm),ha⟩
 refine⟨{ m with dom:=λi=>i<n' },hs.base,hs.below,hs.defers,hs.size,λt=>?_,⟨λid c hin hd=>?_,?_⟩,λi=>Iff.rfl,λid c hin=>(qE h2 id c hin).2.1,hk,λp hp=>⟨(hs.fr.2.1 p hp).1,(hs.fr.2.1 p hp).2.Bg (AV.qQ hk (hs.fr.2.1 p hp).1) hL⟩,λq hq=>let ⟨o1,o2,o3,o4⟩:=hs.fr.2.2 q hq;⟨o1,o2,λh=>o3 (hL _ h),o4⟩⟩
 .show al _ _ _ _ (get env' t) _
  rcases FB h1 t with ⟨g1,g2⟩|g1
  .exact (FA g1 (hs.env t)).Bg g2 hL
  .rw[g1];exact .w (.undef _) nofun
 .obtain⟨g1,_,g3⟩:=qE h2 id c hin;have hm:=fA g1;obtain⟨ht,bk⟩:=hs.heap.entry id c hm ((hs.dom id).2 (hs.ids id c hm));refine⟨ht,?_⟩
  rcases bk with bk|⟨b,C,cs,e,e1,e2,e3,e4,e5,e6⟩|bk
  .exact .inl bk
  .exact .inr (.inl ⟨b,C,cs,e,e1,e2,e3,e4,e5,λj p v hp hv=>(e6 j p v hp hv).Bg (nR g3 j p hp) hL⟩)
  simp_all
 .have hk:=FC h2;refine rQ ?_ hk;intro x y hx hy bh;refine⟨bh,λb C C' _ _ dc df=>?_⟩;have mx:=fA (qE h2 x.1 x.2 hx).1;have my:=fA (qE h2 y.1 y.2 hy).1;have:=hs.heap.inj;rw[rV] at this;obtain⟨p,hp,ep⟩:=lI mx;obtain⟨q,hq,eq⟩:=lI my;have dx:m.dom x.1:=(hs.dom _).2 (hs.ids _ _ mx);have dy:m.dom y.1:=(hs.dom _).2 (hs.ids _ _ my)
  grind
theorem Lek.refl(st:St):Lek fk st st:=λ_ _ _ _ m hs=>⟨m,hs⟩
theorem Lek.trans{a b c:St}(h:Lek fk a b)(k:Lek fk b c):Lek fk a c:=λB w0 x w m hs=>let ⟨m',h8⟩:=h B w0 x w m hs;k B w0 x w m' h8
end
end Go.Fi
