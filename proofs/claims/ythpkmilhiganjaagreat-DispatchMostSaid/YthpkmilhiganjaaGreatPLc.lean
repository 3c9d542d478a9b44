/- Lemmas. -/
import Derived.Test.YthpkmilhiganjaaGreatPLb
import Derived.Deep.LoopGhost
import Derived.KernelRfl
set_option linter.all false
set_option maxHeartbeats 32000000
set_option maxRecDepth 100000
namespace Go.Fi
open Go Go.RowKit
variable[bI]
def gj(ops:Array Oper)(env:Env)(o:Oper):Option Bool:=
 match o.guard with
 |none=>some true
 |some (j,want)=>
  match (ops[j]?).bind (·.dst) with
  |none=>some false
  |some t=>
   match get env t with
   |.w _ _ (.bool b)=>some (b==want)
   |.tup []=>some false
   |_=>none
def dt(P:Program)(ops:Array Oper)(nt:Nat):List Oper->Env->bE->Nat->(Env->bE->Nat->Prop)->Prop
 |[],e,h,n,K=>K e h n
 |o::os,e,h,n,K=>
  match gj ops e o with
  |some g=>dOk nt o.dst/\(g=true->dp P e h n o.op λv h' n'=>dt P ops nt os (put e o.dst v) h' n' K) /\
    (g=false->dt P ops nt os (put e o.dst (.tup [])) h n K)
  |none=>False
def cP(fk:Fk)(P:Program)(c:Code)(st:St)(K:Exit->St->Prop):Prop:=
 ∀(B:Base)(w0:Ctx fk)(a:Act)(w:World)(m:Mm),Sim B w0 st a w m->c.wpT w0.r P (λe a' w'=>∃st' m',K e st'/\Sim B w0 st' a' w' m') a w
def Lek(fk:Fk)(st st':St):Prop:=∀(B:Base)(w0:Ctx fk)(a:Act)(w:World)(m:Mm),Sim B w0 st a w m->∃m',Sim B w0 st' a w m'
section
variable{fk:Fk}{P:Program}{K:Exit->St->Prop}{st st':St}
theorem qy{ops:Array Oper}{env:Env}{o:Oper}{g:Bool}{B:Base}{w0:Ctx fk}{h:bE}{n nt:Nat}{a:Act}{w:World}{m:Mm}(hg:gj ops env o=some g)(hs:Sim B w0 ⟨env,h,n,nt⟩ a w m):Region.wanted o (yielded ops a.tmps)=g:=by
 unfold gj at hg;unfold Region.wanted;split at hg
 .simp_all
 .rename_i j want e;rw[e];simp only;split at hg
  .rename_i ed;cases hg;simp[yielded,ed]
  .rename_i t ed;have ht:=hs.env t;split at hg
   .rename_i ow f b eg;cases hg;rw[show get (St.env ⟨env,h,n,nt⟩) t=get env t from rfl,eg] at ht;have hv:=ht.kZ
    have a4:t<a.tmps.size:=by
     rcases fo t a.tmps.size with h|h
     .exact h
     .rw[dF,DI h] at hv;cases hv
    have hq:a.tmps[t]?=some (.bool b):=by
     rw[dF,du a4] at hv;rw[du a4]
     grind
    simp only[yielded,ed,lj,hq]
    cases b<;>cases want<;>rfl
   .rename_i eg;cases hg;rw[show get (St.env ⟨env,h,n,nt⟩) t=get env t from rfl,eg] at ht;obtain⟨vs,hv,hl,_⟩:=ht.xN
    have c4:vs=#[]:=ak
    subst c4
    have:yielded ops a.tmps j=none:=by
     simp only[yielded,ed,lj];rw[dF] at hv
     grind
    rw[this];rfl
   .cases hg
theorem nj{ops:Array Oper}{nt:Nat}{B:Base}{w0:Ctx fk}{Kr:Env->bE->Nat->Prop}{Q:Exit->Act->World->Prop}(hQ:∀e h n a w m,Kr e h n->Sim B w0 ⟨e,h,n,nt⟩ a w m->Q .normal a w):∀(os:List Oper)(e:Env)(h:bE)(n:Nat)(a:Act)(w:World)(m:Mm),dt P ops nt os e h n Kr->Sim B w0 ⟨e,h,n,nt⟩ a w m->iB w0.r P ops Q os a w
 |[],e,h,n,a,w,m,hk,hs=>hQ e h n a w m hk hs
 |o::os,e,h,n,a,w,m,hk,hs=>by
  simp only[dt] at hk;split at hk
  .rename_i g hg;have hw:=qy hg hs;simp only[iB,hw];intro w1 e1;replace hs:=hs.move e1
   cases g with
   |true=>
    simp only[cz];exact jK (wI (hk.2.1 rfl)) (wJ w0 o (K:=λv h' n'=>dt P ops nt os (put e o.dst v) h' n' Kr) (hk.2.1 rfl) hs hk.1 Q _ (λv h' n' a' w' m' b5 h8=>nj hQ os _ _ _ _ _ m' b5 h8))
   |false=>
    simp only[dz,cT];refine nj hQ os _ _ _ _ _ m (hk.2.2 rfl) ⟨hs.base,hs.below,by rw[kI];exact hs.defers,by rw[kE];exact hs.size,?_,hs.heap,hs.dom,hs.ids,hs.fr⟩;exact ni e a o.dst _ _ (by rw[hs.size];exact hk.1) (.tup rfl (λj p v hp=>by simp at hp)) hs.env
  trivial
theorem bG{id:Nat}{ops:Array Oper}{env:Env}{h:bE}{n nt:Nat}(hk:dt P ops nt ops.toList env h n λe' h' n'=>K .normal ⟨e',h',n',nt⟩):cP fk P (.region id ops false) ⟨env,h,n,nt⟩ K:=
 λ_ _ _ _ _ hs=>qv (nj (λ_ _ _ _ _ m b5 h8=>⟨_,m,b5,h8⟩) ops.toList _ _ _ _ _ _ hk hs)
theorem tZ{c:Code}{K':Exit->St->Prop}(h:cP fk P c st K)(hk:∀e s,K e s->K' e s):cP fk P c st K':=
 λB w0 a w m hs=>fe (h B w0 a w m hs) (λ_ _ _ ⟨st',m',h1,h2⟩=>⟨st',m',hk _ _ h1,h2⟩)
def sE(fk:Fk)(P:Program)(b:Code)(K:Exit->St->Prop):Exit->St->Prop
 |.normal,s=>cP fk P b s K
 |e,s=>K e s
theorem bH{x y:Code}(h:cP fk P x st (sE fk P y K)):cP fk P (.seq x y) st K:=
 λB w0 a w m hs=>zB (fe (h B w0 a w m hs) (λe a' w' ⟨st',m',h1,h2⟩=>by
  cases e<;>first|exact h1 B w0 a' w' m' h2|exact⟨st',m',h1,h2⟩))
theorem b7(h:K .normal st):cP fk P .skip st K:=λ_ _ _ _ m hs=>LA ⟨st,m,h,hs⟩
theorem bT(h:K .ret st):cP fk P .ret st K:=λ_ _ _ _ m hs=>ET ⟨st,m,h,hs⟩
theorem da{id:Nat}(h:K (.exit id) st):cP fk P (.exit id) st K:=λ_ _ _ _ m hs=>LG ⟨st,m,h,hs⟩
def jh(id:Nat)(K:Exit->St->Prop):Exit->St->Prop
 |.exit ck,s=>if ck=id then K .normal s else K (.exit ck) s
 |e,s=>K e s
theorem gS{id:Nat}{c:Code}(h:cP fk P c st (jh id K)):cP fk P (.block id c) st K:=
 λB w0 a w m hs=>zC (fe (h B w0 a w m hs) (λe a' w' ⟨st',m',h1,h2⟩=>by
  cases e<;>first
   |exact⟨st',m',h1,h2⟩
   |(simp only[Exit.inBlock];simp only[jh] at h1;split<;>(rename_i bl;simp only[bl,cz,cT] at h1;exact⟨st',m',h1,h2⟩))))
def oH(v:AV)(X Y:Prop):Prop:=
 match v with
 |.w _ _ (.bool b)=>(b=true->X)/\(b=false->Y)
 |.w _ _ .jQ=>X/\Y
 |_=>False
theorem Nf{c:Operand}{x y:Code}(h:oH (ev st.env c) (cP fk P x st K) (cP fk P y st K)):cP fk P (.cond c x y) st K:=by
 intro B w0 a w m hs;have hc:bJ B (LB m st.heap) m w (ev st.env c) (a.eval c):=ma c (λt _=>hs.env t);unfold oH at h;split at h
 .rename_i o f b e;rw[e] at hc;refine vQ hc.kZ ?_;cases b
  .exact h.2 rfl B w0 a w m hs
  .exact h.1 rfl B w0 a w m hs
 .rename_i o f e;rw[e] at hc
  have:∃b,a.eval c=.bool b:=by
   generalize hv:a.eval c=v at hc
   cases hc with|w h _=>cases h with|jQ b=>exact⟨b,rfl⟩
  obtain⟨b,hb⟩:=this;refine vQ hb ?_;cases b
  .exact h.2 B w0 a w m hs
  .exact h.1 B w0 a w m hs
 trivial
theorem Ng{c:Code}(h:fk.k<=st.nxt->cP fk P c st K):cP fk P c st K:=λB w0 a w m hs=>h hs.fr.1 B w0 a w m hs
def lN(fk:Fk){α:Type}(J:α->Prop)(I:α->St)(μ:α->Nat)(x:α)(K:Exit->St->Prop):Exit->St->Prop
 |.normal,s=>∃y,J y/\μ y<μ x/\Lek fk s (I y)
 |e,s=>K e s
theorem Ag{c:Code}{α:Type}(J:α->Prop)(I:α->St)(μ:α->Nat)(x0:α)(hJ:J x0)(h0:Lek fk st (I x0))(round:∀x,J x->cP fk P c (I x) (lN fk J I μ x K)):cP fk P (.loop c) st K:=by
 intro B w0 a w m hs;refine zD (λk a w=>∃x m,J x/\μ x=k/\Sim B w0 (I x) a w m) (μ x0) aQ ?_
 rintro k a w ⟨x,m,hx,rfl,cg⟩
 refine fe (round x hx B w0 a w m cg) (λe a' w' ⟨st',m',h2,h3⟩=>?_)
 cases e<;>first
  |exact⟨st',m',h2,h3⟩
  |(obtain⟨y,hy,a4,hle⟩:=h2
    obtain⟨d7,h4⟩:=hle B w0 a' w' m' h3
    exact⟨μ y,a4,y,d7,hy,rfl,h4⟩)
def Cs(fk:Fk){β:Type}(id:Nat)(F:β->Prop)(fin:β->St)(R:St->Prop):Exit->St->Prop
 |.exit i,s=>i=id/\∃y,F y/\Lek fk s (fin y)
 |.ret,s=>R s
 |_,_=>False
end
def reach(ops:Array Oper):Nat->Nat->Nat->Bool
 |0,_,_=>false
 |f+1,i,j=>
  match ops[i]? with
  |some o=>o.after.toList.any λe=>Region.binds .any e&&(e.on==j || reach ops f e.on j)
  |none=>false
def dV(ops:Array Oper)(i:Nat):Option Nat:=(ops[i]?).bind (·.dst)
def jV(ops:Array Oper)(o:Oper):List Nat:=
 (o.op.operands.toList.filterMap λx=>match x with | .tmp t=>some t|_=>none)++(match o.guard with|some (j,_)=>(dV ops j).toList|none=>[])
def uR(ops:Array Oper)(k:Nat):Bool:=
 decide (k<=ops.size) &&
 ((List.range ops.size).all λi=>match ops[i]? with
   |some o=>o.after.toList.all λe=>!Region.binds .any e || decide (e.on<i)
   |none=>true) &&
 ((List.range k).all λi=>match ops[i]? with
   |some o=>((jV ops o).all λt=>(List.range k).all λj=>if dV ops j=some t then decide (j<i)&&reach ops 4 i j else true) &&
     ((List.range k).all λj=>decide (j=i) || o.dst.isNone || decide (dV ops j≠o.dst))
   |none=>false) &&
 ((List.range ops.size).all λi=>decide (i<k) || (List.range i).all λj=>reach ops 8 i j)
def gk(P:Program)(ops:Array Oper)(nt:Nat):List Oper->Env->bE->Nat->(Env->bE->Nat->Prop)->Prop
 |[],e,h,n,K=>K e h n
 |o::os,e,h,n,K=>
  match gj ops e o with
  |some g=>dOk nt o.dst/\(g=true->dk P e h n o.op λv E=>gk P ops nt os (put e o.dst v) (cV h n E) (n+E.length) K) /\
    (g=false->gk P ops nt os (put e o.dst (.tup [])) h n K)
  |none=>False
structure Tr(P:Program)(ops:Array Oper)(nt:Nat)(os:List Oper)(e:Env)(h:bE)(n:Nat) where
 es:Nat->Env
 hs:Nat->bE
 ns:Nat->Nat
 vs:Nat->AV
 Es:Nat->List (List AV)
 gs:Nat->Bool
 e0:es 0=e
 h0:hs 0=h
 n0:ns 0=n
 step:∀i o,os[i]?=some o->dOk nt o.dst/\gj ops (es i) o=some (gs i)/\es (i+1)=put (es i) o.dst (vs i)/\hs (i+1)=cV (hs i) (ns i) (Es i)/\ns (i+1)=ns i+(Es i).length /\
  (gs i=true->QF P (es i) (hs i) (ns i) o.op (vs i) (Es i))/\(gs i=false->vs i=.tup []/\Es i=[])
theorem Ah{P:Program}{ops:Array Oper}{nt:Nat}{K:Env->bE->Nat->Prop}:∀(os:List Oper)(e:Env)(h:bE)(n:Nat),gk P ops nt os e h n K->∃T:Tr P ops nt os e h n,K (T.es os.length) (T.hs os.length) (T.ns os.length)
 |[],e,h,n,hk=>⟨⟨λ_=>e,λ_=>h,λ_=>n,λ_=>.tup [],λ_=>[],λ_=>true,rfl,rfl,rfl,λi o hi=>by simp at hi⟩,hk⟩
 |o::os,e,h,n,hk=>by
  simp only[gk] at hk;split at hk
  .rename_i g hg;obtain⟨hd,h1,h2⟩:=hk
   have main:∀(v:AV)(E:List (List AV)),(g=true->QF P e h n o.op v E)->(g=false->v=.tup []/\E=[])->gk P ops nt os (put e o.dst v) (cV h n E) (n+E.length) K ->
    ∃T:Tr P ops nt (o::os) e h n,K (T.es (o::os).length) (T.hs (o::os).length) (T.ns (o::os).length):=by
    intro v E q1 q2 hr;obtain⟨T,hK⟩:=Ah os _ _ _ hr
    refine⟨⟨λi=>match i with|0=>e|i+1=>T.es i,λi=>match i with|0=>h|i+1=>T.hs i,λi=>match i with|0=>n|i+1=>T.ns i,
     λi=>match i with|0=>v|i+1=>T.vs i,λi=>match i with|0=>E|i+1=>T.Es i,λi=>match i with|0=>g|i+1=>T.gs i,rfl,rfl,rfl,λi o' hi=>?_⟩,hK⟩
    cases i with
    |zero=>
     simp at hi;subst hi;exact⟨hd,hg,T.e0,T.h0,T.n0,q1,q2⟩
    |succ i=>exact T.step i o' aM
   cases g with
   |true=>
    obtain⟨v,E,q,hr⟩:=(h1 rfl).qf;exact main v E (λ_=>q) nofun hr
   |false=>exact main (.tup []) [] nofun (λ_=>⟨rfl,rfl⟩) (h2 rfl)
  trivial
section
variable{P:Program}{ops:Array Oper}{nt:Nat}{os:List Oper}{e:Env}{h:bE}{n:Nat}
theorem Tr.jW(T:Tr P ops nt os e h n){i j:Nat}(bm:i<=j)(hj:j<=os.length):T.ns i<=T.ns j:=by
 induction j with
 |zero=>have:i=0:=by omega
        simp_all
 |succ j ih=>
  by_cases hi:i=j+1
  .simp_all
  .have:=ih ab ab;have hs:=(T.step j os[j] (dP ab)).2.2.2.2.1;omega
theorem Tr.uS(T:Tr P ops nt os e h n){i j:Nat}(bm:i<=j)(hj:j<=os.length){p:Nat×List AV}(hp:p∈T.hs i):p∈T.hs j:=by
 induction j with
 |zero=>have:i=0:=by omega
        simp_all
 |succ j ih=>
  by_cases hi:i=j+1
  .simp_all
  .have:=ih ab ab;have hs:=(T.step j os[j] (dP ab)).2.2.2.1;rw[hs];exact (lD (T.Es j) (T.hs j) (T.ns j) p.1 p.2).2 (.inl this)
theorem Tr.It(T:Tr P ops nt os e h n)(i:Nat)(hi:i<=os.length)(t:Nat):(∃(j:Nat)(o:Oper),j<i/\os[j]?=some o/\o.dst=some t/\get (T.es i) t=T.vs j)\/((∀(j:Nat)(o:Oper),j<i->os[j]?=some o->o.dst≠some t)/\get (T.es i) t=get e t):=by
 induction i with
 |zero=>rw[T.e0];simp
 |succ i ih=>
  have cu:os[i]?=some os[i]:=dP ab;have hs:=(T.step i os[i] cu).2.2.1;rw[hs]
  cases hd:os[i].dst with
  |none=>
   simp only[put]
   grind
  |some d=>
   simp only[put,get]
   grind
end
end Go.Fi
namespace Go.Fi
open Go Go.RowKit
variable[bI]
variable{fk:Fk}
section
variable{P:Program}{ops:Array Oper}{nt:Nat}{k:Nat}
def Closed(ops:Array Oper)(listed:Array Bool):Prop:=
 ∀(i:Nat)(o:Oper),ops[i]?=some o->listed.getD i false=true->∀e∈o.after,Region.binds .any e=true->listed.getD e.on false=true
omit [bI] in
theorem nk{listed:Array Bool}(hc:Closed ops listed):∀(f i j:Nat)(o:Oper),ops[i]?=some o->(∀e∈o.after,Region.binds .any e=true->listed.getD e.on false=true)->reach ops f i j=true->listed.getD j false=true
 |0,_,_,_,_,_,h=>by trivial
 |f+1,i,j,o,ho,he,h=>by
  simp only[reach,ho,List.any_eq_true,eY,qj] at h;obtain⟨e,hin,hb,h1⟩:=h;have hl:=he e (rC.1 hin) hb
  rcases h1 with h1|h1
  .have:e.on=j:=ak
   rw[<-this];exact hl
  .cases b6:ops[e.on]? with
   |none=>cases f<;>simp[reach,b6] at h1
   |some o'=>exact nk hc f e.on j o' b6 (hc e.on o' b6 hl) h1
omit [bI] in
theorem Closed.set{listed:Array Bool}(hc:Closed ops listed){i:Nat}{o:Oper}(ho:ops[i]?=some o)(he:∀e∈o.after,Region.binds .any e=true->listed.getD e.on false=true):Closed ops (listed.setIfInBounds i true):=by
 intro j o' b6 hl e hin hb;by_cases bm:i=j
 .subst bm
  rw[ho] at b6;injection b6 with b6;subst b6
  exact getD_set_true (he e hin hb)
 .rw[getD_set_ne false bm] at hl;exact getD_set_true (hc j o' b6 hl e hin hb)
def open_(listed:Array Bool):Nat:=listed.toList.countP (λb=>!b)
section
omit [bI]
theorem qz{listed:Array Bool}{i:Nat}(hi:listed[i]?=some false):open_ (listed.setIfInBounds i true)+1=open_ listed:=by
 unfold open_
 grind
theorem qA{listed:Array Bool}(h:open_ listed=0){i:Nat}(hi:i<listed.size):listed.getD i false=true:=by
 unfold open_ at h;rw[List.countP_eq_zero] at h;have:=h listed[i] ae;rw[dF,du hi];simp_all
theorem rP{listed:Array Bool}(h9:listed.size=ops.size)(b':∀(i:Nat)(o:Oper),ops[i]?=some o->∀e∈o.after,Region.binds .any e=true->e.on<i):∀i,i<ops.size->listed.getD i false=false->Region.ready .any ops listed≠[]:=by
 intro i
 induction i using Nat.strongRecOn with
 |_ i ih=>
  intro hi hl;by_cases hex:∃e∈ops[i].after,Region.binds .any e=true/\listed.getD e.on false=false
  .grind
  .intro aq
   have:i∈Region.ready .any ops listed:=mem_ready.2 ⟨by
    rw[dF,du ab] at hl ⊢
    exact hl,ops[i],du hi,λe hin hb=>by
    simp_all⟩
   rw[aq] at this;cases this
theorem om{listed:Array Bool}(h9:listed.size=ops.size){i:Nat}(hr:i∈Region.ready .any ops listed):∃o,ops[i]?=some o/\listed[i]?=some false/\∀e∈o.after,Region.binds .any e=true->listed.getD e.on false=true:=by
 obtain⟨h0,o,ho,he⟩:=mem_ready.1 hr
 have a4:i<listed.size:=by rw[h9];exact (cY.1 ho).1
 simp_all
end
theorem wK{B:Base}{w0:Ctx fk}{Kr:Env->bE->Nat->Prop}{Q:Exit->Act->World->Prop}(hQ:∀e h n a w m,Kr e h n->Sim B w0 ⟨e,h,n,nt⟩ a w m->Q .normal a w)(b':∀(i:Nat)(o:Oper),ops[i]?=some o->∀e∈o.after,Region.binds .any e=true->e.on<i)(a9:∀i,k<=i->i<ops.size->∀j,j<i->reach ops 8 i j=true):∀(f i:Nat)(listed:Array Bool)(e:Env)(h:bE)(n:Nat)(a:Act)(w:World)(m:Mm),k<=i->i<=ops.size->listed.size=ops.size->Closed ops listed->(∀j,j<ops.size->(listed.getD j false=true↔j<i))->open_ listed<=f->dt P ops nt (ops.toList.drop i) e h n Kr->Sim B w0 ⟨e,h,n,nt⟩ a w m->jP w0.r P .any ops Q f listed a w:=by
 intro f
 induction f with
 |zero=>
  intro i listed e h n a w m cw hi h9 hc hl b4 hk hs
  have a5:i=ops.size:=by
   rcases fo i ops.size with a4|dc
   .have:=qA (yJ.1 b4) (i:=i) ab;have:=(hl i a4).1 this;omega
   .omega
  subst a5;rw[JS ae] at hk;refine⟨?_,hQ _ _ _ _ _ _ hk hs⟩
  cases hr:Region.ready .any ops listed with
  |nil=>rfl
  |cons x xs=>
   obtain⟨o,ho,hf,_⟩:=om h9 (i:=x) (by rw[hr];simp);have hx:=(cY.1 ho).1;have:=(hl x hx).2 hx;rw[dF,hf] at this;cases this
 |succ f ih=>
  intro i listed e h n a w m cw hi h9 hc hl b4 hk hs;by_cases a4:i<ops.size
  .have ba:=rP h9 b' i a4 (by
    cases hq:listed.getD i false with
    |true=>have:=(hl i a4).1 hq;omega
    |false=>rfl)
   refine⟨λaq=>absurd aq ba,λx hx=>?_⟩;obtain⟨o,ho,hf,he⟩:=om h9 hx;have bq:=(cY.1 ho).1
   have d5:x=i:=by
    have h1:¬x<i:=λd6=>by
     have:=(hl x bq).2 d6;rw[dF,hf] at this;cases this
    rcases fo i x with h2|h2
    .have:=nk hc 8 x i o ho he (a9 x ab bq i h2);have:=(hl i a4).1 this;omega
    .omega
   subst d5
   have bi:ops.toList.drop x=o::ops.toList.drop (x+1):=by
    rw[TZ (by simpa using a4)];congr 1
    have:ops.toList[x]?=some o:=by rw[iW];exact ho
    rw[dP (by simpa using a4)] at this;injection this
   rw[bi] at hk;simp only[dt] at hk
   have a6:∀e' h' n' a' w' m',dt P ops nt (ops.toList.drop (x+1)) e' h' n' Kr->Sim B w0 ⟨e',h',n',nt⟩ a' w' m'->jP w0.r P .any ops Q f (listed.setIfInBounds x true) a' w':=by
    intro e' h' n' a' w' m' b5 h8;refine ih (x+1) _ e' h' n' a' w' m' ab ab (by simpa using h9) (hc.set ho he) (λj hj=>?_) (by have:=qz hf;omega) b5 h8;by_cases cj:x=j
    .subst cj;rw[dF,iU];simp[h9,hj]
    .rw[getD_set_ne false cj,hl j hj];omega
   split at hk
   .rename_i g hg;unfold lJ;rw[ho];simp only[qy hg hs];intro w1 e1;replace hs:=hs.move e1
    cases g with
    |true=>
     simp only[cz];exact jK (wI (hk.2.1 rfl)) (wJ w0 o (K:=λv h' n'=>dt P ops nt (ops.toList.drop (x+1)) (put e o.dst v) h' n' Kr) (hk.2.1 rfl) hs hk.1 Q _ (λv h' n' a' w' m' b5 h8=>a6 _ _ _ _ _ m' b5 h8))
    |false=>
     simp only[dz,cT];exact a6 _ _ _ _ _ m (hk.2.2 rfl) ⟨hs.base,hs.below,by rw[kI];exact hs.defers,by rw[kE];exact hs.size,ni e a o.dst _ _ (by rw[hs.size];exact hk.1) (.tup rfl (λj p v hp=>by simp at hp)) hs.env,hs.heap,hs.dom,hs.ids,hs.fr⟩
   trivial
  .have a5:i=ops.size:=ab
   subst a5;rw[JS ae] at hk
   have hr:Region.ready .any ops listed=[]:=by
    cases hr:Region.ready .any ops listed with
    |nil=>rfl
    |cons x xs=>
     obtain⟨o,ho,hf,_⟩:=om h9 (i:=x) (by rw[hr];simp);have hx:=(cY.1 ho).1;have:=(hl x hx).2 hx;rw[dF,hf] at this;cases this
   refine⟨λ_=>hQ _ _ _ _ _ _ hk hs,λx hx=>?_⟩;rw[hr] at hx;cases hx
end
section
variable{P:Program}{ops:Array Oper}{nt:Nat}{k:Nat}
structure Chk(ops:Array Oper)(k:Nat):Prop where
 le:k<=ops.size
 down:∀(i:Nat)(o:Oper),ops[i]?=some o->∀e∈o.after,Region.binds .any e=true->e.on<i
 use:∀(i:Nat)(o:Oper),i<k->ops[i]?=some o->∀t∈jV ops o,∀j,j<k->dV ops j=some t->j<i/\reach ops 4 i j=true
 once:∀(i:Nat)(o:Oper),i<k->ops[i]?=some o->∀j,j<k->j≠i->∀t,o.dst=some t->dV ops j≠some t
 wait:∀i,k<=i->i<ops.size->∀j,j<k->reach ops 8 i j=true
omit [bI] in
theorem Am(h:uR ops k=true):Chk ops k/\(∀i,k<=i->i<ops.size->∀j,j<i->reach ops 8 i j=true):=by
 simp only[uR,eY,decide_eq_true_eq,gp,tJ] at h;obtain⟨⟨⟨h1,h2⟩,h3⟩,h4⟩:=h
 have a9:∀i,k<=i->i<ops.size->∀j,j<i->reach ops 8 i j=true:=by
  intro i hk hi j hj;have:=h4 i hi;simp only[qj,decide_eq_true_eq,gp,tJ] at this
  rcases this with h|h
  .omega
  .exact h j hj
 refine⟨⟨h1,λi o ho e hin hb=>?_,λi o hi ho t ht j hj hd=>?_,λi o hi ho j hj ba t ht hd=>?_,λi hk hi j hj=>a9 i hk hi j ab⟩,a9⟩
 .have a4:=(cY.1 ho).1;have:=h2 i a4;simp only[ho,gp] at this;have:=this e (rC.2 hin);simpa[hb] using this
 .have:=h3 i hi;simp only[ho,eY,gp,tJ] at this;have:=this.1 t ht j hj;simpa[hd] using this
 grind
omit [bI] in
theorem An{o:Oper}{t:Nat}(h:(.tmp t:Operand)∈o.op.operands):t∈jV ops o:=by
 unfold jV;refine iV.2 (.inl (List.mem_filterMap.2 ⟨.tmp t,rC.2 h,rfl⟩))
variable{e:Env}{h:bE}{n:Nat}
structure dW(P:Program)(ops:Array Oper)(nt k:Nat)(e:Env)(h:bE)(n:Nat)(T:Tr P ops nt (ops.toList.take k) e h n)(B:Base)(w0:Ctx fk)(listed:Array Bool)(a:Act)(w:World)(m:Mm):Prop where
 base:B.n=w0.w.heap.size
 below:Bel B.n w0.w w
 defers:a.defers=marks w0.ds
 size:a.tmps.size=nt
 heap:cX B (T.hs k) m w
 dom:∀id,m.dom id↔id<n\/∃i,i<k/\listed.getD i false=true/\T.ns i<=id/\id<T.ns i+(T.Es i).length
 done:∀i t,i<k->listed.getD i false=true->dV ops i=some t->bJ B (LB m (T.hs k)) m w (T.vs i) (a.tmps.getD t undef)
 old:∀t,(∀i,i<k->listed.getD i false=true->dV ops i≠some t)->bJ B (LB m (T.hs k)) m w (get e t) (a.tmps.getD t undef)
 fr:pJ B w0 (LB m (T.hs k)) m w n
theorem dW.bel{T:Tr P ops nt (ops.toList.take k) e h n}{B:Base}{w0:Ctx fk}{listed:Array Bool}{a:Act}{w w':World}{m:Mm}(hp:dW P ops nt k e h n T B w0 listed a w m)(hb:Bel w.heap.size w w'):dW P ops nt k e h n T B w0 listed a w' m:=by
 have hr:B.n<=w.heap.size:=by have:=hp.below.size;have:=hp.base;omega
 have hm:∀x v,bJ B (LB m (T.hs k)) m w x v->bJ B (LB m (T.hs k)) m w' x v:=λx v h=>h.mono (Mm.le.refl m) (λ_ _ x=>x) (λb hl _=>hb.block b hl)
 exact⟨hp.base,hp.below.trans (hb.mono hr),hp.defers,hp.size,hp.heap.below hb,hp.dom,λi t hi hl hd=>hm _ _ (hp.done i t hi hl hd),λt ht=>hm _ _ (hp.old t ht),hp.fr.mono (Mm.le.refl m) (λ_ _ x=>x) (λb hl _=>hb.block b hl) (bS _)⟩
omit [bI] in
theorem wL{i:Nat}{o:Oper}(hi:i<k)(ho:ops[i]?=some o):(ops.toList.take k)[i]?=some o:=by
 rw[j5,b8 hi,iW];exact ho
omit [bI] in
theorem FW{i:Nat}{o:Oper}(ho:(ops.toList.take k)[i]?=some o):i<k/\ops[i]?=some o:=by
 rw[j5] at ho;simp_all
theorem dW.slot{T:Tr P ops nt (ops.toList.take k) e h n}{B:Base}{w0:Ctx fk}{listed:Array Bool}{a:Act}{w:World}{m:Mm}(hp:dW P ops nt k e h n T B w0 listed a w m)(hc:Chk ops k)(aa:Closed ops listed){i:Nat}{o:Oper}(hi:i<k)(ho:ops[i]?=some o)(he:∀e∈o.after,Region.binds .any e=true->listed.getD e.on false=true){t:Nat}(ht:t∈jV ops o):bJ B (LB m (T.hs k)) m w (get (T.es i) t) (a.tmps.getD t undef):=by
 have hlen:(ops.toList.take k).length=k:=by simp[hc.le]
 rcases T.It i ab t with ⟨j,oj,h1,h2,h3,h4⟩|⟨h1,h2⟩
 .obtain⟨hj,b9⟩:=FW h2
  have hd:dV ops j=some t:=by simp[dV,b9,h3]
  obtain⟨_,hr⟩:=hc.use i o hi ho t ht j hj hd;rw[h4];exact hp.done j t hj (nk aa 4 i j o ho he hr) hd
 .rw[h2];refine hp.old t (λj hj hl hd=>?_);obtain⟨bf,_⟩:=hc.use i o hi ho t ht j hj hd
  cases b9:ops[j]? with
  |none=>grind
  |some oj=>exact h1 j oj bf (wL hj b9) (by simpa[dV,b9] using hd)
omit [bI] in
theorem Aq{o:Oper}{env:Env}{g:Bool}(hg:gj ops env o=some g){a:Act}{B:Base}{L:Nat->Prop}{m:Mm}{w:World}(hs:∀t,t∈jV ops o->bJ B L m w (get env t) (a.tmps.getD t undef)):Region.wanted o (yielded ops a.tmps)=g:=by
 unfold gj at hg;unfold Region.wanted;split at hg
 .simp_all
 .rename_i j want e;rw[e];simp only;split at hg
  .rename_i ed;cases hg;simp[yielded,ed]
  .rename_i t ed
   have ht:=hs t (by
    unfold jV;refine iV.2 (.inr ?_);rw[e]
    simp[dV,ed])
   split at hg
   .rename_i ow f b eg;cases hg;rw[eg] at ht;have hv:=ht.kZ
    have a4:t<a.tmps.size:=by
     rcases fo t a.tmps.size with h|h
     .exact h
     .rw[dF,DI h] at hv;cases hv
    have hq:a.tmps[t]?=some (.bool b):=by
     rw[dF,du a4] at hv;rw[du a4]
     grind
    simp only[yielded,ed,lj,hq]
    cases b<;>cases want<;>rfl
   .rename_i eg;cases hg;rw[eg] at ht;obtain⟨vs,hv,hl,_⟩:=ht.xN
    have c4:vs=#[]:=ak
    subst c4
    have:yielded ops a.tmps j=none:=by
     simp only[yielded,ed,lj];rw[dF] at hv
     grind
    rw[this];rfl
   .cases hg
omit [bI] in
theorem o8{a:Act}{d:Option Nat}{v:Value}{t:Nat}(hd:dOk a.tmps.size d):(a.put d v).tmps.getD t undef=if d=some t then v else a.tmps.getD t undef:=by
 cases d with
 |none=>rfl
 |some d=>
  simp only[Act.put,db];rw[dF,iU];by_cases h:d=t
  .subst h;simp only[cz];rw[b8 (show d<a.tmps.size from hd)];rfl
  simp_all
theorem dW.next{T:Tr P ops nt (ops.toList.take k) e h n}{B:Base}{w0:Ctx fk}{listed:Array Bool}{a:Act}{w:World}{m:Mm}(hp:dW P ops nt k e h n T B w0 listed a w m)(hc:Chk ops k){i:Nat}{o:Oper}(hi:i<k)(ho:ops[i]?=some o)(hf:listed[i]?=some false){v':Value}{w':World}{m':Mm}(bw:dOk nt o.dst)(p:jg B (T.hs k) m w (T.ns i) (T.Es i).length (T.vs i) v' w' m'):dW P ops nt k e h n T B w0 (listed.setIfInBounds i true) (a.put o.dst v') w' m':=by
 obtain⟨p1,p2,p3,p4,p5,p6⟩:=p
 have hB:B.n<=w.heap.size:=by have:=hp.below.size;have:=hp.base;omega
 have hO:bI.ok w:=bI.keep w0.ok aF
 have bh:∀p v,bJ B (LB m (T.hs k)) m w p v->bJ B (LB m' (T.hs k)) m' w' p v:=λp v hr=>hr.mono p1 (λb hb hn hl=>by
  grind) (λb hb _=>p3.block b hb)
 have cm:dV ops i=o.dst:=by simp[dV,ho]
 have cf:dOk a.tmps.size o.dst:=by rw[hp.size];exact bw
 have cx:(listed.setIfInBounds i true).getD i false=true:=by
  have:=(cY.1 hf).1;rw[dF,iU];simp[this]
 have cy:∀j,j≠i->(listed.setIfInBounds i true).getD j false=listed.getD j false:=λj hj=>getD_set_ne false (gO hj)
 have dr:listed.getD i false=false:=by rw[dF,hf];rfl
 refine⟨hp.base,hp.below.trans (p3.mono hB),by rw[kI];exact hp.defers,by rw[kE];exact hp.size,p4,λid=>?_,λj t hj hl hd=>?_,λt ht=>?_,hp.fr.mono p1 (λb hb hn hl=>by
  grind) (λb hb _=>p3.block b hb) (bS _)⟩
 .rw[p2,hp.dom]
  grind
 .rw[o8 cf];by_cases bf:j=i
  .simp_all
  .rw[cy j bf] at hl
   have:o.dst≠some t:=λd2=>hc.once i o hi ho j hj bf t d2 hd
   rw[bP this];exact bh _ _ (hp.done j t hj hl hd)
 .rw[o8 cf];have h1:=ht i hi cx;rw[cm] at h1;rw[bP h1];refine bh _ _ (hp.old t (λj hj hl=>ht j hj ?_))
  grind
theorem FX{T:Tr P ops nt (ops.toList.take k) e h n}(hk:k<=ops.size){B:Base}{m:Mm}{w:World}(hs:cX B h m w)(hd:∀i,m.dom i↔i<n)(bl:∀id c,(id,c)∈h->id<n):∀i,i<=k->cX B (T.hs i) m w/\LB m (T.hs i)=LB m h/\(∀id c,(id,c)∈T.hs i->id<T.ns i):=by
 have hlen:(ops.toList.take k).length=k:=by simp[hk]
 intro i
 induction i with
 |zero=>intro _;rw[T.h0,T.n0];trivial
 |succ i ih=>
  intro hi;obtain⟨h1,h2,h3⟩:=ih ab;have bo:=T.step i _ (dP ab)
  have hn:n<=T.ns i:=by have:=T.jW (i:=0) (j:=i) ab ab;rw[T.n0] at this;exact this
  obtain⟨h4,h5⟩:=wH (T.Es i) (T.hs i) (T.ns i) h1 (λj hj co=>by have:=(hd j).1 co;omega) h3;rw[bo.2.2.2.1];refine⟨h4,h5.trans h2,λid c hin=>?_⟩;rw[bo.2.2.2.2.1]
  rcases (lD _ _ _ _ _).1 hin with h6|⟨q,h6,rfl⟩
  .have:=h3 id c h6;omega
  grind
theorem FY{T:Tr P ops nt (ops.toList.take k) e h n}(hc:Chk ops k){B:Base}{w0:Ctx fk}{Q:Exit->Act->World->Prop}(bl:∀id c,(id,c)∈T.hs k->id<T.ns k)(ag:∀(f:Nat)(listed:Array Bool)(a:Act)(w:World)(m:Mm),listed.size=ops.size->Closed ops listed->(∀j,j<ops.size->(listed.getD j false=true↔j<k))->open_ listed<=f->Sim B w0 ⟨T.es k,T.hs k,T.ns k,nt⟩ a w m->jP w0.r P .any ops Q f listed a w):∀(f:Nat)(listed:Array Bool)(a:Act)(w:World)(m:Mm),listed.size=ops.size->Closed ops listed->open_ listed<=f->(∀i,k<=i->i<ops.size->listed.getD i false=false)->dW P ops nt k e h n T B w0 listed a w m->jP w0.r P .any ops Q f listed a w:=by
 have hlen:(ops.toList.take k).length=k:=by simp[hc.le]
 have last:∀(f:Nat)(listed:Array Bool)(a:Act)(w:World)(m:Mm),listed.size=ops.size->Closed ops listed->open_ listed<=f->dW P ops nt k e h n T B w0 listed a w m->(∀i,i<k->listed.getD i false=true) ->
  (∀i,k<=i->i<ops.size->listed.getD i false=false)->jP w0.r P .any ops Q f listed a w:=by
  intro f listed a w m h9 aa b4 hp a5 c7;refine ag f listed a w m h9 aa (λj hj=>⟨λh1=>?_,λh1=>a5 j h1⟩) b4 ⟨hp.base,hp.below,hp.defers,hp.size,λt=>?_,hp.heap,λid=>?_,bl,hp.fr.mono (Mm.le.refl m) (λ_ _ h=>h) (λ_ _ _=>rfl) (by have:=T.jW (i:=0) (j:=k) ab ab;rw[T.n0] at this;exact this)⟩
  .grind
  .rcases T.It k ab t with ⟨j,oj,h1,h2,h3,h4⟩|⟨h1,h2⟩
   .obtain⟨hj,b9⟩:=FW h2;show bJ _ _ _ _ (get (T.es k) t) _;rw[h4];exact hp.done j t hj (a5 j hj) (by simp[dV,b9,h3])
   .show bJ _ _ _ _ (get (T.es k) t) _;rw[h2];refine hp.old t (λj hj _ hd=>?_)
    cases b9:ops[j]? with
    |none=>grind
    |some oj=>exact h1 j oj hj (wL hj b9) (by simpa[dV,b9] using hd)
  .rw[hp.dom];show _↔id<T.ns k
   have bd:∀i,i<=k->(id<T.ns i↔id<n\/∃j,j<i/\T.ns j<=id/\id<T.ns j+(T.Es j).length):=by
    intro i
    induction i with
    |zero=>intro _;rw[T.n0];constructor
           .exact .inl
           .rintro (h|⟨j,h,_⟩)
            .exact h
            .omega
    |succ i ih=>
     intro hi;have bo:=(T.step i _ (dP ab)).2.2.2.2.1;rw[bo];constructor
     .intro h1
      rcases fo id (T.ns i) with h2|h2
      .rcases (ih ab).1 h2 with h3|⟨j,h3,h4⟩
       .exact .inl h3
       .exact .inr ⟨j,ab,h4⟩
      .exact .inr ⟨i,ab,h2,h1⟩
     .rintro (h1|⟨j,h1,h2,h3⟩)
      .have:=(ih ab).2 (.inl h1);omega
      .by_cases bf:j=i
       .subst bf;exact h3
       .have:=(ih ab).2 (.inr ⟨j,ab,h2,h3⟩);omega
   rw[bd k (bS _)]
   grind
 intro f
 induction f with
 |zero=>
  intro listed a w m h9 aa b4 ay hp;have hz:=yJ.1 b4
  have dl:k=ops.size:=by
   rcases fo k ops.size with h1|h1
   .have h2:=qA hz (i:=k) ab;rw[ay k (bS _) h1] at h2;cases h2
   simp_all
  exact last 0 listed a w m h9 aa b4 hp (λi hi=>qA hz ab) ay
 |succ f ih=>
  intro listed a w m h9 aa b4 ay hp;by_cases a5:∀i,i<k->listed.getD i false=true
  .grind
  .obtain⟨i0,cv⟩:=Classical.not_forall.1 a5;obtain⟨hi0k,hi0l⟩:=Classical.not_imp.1 cv
   have hi0f:listed.getD i0 false=false:=al
   have ba:=rP h9 hc.down i0 (by have:=hc.le;omega) hi0f;refine⟨λaq=>absurd aq ba,λx hx=>?_⟩;obtain⟨o,ho,hf,he⟩:=om h9 hx;have bq:=(cY.1 ho).1
   have bj:x<k:=by
    rcases fo x k with h1|h1
    .exact h1
    .have:=nk aa 8 x i0 o ho he (hc.wait x h1 bq i0 hi0k);rw[hi0f] at this;cases this
   obtain⟨bw,hw,_,_,_,c9,d3⟩:=T.step x o (wL bj ho);unfold lJ;rw[ho];simp only[Aq hw (λt ht=>hp.slot hc aa bj ho he ht)];intro w e1;replace hp:=hp.bel (EnvD.ext e1)
   have hB:B.n<=w.heap.size:=by have:=hp.below.size;have:=hp.base;omega
   have hO:bI.ok w:=bI.keep w0.ok aF
   have a6:∀v' w' m',jg B (T.hs k) m w (T.ns x) (T.Es x).length (T.vs x) v' w' m'->jP w0.r P .any ops Q f (listed.setIfInBounds x true) (a.put o.dst v') w':=by
    intro v' w' m' aw;refine ih _ _ w' m' (by simpa using h9) (aa.set ho he) (by have:=qz hf;omega) (λj hj dg=>?_) (hp.next hc bj ho hf bw aw);rw[getD_set_ne false ab];simp_all
   cases hg:T.gs x with
   |true=>
    simp only[cz];refine jK (Is (c9 hg)) ((c9 hg).sound o hO hp.heap hB (λid cs hl=>T.uS (i:=x) ab ab (fR hl)) (λq cs hl=>?_) (λq hq hd=>?_) (λy hy=>?_) _ Q (λv' w' m' aw=>a6 v' w' m' aw))
    .refine T.uS (i:=x+1) ab ab ?_;rw[(T.step x o (wL bj ho)).2.2.2.1];exact (lD _ _ _ _ _).2 (.inr ⟨q,hl,rfl⟩)
    .have dv:n<=T.ns x:=by have:=T.jW (i:=0) (j:=x) ab ab;rw[T.n0] at this;exact this
     rcases (hp.dom _).1 hd with h1|⟨j,hj,hl,h2,h3⟩
     .omega
     .have di:j≠x:=by
       rintro rfl
       rw[dF,hf] at hl;cases hl
      have dw:=(T.step j _ (dP ab)).2.2.2.2.1;have cg:=(T.step x _ (dP ab)).2.2.2.2.1
      rcases fo j x with h4|h4
      .have:=T.jW (i:=j+1) (j:=x) ab ab;omega
      .have:=T.jW (i:=x+1) (j:=j) ab ab;omega
    .refine ma y (λt e=>?_);subst e;exact hp.slot hc aa bj ho he (An hy)
   |false=>
    simp only[dz,cT];obtain⟨h1,h2⟩:=d3 hg;refine a6 undef w m ?_;rw[h1,h2];exact⟨Mm.le.refl m,λi=>⟨.inl,λh=>h.elim id λh=>ak⟩,Bel.refl _ _,hp.heap,λb hb=>.inl hb,.tup rfl (λj p v hp=>by simp at hp)⟩
theorem FZ{K:Exit->St->Prop}(k:Nat){id:Nat}{Kp:Env->bE->Nat->Prop}(hm:P.follows .mixedOrders=true)(hc:Chk ops k)(hk:gk P ops nt (ops.toList.take k) e h n Kp)(ag:∀(B:Base)(w0:Ctx fk)(e':Env)(h':bE)(n':Nat),Kp e' h' n'->∀(f:Nat)(listed:Array Bool)(a:Act)(w:World)(m:Mm),listed.size=ops.size->Closed ops listed->(∀j,j<ops.size->(listed.getD j false=true↔j<k))->open_ listed<=f->Sim B w0 ⟨e',h',n',nt⟩ a w m->jP w0.r P .any ops (λe a w=>∃st' m',K e st'/\Sim B w0 st' a w m') f listed a w):cP fk P (.region id ops true) ⟨e,h,n,nt⟩ K:=by
 intro B w0 a w m hs;obtain⟨T,hK⟩:=Ah _ _ _ _ hk
 have hlen:(ops.toList.take k).length=k:=by simp[hc.le]
 rw[hlen] at hK
 refine zE hm λw e1=>?_
 replace hs:=hs.move e1
 have h8:Sim B w0 ⟨e,h,n,nt⟩ a { w with drawn:=w.drawn+1 } m:=by
  have hb:Bel w.heap.size w { w with drawn:=w.drawn+1 }:=(Bel.refl _ _).drew;have hB:=hs.room;exact⟨hs.base,hs.below.trans (hb.mono hB),hs.defers,hs.size,λt=>(hs.env t).mono (Mm.le.refl m) (λ_ _ h=>h) (λb bu _=>hb.block b bu),hs.heap.below hb,hs.dom,hs.ids,hs.fr.mono (Mm.le.refl m) (λ_ _ h=>h) (λb bu _=>hb.block b bu) (bS _)⟩
 obtain⟨h1,h2,h3⟩:=FX (T:=T) hc.le h8.heap h8.dom h8.ids k (bS _)
 have hf:∀i,(Array.replicate ops.size false).getD i false=false:=by
  intro i;rw[dF,yK]
  split<;>rfl
 refine FY (T:=T) hc h3 (λf listed a w m=>ag B w0 _ _ _ hK f listed a w m) ops.size _ a _ m ae (λi o ho hl=>by rw[hf] at hl;cases hl) ?_ (λi _ _=>hf i) ⟨h8.base,h8.below,h8.defers,h8.size,h1,λid=>?_,(λi t hi hl=>by rw[hf] at hl;cases hl),λt _=>?_,by rw[h2];exact h8.fr⟩
 .unfold open_
  grind
 .rw[h8.dom];simp_all
 .rw[h2];exact h8.env t
theorem df{K:Exit->St->Prop}(k:Nat){id:Nat}(hm:P.follows .mixedOrders=true)(bv:uR ops k=true)(hk:gk P ops nt (ops.toList.take k) e h n λe' h' n'=>dt P ops nt (ops.toList.drop k) e' h' n' λbr bt c6=>K .normal ⟨br,bt,c6,nt⟩):cP fk P (.region id ops true) ⟨e,h,n,nt⟩ K:=by
 obtain⟨hc,a9⟩:=Am bv;refine FZ k hm hc hk (λB w0 e' h' n' hK f listed a w m h9 aa hl b4 hs=>?_);exact wK (Kr:=λbr bt c6=>K .normal ⟨br,bt,c6,nt⟩) (λe' h' n' a' w' m' b5 bc=>⟨_,m',b5,bc⟩) hc.down a9 f k listed _ _ _ a w m (bS _) hc.le h9 aa hl b4 hK hs
end
end Go.Fi
namespace Go.Fi
open Go Go.RowKit
variable[bI]
def pR(P:Program)(env:Env)(h:bE):ResultVar->Option (AV×Prop)
 |.tmp t=>some (get env t,True)
 |.cell ad t=>match aOp P h 0 (ev env) (.load t (.tmp ad)) with
  |some (c,v,_)=>some (v,c)
  |none=>none
def jZ(P:Program)(env:Env)(h:bE):List ResultVar->Option (List AV×Prop)
 |[]=>some ([],True)
 |r::rs=>match pR P env h r with
  |some (v,c)=>match jZ P env h rs with
   |some (vs,d)=>some (v::vs,c/\d)
   |none=>none
  |none=>none
def oneOf:List AV->AV
 |[v]=>v
 |vs=>.tup vs
def oN(P:Program)(rs:List ResultVar)(st:St)(res:PV)(fr:Bool):Prop:=
 match jZ P st.env st.heap rs with
 |some (vs,c)=>c/\frz st.heap 6 (oneOf vs)=some res/\(fr=true->fO st.heap 6 (oneOf vs)=true)
 |none=>False
def jm:Nat->List PV->Env
 |_,[]=>[]
 |i,p::r=>(i,.w false false p)::jm (i+1) r
def sX(P:Program)(rs:List ResultVar)(res:PV)(fr:Bool):Exit->St->Prop
 |.normal,s=>oN P rs s res fr
 |.ret,s=>oN P rs s res fr
 |_,_=>False
section
variable{fk:Fk}{P:Program}{K:Exit->St->Prop}{st st':St}
omit [bI] in
theorem xq:∀(l:List PV)(i t:Nat),get (jm i l) t=if i<=t/\t<i+l.length then .w false false (l.getD (t-i) .undef) else .w false false .undef
 |[],i,t=>by simp[jm,get]
 |p::r,i,t=>by
  simp only[jm,get];by_cases h:i=t
  .subst h;simp
  .simp only[h,cT];rw[xq r (i+1) t]
   grind
def pT(tmps:Array Value):ResultVar->Sem Value
 |.tmp t=>pure (tmps.getD t undef)
 |.cell a t=>do loadVar t (<-asAddr (tmps.getD a undef))
theorem rX{B:Base}{w0:Ctx fk}{a:Act}{w:World}{m:Mm}(hs:Sim B w0 st a w m):∀(rs:List ResultVar)(vs:List AV)(c:Prop),jZ P st.env st.heap rs=some (vs,c)->c->∃us:List Value,(rs.mapM (pT a.tmps)).run P w=.ok us w/\vs.length=us.length/\∀(j:Nat)(p:AV)(u:Value),vs[j]?=some p->us[j]?=some u->bJ B (LB m st.heap) m w p u
 |[],vs,c,h,_=>by
  simp only[jZ,db,dC] at h;simp_all
 |r::rs,vs,c,h,hc=>by
  simp only[jZ] at h;split at h
  .rename_i v d hr;split at h
   .rename_i bg d' d4;cases h;obtain⟨us,h1,h2,h3⟩:=rX hs rs bg d' d4 hc.2
    have bb:∃u,(pT a.tmps r).run P w=.ok u w/\bJ B (LB m st.heap) m w v u:=by
     cases r with
     |tmp t=>
      simp only[pR,db,dC] at hr;obtain⟨rfl,_⟩:=hr;exact⟨_,rfl,hs.env t⟩
     |cell ad t=>
      simp only[pR] at hr;split at hr
      .rename_i c0 v0 E0 h0;cases hr;have hx:bJ B (LB m st.heap) m w (ev st.env (.tmp ad)) (a.eval (.tmp ad)):=hs.env ad;obtain⟨_,u,hu,ax⟩:=Fu (P:=P) t (.tmp ad) { (default:Oper) with op:=.load t (.tmp ad)} rfl h0 hc.1 hs.heap (λid cs e=>fR e) hx;refine⟨u,?_,ax⟩
       have hp:∃pa,a.tmps.getD ad undef=.pointer (some pa):=by
        have bp:bJ B (LB m st.heap) m w (get st.env ad) (a.tmps.getD ad undef):=hs.env ad;simp only[aOp] at h0;split at h0
        .split at h0
         .rename_i id ver off e;rw[show ev st.env (.tmp ad)=get st.env ad from rfl] at e;rw[e] at bp;obtain⟨b,C,hv,_⟩:=bp.pF;exact⟨_,hv⟩
         .rename_i own f cells off e;rw[show ev st.env (.tmp ad)=get st.env ad from rfl] at e;rw[e] at bp;obtain⟨b,o',vals,hv,_⟩:=bp.qQ;exact⟨_,hv⟩
         .cases h0
        .cases h0
       obtain⟨pa,c8⟩:=hp;have he:a.eval (.tmp ad)=.pointer (some pa):=c8;simp only[execOp,he,Instr.loadAt,Instr.sureAddr,Sem.run_bind,Sem.run_pure,Result.andThen_ok] at hu;simp only[pT,c8,asAddr,Sem.run_bind,Sem.run_pure,Result.andThen_ok]
       cases hl:(loadVar t pa).run P w with
       |ok x w1=>rw[hl] at hu;simp only[Result.andThen_ok,Result.ok.injEq,Next.value.injEq] at hu;rw[hu.1,hu.2]
       |halt x w1=>rw[hl] at hu;simp at hu
      .cases hr
    obtain⟨u,hu,e7⟩:=bb;refine⟨u::us,?_,by simp[h2],λj p q hp hq=>?_⟩
    .simp only[yx,Sem.run_bind,hu,h1,Result.andThen_ok,Sem.run_pure]
    grind
   .cases h
  .cases h
def Dk(P:Program)(fn:Func)(c:Code)(args:List PV)(res:PV)(fr:Bool):Prop:=
 ∀(G:Nat->Prop)(w:World)(vs:Array Value),bI.ok w->args.length=vs.size->(∀(j:Nat)(p:PV)(v:Value),args[j]?=some p->vs[j]?=some v->Rep G w p v) ->
  c.wpT none P (bodyPost P fn λe w'=>∃v,e=.returned v/\Bel w.heap.size w w'/\Rep (λb=>(b<w.heap.size->G b)/\(fr=true->w.heap.size<=b)) w' res v) { tmps:=vs++Array.replicate (fn.ntmps-vs.size) undef,defers:=[] } w
theorem GV{fn:Func}{c:Code}{args:List PV}{res:PV}{fr:Bool}(bn:args.length<=fn.ntmps)(h:cP fk0 P c ⟨jm 0 args,[],0,fn.ntmps⟩ (sX P fn.results.toList res fr)):Dk P fn c args res fr:=by
 refineλG w vs bz hlen ax=>?_
 have bc:Sim ⟨w.heap.size,G⟩ (⟨w,[],none,[],[],λri h=>au,bz⟩:Ctx fk0) ⟨jm 0 args,[],0,fn.ntmps⟩ { tmps:=vs++Array.replicate (fn.ntmps-vs.size) undef,defers:=[] } w ⟨λ_ _=>none,λ_=>0,λ_=>False⟩:=by
  refine⟨rfl,Bel.refl _ _,rfl,ar,λt=>?_,⟨λid cells hin=>(by cases hin),List.Pairwise.nil⟩,λi=>⟨λh=>h.elim,λh=>absurd h (JW i)⟩,λid c hin=>(by cases hin),cG _,(λp hp=>by cases hp),λq hq=>by cases hq⟩;show bJ _ _ _ _ (get (jm 0 args) t) _;rw[xq];split
  .rename_i ht
   have a4:t<args.length:=ab
   refine .w ?_ nofun
   have:(vs++Array.replicate (fn.ntmps-vs.size) undef).getD t undef=vs[t]'ab:=by
    rw[dF,rD ab,du ab];rfl
   rw[this]
   refine (ax t _ _ al (du ab)).imp λb hg=>⟨?_,nofun,λ_=>hg⟩
   rintro⟨id,cells,C,hin,_⟩
   cases hin
  .exact .w (.undef _) nofun
 refine fe (h _ _ _ _ _ bc) (λe a' w' ⟨st',m',hk,hs⟩=>?_)
 have main:oN P fn.results.toList st' res fr->a'.defers=[]/\∀w1,EnvD.E w' w1->∃v,(results fn a'.tmps).run P w1=.ok v w1/\∃v',Ending.returned v=.returned v'/\Bel w.heap.size w w1/\Rep (λb=>(b<w.heap.size->G b)/\(fr=true->w.heap.size<=b)) w1 res v':=by
  intro hr;refine⟨hs.defers,λw' e1=>?_⟩;replace hs:=hs.move e1;unfold oN at hr;split at hr
  .rename_i bg d c2;obtain⟨hd,cq,cp⟩:=hr;obtain⟨us,h1,h2,h3⟩:=rX hs _ _ _ c2 hd
   have c3:(results fn a'.tmps).run P w'=.ok (if h:us.toArray.size=1 then us.toArray[0] else .tuple us.toArray) w':=by
    have he:results fn a'.tmps=(do
     let vs <-fn.results.mapM (pT a'.tmps)
     pure (if h:vs.size=1 then vs[0] else .tuple vs)):=rfl
    rw[he,tA];simp only[Sem.run_bind,Sem.run_map,h1,Result.andThen_ok,Sem.run_pure]
   have bb:bJ ⟨w.heap.size,G⟩ (LB m' st'.heap) m' w' (oneOf bg) (if h:us.toArray.size=1 then us.toArray[0] else .tuple us.toArray):=by
    have tupc:bg.length≠1->bJ ⟨w.heap.size,G⟩ (LB m' st'.heap) m' w' (.tup bg) (if h:us.toArray.size=1 then us.toArray[0] else .tuple us.toArray):=by
     intro ba;rw[dif_neg ar];exact .tup (by simpa using h2) (λj p u hp hu=>h3 j p u hp (by simpa using hu))
    match bg,h2,h3,tupc with
    |[],h2,h3,tupc=>exact tupc ae
    |[v],h2,h3,tupc=>
     obtain⟨u,rfl⟩:∃u,us=[u]:=DT.1 aV;exact h3 0 v u rfl rfl
    |v::v2::r,h2,h3,tupc=>exact tupc ae
   refine⟨_,c3,_,rfl,hs.below,?_⟩;exact oh (B:=⟨w.heap.size,G⟩) hs.heap (λid cs e=>fR e) fr (λb hb=>⟨λhl=>by simp only at hb;omega,λ_=>hb⟩) (λhf b hg=>⟨hg.2.2,λh=>by rw[hf] at h;cases h⟩) 6 _ _ _ cq cp bb
  trivial
 cases e<;>first|exact main hk|exact hk.elim
theorem OJ{f:FuncId}{fn:Func}{c:Code}{args:List PV}{res:PV}{fr:Bool}(hf:P.funcs[f]?=some fn) (ao:(fn.name == "runtime.NumGoroutine")=false) (hb:fn.body=some c) (bn:args.length<=fn.ntmps) (h:cP fk0 P c ⟨jm 0 args,[],0,fn.ntmps⟩ (sX P fn.results.toList res fr)):bX P f args res fr:=
 ⟨⟨fn,hf,ao,by rw[hb];rfl⟩,λG w vs bz hlen ax=>vR hf hb (GV bn h G w vs bz hlen ax)⟩
theorem rcK{f:FuncId}{fn:Func}{c:Code}{args:List PV}{res:PV}{fr:Bool}(hf:P.funcs[f]?=some fn)(h:cP fk0 P c ⟨jm 0 args,[],0,fn.ntmps⟩ (sX P fn.results.toList res fr)) (ao:(fn.name == "runtime.NumGoroutine")=false:=by kernel_rfl) (hb:fn.body=some c:=by rfl) (bn:args.length<=fn.ntmps:=by exact gG aj):bX P f args res fr:=
 OJ hf ao hb bn h
def sY:AV->AV->Prop
 |.w o f p,.w o' f' p'=>(o'=true->o=true)/\(f'=true->f=true)/\(p'=p\/p'=.undef/\f'=false)
 |a,b=>a=b
def tc(env:Env)(n:Nat):Env->Prop
 |[]=>True
 |(t,v)::r=>sY (get env t) v/\v.lt n=true/\tc env n r
def qW(h:bE)(n:Nat):bE->Prop
 |[]=>True
 |(i,c)::r=>cJ h i=some c/\i<n/\AV.lt.ltL n c=true/\cJ r i=none/\qW h n r
section
omit [bI]
theorem GW{B:Base}{L:Nat->Prop}{m:Mm}{w:World}{x y:AV}{v:Value}(c5:sY x y)(h:bJ B L m w x v):bJ B L m w y v:=by
 unfold sY at c5;split at c5
 .obtain⟨h1,h2,h3⟩:=c5
  cases h with
  |w hr hf=>
   rcases h3 with rfl|⟨rfl,h4⟩
   .exact .w (hr.imp λb hg=>⟨hg.1,λe=>hg.2.1 (h1 e),hg.2.2⟩) (λe=>hf (h2 e))
   .exact .w (.undef _) (λe=>by rw[h4] at e;cases e)
 simp_all
theorem GX{n:Nat}:∀{env' env:Env},tc env n env'->∀t,(sY (get env t) (get env' t)/\(get env' t).lt n=true)\/get env' t=.w false false .undef
 |[],env,_,t=>.inr rfl
 |(k,v)::r,env,h,t=>by
  obtain⟨h1,h2,h3⟩:=h;simp only[get];split
  .simp_all
  .exact GX h3 t
theorem rY{n:Nat}{h:bE}:∀{h':bE},qW h n h'->∀i c,(i,c)∈h'->cJ h i=some c/\i<n/\AV.lt.ltL n c=true
 |[],_,i,c,hin=>by cases hin
 |(k,v)::r,hh,i,c,hin=>by
  obtain⟨h1,h2,h3,h4,h5⟩:=hh
  rcases dM.1 hin with e|e
  .simp_all
  .exact rY h5 i c e
theorem BE:∀{h:bE}{i:Nat},cJ h i=none->∀p∈h,p.1≠i
 |[],i,_,p,hp=>by cases hp
 |(k,v)::r,i,hh,p,hp=>by
  simp only[cJ] at hh;split at hh
  .cases hh
  .rename_i hk
   rcases dM.1 hp with e|e
   .simp_all
   .exact BE hh p e
theorem GY{n:Nat}{h:bE}:∀{h':bE},qW h n h'->h'.Pairwise λp q=>p.1≠q.1
 |[],_=>List.Pairwise.nil
 |(k,v)::r,hh=>by
  obtain⟨h1,h2,h3,h4,h5⟩:=hh;exact DN.2 ⟨λq hq e=>BE h4 q hq e.symm,GY h5⟩
end
theorem cD{env env':Env}{h h':bE}{n n' nt:Nat}(h1:tc env n' env')(h2:qW h n' h')(hk:fk.k<=n':=by first|exact cG _|omega|(simp;done)):Lek fk ⟨env,h,n,nt⟩ ⟨env',h',n',nt⟩:=by
 intro B w0 a w m hs
 have hL:∀b,LB { m with dom:=λi=>i<n' } h' b->LB m h b:=by
  rintro b ⟨id,c,C,hin,_,ha⟩
  obtain⟨g1,_,_⟩:=rY h2 id c hin;have hm:=fR g1;exact⟨id,c,C,hm,(hs.dom id).2 (hs.ids id c hm),ha⟩
 refine⟨{ m with dom:=λi=>i<n' },hs.base,hs.below,hs.defers,hs.size,λt=>?_,⟨λid c hin hd=>?_,?_⟩,λi=>Iff.rfl,λid c hin=>(rY h2 id c hin).2.1,hk,λp hp=>⟨(hs.fr.2.1 p hp).1,(hs.fr.2.1 p hp).2.Cr (AV.sA hk (hs.fr.2.1 p hp).1) hL⟩,λq hq=>let ⟨o1,o2,o3,o4⟩:=hs.fr.2.2 q hq;⟨o1,o2,λh=>o3 (hL _ h),o4⟩⟩
 .show bJ _ _ _ _ (get env' t) _
  rcases GX h1 t with ⟨g1,g2⟩|g1
  .exact (GW g1 (hs.env t)).Cr g2 hL
  .rw[g1];exact .w (.undef _) nofun
 .obtain⟨g1,_,g3⟩:=rY h2 id c hin;have hm:=fR g1;obtain⟨ht,bk⟩:=hs.heap.entry id c hm ((hs.dom id).2 (hs.ids id c hm));refine⟨ht,?_⟩
  rcases bk with bk|⟨b,C,cs,e,e1,e2,e3,e4,e5,e6⟩|bk
  .exact .inl bk
  .exact .inr (.inl ⟨b,C,cs,e,e1,e2,e3,e4,e5,λj p v hp hv=>(e6 j p v hp hv).Cr (o6 g3 j p hp) hL⟩)
  simp_all
 .have hk:=GY h2;refine tH ?_ hk;intro x y hx hy ba;refine⟨ba,λb C C' _ _ d8 d9=>?_⟩;have mx:=fR (rY h2 x.1 x.2 hx).1;have my:=fR (rY h2 y.1 y.2 hy).1;have:=hs.heap.inj;rw[vn] at this;obtain⟨p,hp,ep⟩:=lZ mx;obtain⟨q,hq,eq⟩:=lZ my;have dx:m.dom x.1:=(hs.dom _).2 (hs.ids _ _ mx);have dy:m.dom y.1:=(hs.dom _).2 (hs.ids _ _ my)
  grind
theorem Lek.refl(st:St):Lek fk st st:=λ_ _ _ _ m hs=>⟨m,hs⟩
theorem Lek.trans{a b c:St}(h:Lek fk a b)(k:Lek fk b c):Lek fk a c:=λB w0 x w m hs=>let ⟨m',h8⟩:=h B w0 x w m hs;k B w0 x w m' h8
end
end Go.Fi
