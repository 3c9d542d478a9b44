/- Lemmas. -/
import Derived.Test.YthpkmilhiganjaaGreatPLb
import Derived.Deep.LoopGhost
import Derived.KernelRfl
set_option linter.all false
set_option maxHeartbeats 32000000
set_option maxRecDepth 100000
namespace Go.Fi
open Go Go.RowKit
variable[bJ]
def gl(ops:Array Oper)(env:Env)(o:Oper):Option Bool:=
 match o.guard with
 |none=>some true
 |some (j,want)=>
  match (ops[j]?).bind (·.dst) with
  |none=>some false
  |some t=>
   match get env t with
   |.w _ _ (.bool b)=>some (b==want)
   |.tup []=>some false
   |_=>none
def dD(P:Program)(ops:Array Oper)(nt:Nat):List Oper->Env->bD->Nat->(Env->bD->Nat->Prop)->Prop
 |[],e,h,n,K=>K e h n
 |o::os,e,h,n,K=>
  match gl ops e o with
  |some g=>dOk nt o.dst/\(g=true->dA P e h n o.op λv h' n'=>dD P ops nt os (put e o.dst v) h' n' K) /\
    (g=false->dD P ops nt os (put e o.dst (.tup [])) h n K)
  |none=>False
def cX(fk:Fk)(P:Program)(c:Code)(st:St)(K:Exit->St->Prop):Prop:=
 ∀(B:Base)(w0:Ctx fk)(a:Act)(w:World)(m:Mm),Sim B w0 st a w m->c.wpT w0.r P (λe a' w'=>∃st' m',K e st'/\Sim B w0 st' a' w' m') a w
def Lek(fk:Fk)(st st':St):Prop:=∀(B:Base)(w0:Ctx fk)(a:Act)(w:World)(m:Mm),Sim B w0 st a w m->∃m',Sim B w0 st' a w m'
section
variable{fk:Fk}{P:Program}{K:Exit->St->Prop}{st st':St}
theorem pY{ops:Array Oper}{env:Env}{o:Oper}{g:Bool}{B:Base}{w0:Ctx fk}{h:bD}{n nt:Nat}{a:Act}{w:World}{m:Mm}(hg:gl ops env o=some g)(hs:Sim B w0 ⟨env,h,n,nt⟩ a w m):Region.wanted o (yielded ops a.tmps)=g:=by
 unfold gl at hg;unfold Region.wanted;split at hg
 .simp_all
 .rename_i j want e;rw[e];simp only;split at hg
  .rename_i ed;cases hg;simp[yielded,ed]
  .rename_i t ed;have ht:=hs.env t;split at hg
   .rename_i ow f b eg;cases hg;rw[show get (St.env ⟨env,h,n,nt⟩) t=get env t from rfl,eg] at ht;have hv:=ht.kn
    have a4:t<a.tmps.size:=by
     rcases fq t a.tmps.size with h|h
     .exact h
     .rw[dL,Db h] at hv;cases hv
    have hq:a.tmps[t]?=some (.bool b):=by
     rw[dL,dM a4] at hv;rw[dM a4]
     grind
    simp only[yielded,ed,jz,hq]
    cases b<;>cases want<;>rfl
   .rename_i eg;cases hg;rw[show get (St.env ⟨env,h,n,nt⟩) t=get env t from rfl,eg] at ht;obtain⟨vs,hv,hl,_⟩:=ht.xq
    have c3:vs=#[]:=ak
    subst c3
    have:yielded ops a.tmps j=none:=by
     simp only[yielded,ed,jz];rw[dL] at hv
     grind
    rw[this];rfl
   .cases hg
theorem nP{ops:Array Oper}{nt:Nat}{B:Base}{w0:Ctx fk}{Kr:Env->bD->Nat->Prop}{Q:Exit->Act->World->Prop}(hQ:∀e h n a w m,Kr e h n->Sim B w0 ⟨e,h,n,nt⟩ a w m->Q .normal a w):∀(os:List Oper)(e:Env)(h:bD)(n:Nat)(a:Act)(w:World)(m:Mm),dD P ops nt os e h n Kr->Sim B w0 ⟨e,h,n,nt⟩ a w m->iI w0.r P ops Q os a w
 |[],e,h,n,a,w,m,hk,hs=>hQ e h n a w m hk hs
 |o::os,e,h,n,a,w,m,hk,hs=>by
  simp only[dD] at hk;split at hk
  .rename_i g hg;have hw:=pY hg hs;simp only[iI,hw];intro w1 e1;replace hs:=hs.move e1
   cases g with
   |true=>
    simp only[cD];exact jZ (vL (hk.2.1 rfl)) (vM w0 o (K:=λv h' n'=>dD P ops nt os (put e o.dst v) h' n' Kr) (hk.2.1 rfl) hs hk.1 Q _ (λv h' n' a' w' m' b5 h8=>nP hQ os _ _ _ _ _ m' b5 h8))
   |false=>
    simp only[dC,cP];refine nP hQ os _ _ _ _ _ m (hk.2.2 rfl) ⟨hs.base,hs.below,by rw[lj];exact hs.defers,by rw[lh];exact hs.size,?_,hs.heap,hs.dom,hs.ids,hs.fr⟩;exact nO e a o.dst _ _ (by rw[hs.size];exact hk.1) (.tup rfl (λj p v hp=>by simp at hp)) hs.env
  trivial
theorem bE{id:Nat}{ops:Array Oper}{env:Env}{h:bD}{n nt:Nat}(hk:dD P ops nt ops.toList env h n λe' h' n'=>K .normal ⟨e',h',n',nt⟩):cX fk P (.region id ops false) ⟨env,h,n,nt⟩ K:=
 λ_ _ _ _ _ hs=>qY (nP (λ_ _ _ _ _ m b5 h8=>⟨_,m,b5,h8⟩) ops.toList _ _ _ _ _ _ hk hs)
theorem tj{c:Code}{K':Exit->St->Prop}(h:cX fk P c st K)(hk:∀e s,K e s->K' e s):cX fk P c st K':=
 λB w0 a w m hs=>fo (h B w0 a w m hs) (λ_ _ _ ⟨st',m',h1,h2⟩=>⟨st',m',hk _ _ h1,h2⟩)
def rV(fk:Fk)(P:Program)(b:Code)(K:Exit->St->Prop):Exit->St->Prop
 |.normal,s=>cX fk P b s K
 |e,s=>K e s
theorem bG{x y:Code}(h:cX fk P x st (rV fk P y K)):cX fk P (.seq x y) st K:=
 λB w0 a w m hs=>yH (fo (h B w0 a w m hs) (λe a' w' ⟨st',m',h1,h2⟩=>by
  cases e<;>first|exact h1 B w0 a' w' m' h2|exact⟨st',m',h1,h2⟩))
theorem bS(h:K .normal st):cX fk P .skip st K:=λ_ _ _ _ m hs=>Jp ⟨st,m,h,hs⟩
theorem bU(h:K .ret st):cX fk P .ret st K:=λ_ _ _ _ m hs=>Dr ⟨st,m,h,hs⟩
theorem cK{id:Nat}(h:K (.exit id) st):cX fk P (.exit id) st K:=λ_ _ _ _ m hs=>Jr ⟨st,m,h,hs⟩
def jd(id:Nat)(K:Exit->St->Prop):Exit->St->Prop
 |.exit ck,s=>if ck=id then K .normal s else K (.exit ck) s
 |e,s=>K e s
theorem gS{id:Nat}{c:Code}(h:cX fk P c st (jd id K)):cX fk P (.block id c) st K:=
 λB w0 a w m hs=>yJ (fo (h B w0 a w m hs) (λe a' w' ⟨st',m',h1,h2⟩=>by
  cases e<;>first
   |exact⟨st',m',h1,h2⟩
   |(simp only[Exit.inBlock];simp only[jd] at h1;split<;>(rename_i bj;simp only[bj,cD,cP] at h1;exact⟨st',m',h1,h2⟩))))
def oh(v:AV)(X Y:Prop):Prop:=
 match v with
 |.w _ _ (.bool b)=>(b=true->X)/\(b=false->Y)
 |.w _ _ .jO=>X/\Y
 |_=>False
theorem KB{c:Operand}{x y:Code}(h:oh (ev st.env c) (cX fk P x st K) (cX fk P y st K)):cX fk P (.cond c x y) st K:=by
 intro B w0 a w m hs;have hc:bI B (LB m st.heap) m w (ev st.env c) (a.eval c):=mY c (λt _=>hs.env t);unfold oh at h;split at h
 .rename_i o f b e;rw[e] at hc;refine ve hc.kn ?_;cases b
  .exact h.2 rfl B w0 a w m hs
  .exact h.1 rfl B w0 a w m hs
 .rename_i o f e;rw[e] at hc
  have:∃b,a.eval c=.bool b:=by
   generalize hv:a.eval c=v at hc
   cases hc with|w h _=>cases h with|jO b=>exact⟨b,rfl⟩
  obtain⟨b,hb⟩:=this;refine ve hb ?_;cases b
  .exact h.2 B w0 a w m hs
  .exact h.1 B w0 a w m hs
 trivial
theorem KC{c:Code}(h:fk.k<=st.nxt->cX fk P c st K):cX fk P c st K:=λB w0 a w m hs=>h hs.fr.1 B w0 a w m hs
def lK(fk:Fk){α:Type}(J:α->Prop)(I:α->St)(μ:α->Nat)(x:α)(K:Exit->St->Prop):Exit->St->Prop
 |.normal,s=>∃y,J y/\μ y<μ x/\Lek fk s (I y)
 |e,s=>K e s
theorem zq{c:Code}{α:Type}(J:α->Prop)(I:α->St)(μ:α->Nat)(x0:α)(hJ:J x0)(h0:Lek fk st (I x0))(round:∀x,J x->cX fk P c (I x) (lK fk J I μ x K)):cX fk P (.loop c) st K:=by
 intro B w0 a w m hs;refine yK (λk a w=>∃x m,J x/\μ x=k/\Sim B w0 (I x) a w m) (μ x0) aQ ?_
 rintro k a w ⟨x,m,hx,rfl,cf⟩
 refine fo (round x hx B w0 a w m cf) (λe a' w' ⟨st',m',h2,h3⟩=>?_)
 cases e<;>first
  |exact⟨st',m',h2,h3⟩
  |(obtain⟨y,hy,a4,hle⟩:=h2
    obtain⟨d4,h4⟩:=hle B w0 a' w' m' h3
    exact⟨μ y,a4,y,d4,hy,rfl,h4⟩)
def BX(fk:Fk){β:Type}(id:Nat)(F:β->Prop)(fin:β->St)(R:St->Prop):Exit->St->Prop
 |.exit i,s=>i=id/\∃y,F y/\Lek fk s (fin y)
 |.ret,s=>R s
 |_,_=>False
end
def reach(ops:Array Oper):Nat->Nat->Nat->Bool
 |0,_,_=>false
 |f+1,i,j=>
  match ops[i]? with
  |some o=>o.after.toList.any λe=>Region.binds .any e&&(e.on==j || reach ops f e.on j)
  |none=>false
def eD(ops:Array Oper)(i:Nat):Option Nat:=(ops[i]?).bind (·.dst)
def jR(ops:Array Oper)(o:Oper):List Nat:=
 (o.op.operands.toList.filterMap λx=>match x with | .tmp t=>some t|_=>none)++(match o.guard with|some (j,_)=>(eD ops j).toList|none=>[])
def uy(ops:Array Oper)(k:Nat):Bool:=
 decide (k<=ops.size) &&
 ((List.range ops.size).all λi=>match ops[i]? with
   |some o=>o.after.toList.all λe=>!Region.binds .any e || decide (e.on<i)
   |none=>true) &&
 ((List.range k).all λi=>match ops[i]? with
   |some o=>((jR ops o).all λt=>(List.range k).all λj=>if eD ops j=some t then decide (j<i)&&reach ops 4 i j else true) &&
     ((List.range k).all λj=>decide (j=i) || o.dst.isNone || decide (eD ops j≠o.dst))
   |none=>false) &&
 ((List.range ops.size).all λi=>decide (i<k) || (List.range i).all λj=>reach ops 8 i j)
def gm(P:Program)(ops:Array Oper)(nt:Nat):List Oper->Env->bD->Nat->(Env->bD->Nat->Prop)->Prop
 |[],e,h,n,K=>K e h n
 |o::os,e,h,n,K=>
  match gl ops e o with
  |some g=>dOk nt o.dst/\(g=true->du P e h n o.op λv E=>gm P ops nt os (put e o.dst v) (db h n E) (n+E.length) K) /\
    (g=false->gm P ops nt os (put e o.dst (.tup [])) h n K)
  |none=>False
structure Tr(P:Program)(ops:Array Oper)(nt:Nat)(os:List Oper)(e:Env)(h:bD)(n:Nat) where
 es:Nat->Env
 hs:Nat->bD
 ns:Nat->Nat
 vs:Nat->AV
 Es:Nat->List (List AV)
 gs:Nat->Bool
 e0:es 0=e
 h0:hs 0=h
 n0:ns 0=n
 step:∀i o,os[i]?=some o->dOk nt o.dst/\gl ops (es i) o=some (gs i)/\es (i+1)=put (es i) o.dst (vs i)/\hs (i+1)=db (hs i) (ns i) (Es i)/\ns (i+1)=ns i+(Es i).length /\
  (gs i=true->QF P (es i) (hs i) (ns i) o.op (vs i) (Es i))/\(gs i=false->vs i=.tup []/\Es i=[])
theorem zt{P:Program}{ops:Array Oper}{nt:Nat}{K:Env->bD->Nat->Prop}:∀(os:List Oper)(e:Env)(h:bD)(n:Nat),gm P ops nt os e h n K->∃T:Tr P ops nt os e h n,K (T.es os.length) (T.hs os.length) (T.ns os.length)
 |[],e,h,n,hk=>⟨⟨λ_=>e,λ_=>h,λ_=>n,λ_=>.tup [],λ_=>[],λ_=>true,rfl,rfl,rfl,λi o hi=>by simp at hi⟩,hk⟩
 |o::os,e,h,n,hk=>by
  simp only[gm] at hk;split at hk
  .rename_i g hg;obtain⟨hd,h1,h2⟩:=hk
   have main:∀(v:AV)(E:List (List AV)),(g=true->QF P e h n o.op v E)->(g=false->v=.tup []/\E=[])->gm P ops nt os (put e o.dst v) (db h n E) (n+E.length) K ->
    ∃T:Tr P ops nt (o::os) e h n,K (T.es (o::os).length) (T.hs (o::os).length) (T.ns (o::os).length):=by
    intro v E q1 q2 hr;obtain⟨T,hK⟩:=zt os _ _ _ hr
    refine⟨⟨λi=>match i with|0=>e|i+1=>T.es i,λi=>match i with|0=>h|i+1=>T.hs i,λi=>match i with|0=>n|i+1=>T.ns i,
     λi=>match i with|0=>v|i+1=>T.vs i,λi=>match i with|0=>E|i+1=>T.Es i,λi=>match i with|0=>g|i+1=>T.gs i,rfl,rfl,rfl,λi o' hi=>?_⟩,hK⟩
    cases i with
    |zero=>
     simp at hi;subst hi;exact⟨hd,hg,T.e0,T.h0,T.n0,q1,q2⟩
    |succ i=>exact T.step i o' aM
   cases g with
   |true=>
    obtain⟨v,E,q,hr⟩:=(h1 rfl).qf;exact main v E (λ_=>q) nofun hr
   |false=>exact main (.tup []) [] nofun (λ_=>⟨rfl,rfl⟩) (h2 rfl)
  trivial
section
variable{P:Program}{ops:Array Oper}{nt:Nat}{os:List Oper}{e:Env}{h:bD}{n:Nat}
theorem Tr.jS(T:Tr P ops nt os e h n){i j:Nat}(bk:i<=j)(hj:j<=os.length):T.ns i<=T.ns j:=by
 induction j with
 |zero=>have:i=0:=by omega
        simp_all
 |succ j ih=>
  by_cases hi:i=j+1
  .simp_all
  .have:=ih ab ab;have hs:=(T.step j os[j] (dY ab)).2.2.2.2.1;omega
theorem Tr.uz(T:Tr P ops nt os e h n){i j:Nat}(bk:i<=j)(hj:j<=os.length){p:Nat×List AV}(hp:p∈T.hs i):p∈T.hs j:=by
 induction j with
 |zero=>have:i=0:=by omega
        simp_all
 |succ j ih=>
  by_cases hi:i=j+1
  .simp_all
  .have:=ih ab ab;have hs:=(T.step j os[j] (dY ab)).2.2.2.1;rw[hs];exact (ll (T.Es j) (T.hs j) (T.ns j) p.1 p.2).2 (.inl this)
theorem Tr.HD(T:Tr P ops nt os e h n)(i:Nat)(hi:i<=os.length)(t:Nat):(∃(j:Nat)(o:Oper),j<i/\os[j]?=some o/\o.dst=some t/\get (T.es i) t=T.vs j)\/((∀(j:Nat)(o:Oper),j<i->os[j]?=some o->o.dst≠some t)/\get (T.es i) t=get e t):=by
 induction i with
 |zero=>rw[T.e0];simp
 |succ i ih=>
  have cq:os[i]?=some os[i]:=dY ab;have hs:=(T.step i os[i] cq).2.2.1;rw[hs]
  cases hd:os[i].dst with
  |none=>
   simp only[put]
   grind
  |some d=>
   simp only[put,get]
   grind
end
end Go.Fi
namespace Go.Fi
open Go Go.RowKit
variable[bJ]
variable{fk:Fk}
section
variable{P:Program}{ops:Array Oper}{nt:Nat}{k:Nat}
def Closed(ops:Array Oper)(listed:Array Bool):Prop:=
 ∀(i:Nat)(o:Oper),ops[i]?=some o->listed.getD i false=true->∀e∈o.after,Region.binds .any e=true->listed.getD e.on false=true
omit [bJ] in
theorem m8{listed:Array Bool}(hc:Closed ops listed):∀(f i j:Nat)(o:Oper),ops[i]?=some o->(∀e∈o.after,Region.binds .any e=true->listed.getD e.on false=true)->reach ops f i j=true->listed.getD j false=true
 |0,_,_,_,_,_,h=>by trivial
 |f+1,i,j,o,ho,he,h=>by
  simp only[reach,ho,uS,eT,sT] at h;obtain⟨e,hin,hb,h1⟩:=h;have hl:=he e (qV.1 hin) hb
  rcases h1 with h1|h1
  .have:e.on=j:=ak
   rw[<-this];exact hl
  .cases b6:ops[e.on]? with
   |none=>cases f<;>simp[reach,b6] at h1
   |some o'=>exact m8 hc f e.on j o' b6 (hc e.on o' b6 hl) h1
omit [bJ] in
theorem Closed.set{listed:Array Bool}(hc:Closed ops listed){i:Nat}{o:Oper}(ho:ops[i]?=some o)(he:∀e∈o.after,Region.binds .any e=true->listed.getD e.on false=true):Closed ops (listed.setIfInBounds i true):=by
 intro j o' b6 hl e hin hb;by_cases bk:i=j
 .subst bk
  rw[ho] at b6;injection b6 with b6;subst b6
  exact getD_set_true (he e hin hb)
 .rw[getD_set_ne false bk] at hl;exact getD_set_true (hc j o' b6 hl e hin hb)
def open_(listed:Array Bool):Nat:=listed.toList.countP (λb=>!b)
section
omit [bJ]
theorem pZ{listed:Array Bool}{i:Nat}(hi:listed[i]?=some false):open_ (listed.setIfInBounds i true)+1=open_ listed:=by
 unfold open_
 grind
theorem p9{listed:Array Bool}(h:open_ listed=0){i:Nat}(hi:i<listed.size):listed.getD i false=true:=by
 unfold open_ at h;rw[List.countP_eq_zero] at h;have:=h listed[i] ae;rw[dL,dM hi];simp_all
theorem qZ{listed:Array Bool}(h9:listed.size=ops.size)(b8:∀(i:Nat)(o:Oper),ops[i]?=some o->∀e∈o.after,Region.binds .any e=true->e.on<i):∀i,i<ops.size->listed.getD i false=false->Region.ready .any ops listed≠[]:=by
 intro i
 induction i using Nat.strongRecOn with
 |_ i ih=>
  intro hi hl;by_cases hex:∃e∈ops[i].after,Region.binds .any e=true/\listed.getD e.on false=false
  .grind
  .intro aq
   have:i∈Region.ready .any ops listed:=mem_ready.2 ⟨by
    rw[dL,dM ab] at hl ⊢
    exact hl,ops[i],dM hi,λe hin hb=>by
    simp_all⟩
   rw[aq] at this;cases this
theorem nQ{listed:Array Bool}(h9:listed.size=ops.size){i:Nat}(hr:i∈Region.ready .any ops listed):∃o,ops[i]?=some o/\listed[i]?=some false/\∀e∈o.after,Region.binds .any e=true->listed.getD e.on false=true:=by
 obtain⟨h0,o,ho,he⟩:=mem_ready.1 hr
 have a4:i<listed.size:=by rw[h9];exact (df.1 ho).1
 simp_all
end
theorem vN{B:Base}{w0:Ctx fk}{Kr:Env->bD->Nat->Prop}{Q:Exit->Act->World->Prop}(hQ:∀e h n a w m,Kr e h n->Sim B w0 ⟨e,h,n,nt⟩ a w m->Q .normal a w)(b8:∀(i:Nat)(o:Oper),ops[i]?=some o->∀e∈o.after,Region.binds .any e=true->e.on<i)(a9:∀i,k<=i->i<ops.size->∀j,j<i->reach ops 8 i j=true):∀(f i:Nat)(listed:Array Bool)(e:Env)(h:bD)(n:Nat)(a:Act)(w:World)(m:Mm),k<=i->i<=ops.size->listed.size=ops.size->Closed ops listed->(∀j,j<ops.size->(listed.getD j false=true↔j<i))->open_ listed<=f->dD P ops nt (ops.toList.drop i) e h n Kr->Sim B w0 ⟨e,h,n,nt⟩ a w m->jN w0.r P .any ops Q f listed a w:=by
 intro f
 induction f with
 |zero=>
  intro i listed e h n a w m cu hi h9 hc hl b4 hk hs
  have a5:i=ops.size:=by
   rcases fq i ops.size with a4|d7
   .have:=p9 (yf.1 b4) (i:=i) ab;have:=(hl i a4).1 this;omega
   .omega
  subst a5;rw[I5 ae] at hk;refine⟨?_,hQ _ _ _ _ _ _ hk hs⟩
  cases hr:Region.ready .any ops listed with
  |nil=>rfl
  |cons x xs=>
   obtain⟨o,ho,hf,_⟩:=nQ h9 (i:=x) (by rw[hr];simp);have hx:=(df.1 ho).1;have:=(hl x hx).2 hx;rw[dL,hf] at this;cases this
 |succ f ih=>
  intro i listed e h n a w m cu hi h9 hc hl b4 hk hs;by_cases a4:i<ops.size
  .have b':=qZ h9 b8 i a4 (by
    cases hq:listed.getD i false with
    |true=>have:=(hl i a4).1 hq;omega
    |false=>rfl)
   refine⟨λaq=>absurd aq b',λx hx=>?_⟩;obtain⟨o,ho,hf,he⟩:=nQ h9 hx;have bo:=(df.1 ho).1
   have d2:x=i:=by
    have h1:¬x<i:=λd3=>by
     have:=(hl x bo).2 d3;rw[dL,hf] at this;cases this
    rcases fq i x with h2|h2
    .have:=m8 hc 8 x i o ho he (a9 x ab bo i h2);have:=(hl i a4).1 this;omega
    .omega
   subst d2
   have bf:ops.toList.drop x=o::ops.toList.drop (x+1):=by
    rw[SU (by simpa using a4)];congr 1
    have:ops.toList[x]?=some o:=by rw[jA];exact ho
    rw[dY (by simpa using a4)] at this;injection this
   rw[bf] at hk;simp only[dD] at hk
   have a6:∀e' h' n' a' w' m',dD P ops nt (ops.toList.drop (x+1)) e' h' n' Kr->Sim B w0 ⟨e',h',n',nt⟩ a' w' m'->jN w0.r P .any ops Q f (listed.setIfInBounds x true) a' w':=by
    intro e' h' n' a' w' m' b5 h8;refine ih (x+1) _ e' h' n' a' w' m' ab ab (by simpa using h9) (hc.set ho he) (λj hj=>?_) (by have:=pZ hf;omega) b5 h8;by_cases cj:x=j
    .subst cj;rw[dL,jj];simp[h9,hj]
    .rw[getD_set_ne false cj,hl j hj];omega
   split at hk
   .rename_i g hg;unfold lD;rw[ho];simp only[pY hg hs];intro w1 e1;replace hs:=hs.move e1
    cases g with
    |true=>
     simp only[cD];exact jZ (vL (hk.2.1 rfl)) (vM w0 o (K:=λv h' n'=>dD P ops nt (ops.toList.drop (x+1)) (put e o.dst v) h' n' Kr) (hk.2.1 rfl) hs hk.1 Q _ (λv h' n' a' w' m' b5 h8=>a6 _ _ _ _ _ m' b5 h8))
    |false=>
     simp only[dC,cP];exact a6 _ _ _ _ _ m (hk.2.2 rfl) ⟨hs.base,hs.below,by rw[lj];exact hs.defers,by rw[lh];exact hs.size,nO e a o.dst _ _ (by rw[hs.size];exact hk.1) (.tup rfl (λj p v hp=>by simp at hp)) hs.env,hs.heap,hs.dom,hs.ids,hs.fr⟩
   trivial
  .have a5:i=ops.size:=ab
   subst a5;rw[I5 ae] at hk
   have hr:Region.ready .any ops listed=[]:=by
    cases hr:Region.ready .any ops listed with
    |nil=>rfl
    |cons x xs=>
     obtain⟨o,ho,hf,_⟩:=nQ h9 (i:=x) (by rw[hr];simp);have hx:=(df.1 ho).1;have:=(hl x hx).2 hx;rw[dL,hf] at this;cases this
   refine⟨λ_=>hQ _ _ _ _ _ _ hk hs,λx hx=>?_⟩;rw[hr] at hx;cases hx
end
section
variable{P:Program}{ops:Array Oper}{nt:Nat}{k:Nat}
structure Chk(ops:Array Oper)(k:Nat):Prop where
 le:k<=ops.size
 down:∀(i:Nat)(o:Oper),ops[i]?=some o->∀e∈o.after,Region.binds .any e=true->e.on<i
 use:∀(i:Nat)(o:Oper),i<k->ops[i]?=some o->∀t∈jR ops o,∀j,j<k->eD ops j=some t->j<i/\reach ops 4 i j=true
 once:∀(i:Nat)(o:Oper),i<k->ops[i]?=some o->∀j,j<k->j≠i->∀t,o.dst=some t->eD ops j≠some t
 wait:∀i,k<=i->i<ops.size->∀j,j<k->reach ops 8 i j=true
omit [bJ] in
theorem zw(h:uy ops k=true):Chk ops k/\(∀i,k<=i->i<ops.size->∀j,j<i->reach ops 8 i j=true):=by
 simp only[uy,eT,decide_eq_true_eq,gz,lW] at h;obtain⟨⟨⟨h1,h2⟩,h3⟩,h4⟩:=h
 have a9:∀i,k<=i->i<ops.size->∀j,j<i->reach ops 8 i j=true:=by
  intro i hk hi j hj;have:=h4 i hi;simp only[sT,decide_eq_true_eq,gz,lW] at this
  rcases this with h|h
  .omega
  .exact h j hj
 refine⟨⟨h1,λi o ho e hin hb=>?_,λi o hi ho t ht j hj hd=>?_,λi o hi ho j hj b' t ht hd=>?_,λi hk hi j hj=>a9 i hk hi j ab⟩,a9⟩
 .have a4:=(df.1 ho).1;have:=h2 i a4;simp only[ho,gz] at this;have:=this e (qV.2 hin);simpa[hb] using this
 .have:=h3 i hi;simp only[ho,eT,gz,lW] at this;have:=this.1 t ht j hj;simpa[hd] using this
 grind
omit [bJ] in
theorem zy{o:Oper}{t:Nat}(h:(.tmp t:Operand)∈o.op.operands):t∈jR ops o:=by
 unfold jR;refine jC.2 (.inl (List.mem_filterMap.2 ⟨.tmp t,qV.2 h,rfl⟩))
variable{e:Env}{h:bD}{n:Nat}
structure eH(P:Program)(ops:Array Oper)(nt k:Nat)(e:Env)(h:bD)(n:Nat)(T:Tr P ops nt (ops.toList.take k) e h n)(B:Base)(w0:Ctx fk)(listed:Array Bool)(a:Act)(w:World)(m:Mm):Prop where
 base:B.n=w0.w.heap.size
 below:Bel B.n w0.w w
 defers:a.defers=marks w0.ds
 size:a.tmps.size=nt
 heap:dc B (T.hs k) m w
 dom:∀id,m.dom id↔id<n\/∃i,i<k/\listed.getD i false=true/\T.ns i<=id/\id<T.ns i+(T.Es i).length
 done:∀i t,i<k->listed.getD i false=true->eD ops i=some t->bI B (LB m (T.hs k)) m w (T.vs i) (a.tmps.getD t undef)
 old:∀t,(∀i,i<k->listed.getD i false=true->eD ops i≠some t)->bI B (LB m (T.hs k)) m w (get e t) (a.tmps.getD t undef)
 fr:pt B w0 (LB m (T.hs k)) m w n
theorem eH.bel{T:Tr P ops nt (ops.toList.take k) e h n}{B:Base}{w0:Ctx fk}{listed:Array Bool}{a:Act}{w w':World}{m:Mm}(hp:eH P ops nt k e h n T B w0 listed a w m)(hb:Bel w.heap.size w w'):eH P ops nt k e h n T B w0 listed a w' m:=by
 have hr:B.n<=w.heap.size:=by have:=hp.below.size;have:=hp.base;omega
 have hm:∀x v,bI B (LB m (T.hs k)) m w x v->bI B (LB m (T.hs k)) m w' x v:=λx v h=>h.mono (Mm.le.refl m) (λ_ _ x=>x) (λb hl _=>hb.block b hl)
 exact⟨hp.base,hp.below.trans (hb.mono hr),hp.defers,hp.size,hp.heap.below hb,hp.dom,λi t hi hl hd=>hm _ _ (hp.done i t hi hl hd),λt ht=>hm _ _ (hp.old t ht),hp.fr.mono (Mm.le.refl m) (λ_ _ x=>x) (λb hl _=>hb.block b hl) (bV _)⟩
omit [bJ] in
theorem vO{i:Nat}{o:Oper}(hi:i<k)(ho:ops[i]?=some o):(ops.toList.take k)[i]?=some o:=by
 rw[k8,bX hi,jA];exact ho
omit [bJ] in
theorem Ep{i:Nat}{o:Oper}(ho:(ops.toList.take k)[i]?=some o):i<k/\ops[i]?=some o:=by
 rw[k8] at ho;simp_all
theorem eH.slot{T:Tr P ops nt (ops.toList.take k) e h n}{B:Base}{w0:Ctx fk}{listed:Array Bool}{a:Act}{w:World}{m:Mm}(hp:eH P ops nt k e h n T B w0 listed a w m)(hc:Chk ops k)(aa:Closed ops listed){i:Nat}{o:Oper}(hi:i<k)(ho:ops[i]?=some o)(he:∀e∈o.after,Region.binds .any e=true->listed.getD e.on false=true){t:Nat}(ht:t∈jR ops o):bI B (LB m (T.hs k)) m w (get (T.es i) t) (a.tmps.getD t undef):=by
 have hlen:(ops.toList.take k).length=k:=by simp[hc.le]
 rcases T.HD i ab t with ⟨j,oj,h1,h2,h3,h4⟩|⟨h1,h2⟩
 .obtain⟨hj,b7⟩:=Ep h2
  have hd:eD ops j=some t:=by simp[eD,b7,h3]
  obtain⟨_,hr⟩:=hc.use i o hi ho t ht j hj hd;rw[h4];exact hp.done j t hj (m8 aa 4 i j o ho he hr) hd
 .rw[h2];refine hp.old t (λj hj hl hd=>?_);obtain⟨bc,_⟩:=hc.use i o hi ho t ht j hj hd
  cases b7:ops[j]? with
  |none=>grind
  |some oj=>exact h1 j oj bc (vO hj b7) (by simpa[eD,b7] using hd)
omit [bJ] in
theorem zA{o:Oper}{env:Env}{g:Bool}(hg:gl ops env o=some g){a:Act}{B:Base}{L:Nat->Prop}{m:Mm}{w:World}(hs:∀t,t∈jR ops o->bI B L m w (get env t) (a.tmps.getD t undef)):Region.wanted o (yielded ops a.tmps)=g:=by
 unfold gl at hg;unfold Region.wanted;split at hg
 .simp_all
 .rename_i j want e;rw[e];simp only;split at hg
  .rename_i ed;cases hg;simp[yielded,ed]
  .rename_i t ed
   have ht:=hs t (by
    unfold jR;refine jC.2 (.inr ?_);rw[e]
    simp[eD,ed])
   split at hg
   .rename_i ow f b eg;cases hg;rw[eg] at ht;have hv:=ht.kn
    have a4:t<a.tmps.size:=by
     rcases fq t a.tmps.size with h|h
     .exact h
     .rw[dL,Db h] at hv;cases hv
    have hq:a.tmps[t]?=some (.bool b):=by
     rw[dL,dM a4] at hv;rw[dM a4]
     grind
    simp only[yielded,ed,jz,hq]
    cases b<;>cases want<;>rfl
   .rename_i eg;cases hg;rw[eg] at ht;obtain⟨vs,hv,hl,_⟩:=ht.xq
    have c3:vs=#[]:=ak
    subst c3
    have:yielded ops a.tmps j=none:=by
     simp only[yielded,ed,jz];rw[dL] at hv
     grind
    rw[this];rfl
   .cases hg
omit [bJ] in
theorem oQ{a:Act}{d:Option Nat}{v:Value}{t:Nat}(hd:dOk a.tmps.size d):(a.put d v).tmps.getD t undef=if d=some t then v else a.tmps.getD t undef:=by
 cases d with
 |none=>rfl
 |some d=>
  simp only[Act.put,dg];rw[dL,jj];by_cases h:d=t
  .subst h;simp only[cD];rw[bX (show d<a.tmps.size from hd)];rfl
  simp_all
theorem eH.next{T:Tr P ops nt (ops.toList.take k) e h n}{B:Base}{w0:Ctx fk}{listed:Array Bool}{a:Act}{w:World}{m:Mm}(hp:eH P ops nt k e h n T B w0 listed a w m)(hc:Chk ops k){i:Nat}{o:Oper}(hi:i<k)(ho:ops[i]?=some o)(hf:listed[i]?=some false){v':Value}{w':World}{m':Mm}(bu:dOk nt o.dst)(p:jc B (T.hs k) m w (T.ns i) (T.Es i).length (T.vs i) v' w' m'):eH P ops nt k e h n T B w0 (listed.setIfInBounds i true) (a.put o.dst v') w' m':=by
 obtain⟨p1,p2,p3,p4,p5,p6⟩:=p
 have hB:B.n<=w.heap.size:=by have:=hp.below.size;have:=hp.base;omega
 have hO:bJ.ok w:=bJ.keep w0.ok aF
 have b9:∀p v,bI B (LB m (T.hs k)) m w p v->bI B (LB m' (T.hs k)) m' w' p v:=λp v hr=>hr.mono p1 (λb hb hn hl=>by
  grind) (λb hb _=>p3.block b hb)
 have cl:eD ops i=o.dst:=by simp[eD,ho]
 have c9:dOk a.tmps.size o.dst:=by rw[hp.size];exact bu
 have cv:(listed.setIfInBounds i true).getD i false=true:=by
  have:=(df.1 hf).1;rw[dL,jj];simp[this]
 have cw:∀j,j≠i->(listed.setIfInBounds i true).getD j false=listed.getD j false:=λj hj=>getD_set_ne false (dZ hj)
 have de:listed.getD i false=false:=by rw[dL,hf];rfl
 refine⟨hp.base,hp.below.trans (p3.mono hB),by rw[lj];exact hp.defers,by rw[lh];exact hp.size,p4,λid=>?_,λj t hj hl hd=>?_,λt ht=>?_,hp.fr.mono p1 (λb hb hn hl=>by
  grind) (λb hb _=>p3.block b hb) (bV _)⟩
 .rw[p2,hp.dom]
  grind
 .rw[oQ c9];by_cases bc:j=i
  .simp_all
  .rw[cw j bc] at hl
   have:o.dst≠some t:=λcx=>hc.once i o hi ho j hj bc t cx hd
   rw[bH this];exact b9 _ _ (hp.done j t hj hl hd)
 .rw[oQ c9];have h1:=ht i hi cv;rw[cl] at h1;rw[bH h1];refine b9 _ _ (hp.old t (λj hj hl=>ht j hj ?_))
  grind
theorem Er{T:Tr P ops nt (ops.toList.take k) e h n}(hk:k<=ops.size){B:Base}{m:Mm}{w:World}(hs:dc B h m w)(hd:∀i,m.dom i↔i<n)(bj:∀id c,(id,c)∈h->id<n):∀i,i<=k->dc B (T.hs i) m w/\LB m (T.hs i)=LB m h/\(∀id c,(id,c)∈T.hs i->id<T.ns i):=by
 have hlen:(ops.toList.take k).length=k:=by simp[hk]
 intro i
 induction i with
 |zero=>intro _;rw[T.h0,T.n0];trivial
 |succ i ih=>
  intro hi;obtain⟨h1,h2,h3⟩:=ih ab;have bm:=T.step i _ (dY ab)
  have hn:n<=T.ns i:=by have:=T.jS (i:=0) (j:=i) ab ab;rw[T.n0] at this;exact this
  obtain⟨h4,h5⟩:=vK (T.Es i) (T.hs i) (T.ns i) h1 (λj hj cm=>by have:=(hd j).1 cm;omega) h3;rw[bm.2.2.2.1];refine⟨h4,h5.trans h2,λid c hin=>?_⟩;rw[bm.2.2.2.2.1]
  rcases (ll _ _ _ _ _).1 hin with h6|⟨q,h6,rfl⟩
  .have:=h3 id c h6;omega
  grind
theorem Et{T:Tr P ops nt (ops.toList.take k) e h n}(hc:Chk ops k){B:Base}{w0:Ctx fk}{Q:Exit->Act->World->Prop}(bj:∀id c,(id,c)∈T.hs k->id<T.ns k)(ag:∀(f:Nat)(listed:Array Bool)(a:Act)(w:World)(m:Mm),listed.size=ops.size->Closed ops listed->(∀j,j<ops.size->(listed.getD j false=true↔j<k))->open_ listed<=f->Sim B w0 ⟨T.es k,T.hs k,T.ns k,nt⟩ a w m->jN w0.r P .any ops Q f listed a w):∀(f:Nat)(listed:Array Bool)(a:Act)(w:World)(m:Mm),listed.size=ops.size->Closed ops listed->open_ listed<=f->(∀i,k<=i->i<ops.size->listed.getD i false=false)->eH P ops nt k e h n T B w0 listed a w m->jN w0.r P .any ops Q f listed a w:=by
 have hlen:(ops.toList.take k).length=k:=by simp[hc.le]
 have last:∀(f:Nat)(listed:Array Bool)(a:Act)(w:World)(m:Mm),listed.size=ops.size->Closed ops listed->open_ listed<=f->eH P ops nt k e h n T B w0 listed a w m->(∀i,i<k->listed.getD i false=true) ->
  (∀i,k<=i->i<ops.size->listed.getD i false=false)->jN w0.r P .any ops Q f listed a w:=by
  intro f listed a w m h9 aa b4 hp a5 c6;refine ag f listed a w m h9 aa (λj hj=>⟨λh1=>?_,λh1=>a5 j h1⟩) b4 ⟨hp.base,hp.below,hp.defers,hp.size,λt=>?_,hp.heap,λid=>?_,bj,hp.fr.mono (Mm.le.refl m) (λ_ _ h=>h) (λ_ _ _=>rfl) (by have:=T.jS (i:=0) (j:=k) ab ab;rw[T.n0] at this;exact this)⟩
  .grind
  .rcases T.HD k ab t with ⟨j,oj,h1,h2,h3,h4⟩|⟨h1,h2⟩
   .obtain⟨hj,b7⟩:=Ep h2;show bI _ _ _ _ (get (T.es k) t) _;rw[h4];exact hp.done j t hj (a5 j hj) (by simp[eD,b7,h3])
   .show bI _ _ _ _ (get (T.es k) t) _;rw[h2];refine hp.old t (λj hj _ hd=>?_)
    cases b7:ops[j]? with
    |none=>grind
    |some oj=>exact h1 j oj hj (vO hj b7) (by simpa[eD,b7] using hd)
  .rw[hp.dom];show _↔id<T.ns k
   have bb:∀i,i<=k->(id<T.ns i↔id<n\/∃j,j<i/\T.ns j<=id/\id<T.ns j+(T.Es j).length):=by
    intro i
    induction i with
    |zero=>intro _;rw[T.n0];constructor
           .exact .inl
           .rintro (h|⟨j,h,_⟩)
            .exact h
            .omega
    |succ i ih=>
     intro hi;have bm:=(T.step i _ (dY ab)).2.2.2.2.1;rw[bm];constructor
     .intro h1
      rcases fq id (T.ns i) with h2|h2
      .rcases (ih ab).1 h2 with h3|⟨j,h3,h4⟩
       .exact .inl h3
       .exact .inr ⟨j,ab,h4⟩
      .exact .inr ⟨i,ab,h2,h1⟩
     .rintro (h1|⟨j,h1,h2,h3⟩)
      .have:=(ih ab).2 (.inl h1);omega
      .by_cases bc:j=i
       .subst bc;exact h3
       .have:=(ih ab).2 (.inr ⟨j,ab,h2,h3⟩);omega
   rw[bb k (bV _)]
   grind
 intro f
 induction f with
 |zero=>
  intro listed a w m h9 aa b4 ay hp;have hz:=yf.1 b4
  have dh:k=ops.size:=by
   rcases fq k ops.size with h1|h1
   .have h2:=p9 hz (i:=k) ab;rw[ay k (bV _) h1] at h2;cases h2
   simp_all
  exact last 0 listed a w m h9 aa b4 hp (λi hi=>p9 hz ab) ay
 |succ f ih=>
  intro listed a w m h9 aa b4 ay hp;by_cases a5:∀i,i<k->listed.getD i false=true
  .grind
  .obtain⟨i0,ct⟩:=Classical.not_forall.1 a5;obtain⟨hi0k,hi0l⟩:=Classical.not_imp.1 ct
   have hi0f:listed.getD i0 false=false:=al
   have b':=qZ h9 hc.down i0 (by have:=hc.le;omega) hi0f;refine⟨λaq=>absurd aq b',λx hx=>?_⟩;obtain⟨o,ho,hf,he⟩:=nQ h9 hx;have bo:=(df.1 ho).1
   have bg:x<k:=by
    rcases fq x k with h1|h1
    .exact h1
    .have:=m8 aa 8 x i0 o ho he (hc.wait x h1 bo i0 hi0k);rw[hi0f] at this;cases this
   obtain⟨bu,hw,_,_,_,c8,cy⟩:=T.step x o (vO bg ho);unfold lD;rw[ho];simp only[zA hw (λt ht=>hp.slot hc aa bg ho he ht)];intro w e1;replace hp:=hp.bel (EnvD.ext e1)
   have hB:B.n<=w.heap.size:=by have:=hp.below.size;have:=hp.base;omega
   have hO:bJ.ok w:=bJ.keep w0.ok aF
   have a6:∀v' w' m',jc B (T.hs k) m w (T.ns x) (T.Es x).length (T.vs x) v' w' m'->jN w0.r P .any ops Q f (listed.setIfInBounds x true) (a.put o.dst v') w':=by
    intro v' w' m' aw;refine ih _ _ w' m' (by simpa using h9) (aa.set ho he) (by have:=pZ hf;omega) (λj hj d8=>?_) (hp.next hc bg ho hf bu aw);rw[getD_set_ne false ab];simp_all
   cases hg:T.gs x with
   |true=>
    simp only[cD];refine jZ (HC (c8 hg)) ((c8 hg).sound o hO hp.heap hB (λid cs hl=>T.uz (i:=x) ab ab (gj hl)) (λq cs hl=>?_) (λq hq hd=>?_) (λy hy=>?_) _ Q (λv' w' m' aw=>a6 v' w' m' aw))
    .refine T.uz (i:=x+1) ab ab ?_;rw[(T.step x o (vO bg ho)).2.2.2.1];exact (ll _ _ _ _ _).2 (.inr ⟨q,hl,rfl⟩)
    .have dj:n<=T.ns x:=by have:=T.jS (i:=0) (j:=x) ab ab;rw[T.n0] at this;exact this
     rcases (hp.dom _).1 hd with h1|⟨j,hj,hl,h2,h3⟩
     .omega
     .have d9:j≠x:=by
       rintro rfl
       rw[dL,hf] at hl;cases hl
      have dk:=(T.step j _ (dY ab)).2.2.2.2.1;have cf:=(T.step x _ (dY ab)).2.2.2.2.1
      rcases fq j x with h4|h4
      .have:=T.jS (i:=j+1) (j:=x) ab ab;omega
      .have:=T.jS (i:=x+1) (j:=j) ab ab;omega
    .refine mY y (λt e=>?_);subst e;exact hp.slot hc aa bg ho he (zy hy)
   |false=>
    simp only[dC,cP];obtain⟨h1,h2⟩:=cy hg;refine a6 undef w m ?_;rw[h1,h2];exact⟨Mm.le.refl m,λi=>⟨.inl,λh=>h.elim id λh=>ak⟩,Bel.refl _ _,hp.heap,λb hb=>.inl hb,.tup rfl (λj p v hp=>by simp at hp)⟩
theorem Eu{K:Exit->St->Prop}(k:Nat){id:Nat}{Kp:Env->bD->Nat->Prop}(hm:P.follows .mixedOrders=true)(hc:Chk ops k)(hk:gm P ops nt (ops.toList.take k) e h n Kp)(ag:∀(B:Base)(w0:Ctx fk)(e':Env)(h':bD)(n':Nat),Kp e' h' n'->∀(f:Nat)(listed:Array Bool)(a:Act)(w:World)(m:Mm),listed.size=ops.size->Closed ops listed->(∀j,j<ops.size->(listed.getD j false=true↔j<k))->open_ listed<=f->Sim B w0 ⟨e',h',n',nt⟩ a w m->jN w0.r P .any ops (λe a w=>∃st' m',K e st'/\Sim B w0 st' a w m') f listed a w):cX fk P (.region id ops true) ⟨e,h,n,nt⟩ K:=by
 intro B w0 a w m hs;obtain⟨T,hK⟩:=zt _ _ _ _ hk
 have hlen:(ops.toList.take k).length=k:=by simp[hc.le]
 rw[hlen] at hK
 refine yL hm λw e1=>?_
 replace hs:=hs.move e1
 have h8:Sim B w0 ⟨e,h,n,nt⟩ a { w with drawn:=w.drawn+1 } m:=by
  have hb:Bel w.heap.size w { w with drawn:=w.drawn+1 }:=(Bel.refl _ _).drew;have hB:=hs.room;exact⟨hs.base,hs.below.trans (hb.mono hB),hs.defers,hs.size,λt=>(hs.env t).mono (Mm.le.refl m) (λ_ _ h=>h) (λb br _=>hb.block b br),hs.heap.below hb,hs.dom,hs.ids,hs.fr.mono (Mm.le.refl m) (λ_ _ h=>h) (λb br _=>hb.block b br) (bV _)⟩
 obtain⟨h1,h2,h3⟩:=Er (T:=T) hc.le h8.heap h8.dom h8.ids k (bV _)
 have hf:∀i,(Array.replicate ops.size false).getD i false=false:=by
  intro i;rw[dL,yg]
  split<;>rfl
 refine Et (T:=T) hc h3 (λf listed a w m=>ag B w0 _ _ _ hK f listed a w m) ops.size _ a _ m ae (λi o ho hl=>by rw[hf] at hl;cases hl) ?_ (λi _ _=>hf i) ⟨h8.base,h8.below,h8.defers,h8.size,h1,λid=>?_,(λi t hi hl=>by rw[hf] at hl;cases hl),λt _=>?_,by rw[h2];exact h8.fr⟩
 .unfold open_
  grind
 .rw[h8.dom];simp_all
 .rw[h2];exact h8.env t
theorem cT{K:Exit->St->Prop}(k:Nat){id:Nat}(hm:P.follows .mixedOrders=true)(bt:uy ops k=true)(hk:gm P ops nt (ops.toList.take k) e h n λe' h' n'=>dD P ops nt (ops.toList.drop k) e' h' n' λbp bq c5=>K .normal ⟨bp,bq,c5,nt⟩):cX fk P (.region id ops true) ⟨e,h,n,nt⟩ K:=by
 obtain⟨hc,a9⟩:=zw bt;refine Eu k hm hc hk (λB w0 e' h' n' hK f listed a w m h9 aa hl b4 hs=>?_);exact vN (Kr:=λbp bq c5=>K .normal ⟨bp,bq,c5,nt⟩) (λe' h' n' a' w' m' b5 ba=>⟨_,m',b5,ba⟩) hc.down a9 f k listed _ _ _ a w m (bV _) hc.le h9 aa hl b4 hK hs
end
end Go.Fi
namespace Go.Fi
open Go Go.RowKit
variable[bJ]
def pG(P:Program)(env:Env)(h:bD):ResultVar->Option (AV×Prop)
 |.tmp t=>some (get env t,True)
 |.cell ad t=>match aOp P h 0 (ev env) (.load t (.tmp ad)) with
  |some (c,v,_)=>some (v,c)
  |none=>none
def jW(P:Program)(env:Env)(h:bD):List ResultVar->Option (List AV×Prop)
 |[]=>some ([],True)
 |r::rs=>match pG P env h r with
  |some (v,c)=>match jW P env h rs with
   |some (vs,d)=>some (v::vs,c/\d)
   |none=>none
  |none=>none
def oneOf:List AV->AV
 |[v]=>v
 |vs=>.tup vs
def oD(P:Program)(rs:List ResultVar)(st:St)(res:PV)(fr:Bool):Prop:=
 match jW P st.env st.heap rs with
 |some (vs,c)=>c/\frz st.heap 6 (oneOf vs)=some res/\(fr=true->fF st.heap 6 (oneOf vs)=true)
 |none=>False
def ji:Nat->List PV->Env
 |_,[]=>[]
 |i,p::r=>(i,.w false false p)::ji (i+1) r
def sj(P:Program)(rs:List ResultVar)(res:PV)(fr:Bool):Exit->St->Prop
 |.normal,s=>oD P rs s res fr
 |.ret,s=>oD P rs s res fr
 |_,_=>False
section
variable{fk:Fk}{P:Program}{K:Exit->St->Prop}{st st':St}
omit [bJ] in
theorem wW:∀(l:List PV)(i t:Nat),get (ji i l) t=if i<=t/\t<i+l.length then .w false false (l.getD (t-i) .undef) else .w false false .undef
 |[],i,t=>by simp[ji,get]
 |p::r,i,t=>by
  simp only[ji,get];by_cases h:i=t
  .subst h;simp
  .simp only[h,cP];rw[wW r (i+1) t]
   grind
def pH(tmps:Array Value):ResultVar->Sem Value
 |.tmp t=>pure (tmps.getD t undef)
 |.cell a t=>do loadVar t (<-asAddr (tmps.getD a undef))
theorem rq{B:Base}{w0:Ctx fk}{a:Act}{w:World}{m:Mm}(hs:Sim B w0 st a w m):∀(rs:List ResultVar)(vs:List AV)(c:Prop),jW P st.env st.heap rs=some (vs,c)->c->∃us:List Value,(rs.mapM (pH a.tmps)).run P w=.ok us w/\vs.length=us.length/\∀(j:Nat)(p:AV)(u:Value),vs[j]?=some p->us[j]?=some u->bI B (LB m st.heap) m w p u
 |[],vs,c,h,_=>by
  simp only[jW,dg,dH] at h;simp_all
 |r::rs,vs,c,h,hc=>by
  simp only[jW] at h;split at h
  .rename_i v d hr;split at h
   .rename_i bd d' cz;cases h;obtain⟨us,h1,h2,h3⟩:=rq hs rs bd d' cz hc.2
    have bh:∃u,(pH a.tmps r).run P w=.ok u w/\bI B (LB m st.heap) m w v u:=by
     cases r with
     |tmp t=>
      simp only[pG,dg,dH] at hr;obtain⟨rfl,_⟩:=hr;exact⟨_,rfl,hs.env t⟩
     |cell ad t=>
      simp only[pG] at hr;split at hr
      .rename_i c0 v0 E0 h0;cases hr;have hx:bI B (LB m st.heap) m w (ev st.env (.tmp ad)) (a.eval (.tmp ad)):=hs.env ad;obtain⟨_,u,hu,ax⟩:=DN (P:=P) t (.tmp ad) { (default:Oper) with op:=.load t (.tmp ad)} rfl h0 hc.1 hs.heap (λid cs e=>gj e) hx;refine⟨u,?_,ax⟩
       have hp:∃pa,a.tmps.getD ad undef=.pointer (some pa):=by
        have bn:bI B (LB m st.heap) m w (get st.env ad) (a.tmps.getD ad undef):=hs.env ad;simp only[aOp] at h0;split at h0
        .split at h0
         .rename_i id ver off e;rw[show ev st.env (.tmp ad)=get st.env ad from rfl] at e;rw[e] at bn;obtain⟨b,C,hv,_⟩:=bn.pg;exact⟨_,hv⟩
         .rename_i own f cells off e;rw[show ev st.env (.tmp ad)=get st.env ad from rfl] at e;rw[e] at bn;obtain⟨b,o',vals,hv,_⟩:=bn.qz;exact⟨_,hv⟩
         .cases h0
        .cases h0
       obtain⟨pa,c7⟩:=hp;have he:a.eval (.tmp ad)=.pointer (some pa):=c7;simp only[execOp,he,Instr.loadAt,Instr.sureAddr,Sem.run_bind,Sem.run_pure,Result.andThen_ok] at hu;simp only[pH,c7,asAddr,Sem.run_bind,Sem.run_pure,Result.andThen_ok]
       cases hl:(loadVar t pa).run P w with
       |ok x w1=>rw[hl] at hu;simp only[Result.andThen_ok,Result.ok.injEq,Next.value.injEq] at hu;rw[hu.1,hu.2]
       |halt x w1=>rw[hl] at hu;simp at hu
      .cases hr
    obtain⟨u,hu,dl⟩:=bh;refine⟨u::us,?_,by simp[h2],λj p q hp hq=>?_⟩
    .simp only[yc,Sem.run_bind,hu,h1,Result.andThen_ok,Sem.run_pure]
    grind
   .cases h
  .cases h
def CL(P:Program)(fn:Func)(c:Code)(args:List PV)(res:PV)(fr:Bool):Prop:=
 ∀(G:Nat->Prop)(w:World)(vs:Array Value),bJ.ok w->args.length=vs.size->(∀(j:Nat)(p:PV)(v:Value),args[j]?=some p->vs[j]?=some v->Rep G w p v) ->
  c.wpT none P (bodyPost P fn λe w'=>∃v,e=.returned v/\Bel w.heap.size w w'/\Rep (λb=>(b<w.heap.size->G b)/\(fr=true->w.heap.size<=b)) w' res v) { tmps:=vs++Array.replicate (fn.ntmps-vs.size) undef,defers:=[] } w
theorem Gb{fn:Func}{c:Code}{args:List PV}{res:PV}{fr:Bool}(bl:args.length<=fn.ntmps)(h:cX fk0 P c ⟨ji 0 args,[],0,fn.ntmps⟩ (sj P fn.results.toList res fr)):CL P fn c args res fr:=by
 refineλG w vs bv hlen ax=>?_
 have ba:Sim ⟨w.heap.size,G⟩ (⟨w,[],none,[],[],λri h=>au,bv⟩:Ctx fk0) ⟨ji 0 args,[],0,fn.ntmps⟩ { tmps:=vs++Array.replicate (fn.ntmps-vs.size) undef,defers:=[] } w ⟨λ_ _=>none,λ_=>0,λ_=>False⟩:=by
  refine⟨rfl,Bel.refl _ _,rfl,ar,λt=>?_,⟨λid cells hin=>(by cases hin),List.Pairwise.nil⟩,λi=>⟨λh=>h.elim,λh=>absurd h (Ja i)⟩,λid c hin=>(by cases hin),cG _,(λp hp=>by cases hp),λq hq=>by cases hq⟩;show bI _ _ _ _ (get (ji 0 args) t) _;rw[wW];split
  .rename_i ht
   have a4:t<args.length:=ab
   refine .w ?_ nofun
   have:(vs++Array.replicate (fn.ntmps-vs.size) undef).getD t undef=vs[t]'ab:=by
    rw[dL,sV ab,dM ab];rfl
   rw[this]
   refine (ax t _ _ al (dM ab)).imp λb hg=>⟨?_,nofun,λ_=>hg⟩
   rintro⟨id,cells,C,hin,_⟩
   cases hin
  .exact .w (.undef _) nofun
 refine fo (h _ _ _ _ _ ba) (λe a' w' ⟨st',m',hk,hs⟩=>?_)
 have main:oD P fn.results.toList st' res fr->a'.defers=[]/\∀w1,EnvD.E w' w1->∃v,(results fn a'.tmps).run P w1=.ok v w1/\∃v',Ending.returned v=.returned v'/\Bel w.heap.size w w1/\Rep (λb=>(b<w.heap.size->G b)/\(fr=true->w.heap.size<=b)) w1 res v':=by
  intro hr;refine⟨hs.defers,λw' e1=>?_⟩;replace hs:=hs.move e1;unfold oD at hr;split at hr
  .rename_i bd d bw;obtain⟨hd,cp,co⟩:=hr;obtain⟨us,h1,h2,h3⟩:=rq hs _ _ _ bw hd
   have c2:(results fn a'.tmps).run P w'=.ok (if h:us.toArray.size=1 then us.toArray[0] else .tuple us.toArray) w':=by
    have he:results fn a'.tmps=(do
     let vs <-fn.results.mapM (pH a'.tmps)
     pure (if h:vs.size=1 then vs[0] else .tuple vs)):=rfl
    rw[he,sN];simp only[Sem.run_bind,Sem.run_map,h1,Result.andThen_ok,Sem.run_pure]
   have bh:bI ⟨w.heap.size,G⟩ (LB m' st'.heap) m' w' (oneOf bd) (if h:us.toArray.size=1 then us.toArray[0] else .tuple us.toArray):=by
    have tupc:bd.length≠1->bI ⟨w.heap.size,G⟩ (LB m' st'.heap) m' w' (.tup bd) (if h:us.toArray.size=1 then us.toArray[0] else .tuple us.toArray):=by
     intro b';rw[dif_neg ar];exact .tup (by simpa using h2) (λj p u hp hu=>h3 j p u hp (by simpa using hu))
    match bd,h2,h3,tupc with
    |[],h2,h3,tupc=>exact tupc ae
    |[v],h2,h3,tupc=>
     obtain⟨u,rfl⟩:∃u,us=[u]:=Dk.1 aV;exact h3 0 v u rfl rfl
    |v::v2::r,h2,h3,tupc=>exact tupc ae
   refine⟨_,c2,_,rfl,hs.below,?_⟩;exact nN (B:=⟨w.heap.size,G⟩) hs.heap (λid cs e=>gj e) fr (λb hb=>⟨λhl=>by simp only at hb;omega,λ_=>hb⟩) (λhf b hg=>⟨hg.2.2,λh=>by rw[hf] at h;cases h⟩) 6 _ _ _ cp co bh
  trivial
 cases e<;>first|exact main hk|exact hk.elim
theorem NM{f:FuncId}{fn:Func}{c:Code}{args:List PV}{res:PV}{fr:Bool}(hf:P.funcs[f]?=some fn) (ao:(fn.name == "runtime.NumGoroutine")=false) (hb:fn.body=some c) (bl:args.length<=fn.ntmps) (h:cX fk0 P c ⟨ji 0 args,[],0,fn.ntmps⟩ (sj P fn.results.toList res fr)):bT P f args res fr:=
 ⟨⟨fn,hf,ao,by rw[hb];rfl⟩,λG w vs bv hlen ax=>vg hf hb (Gb bl h G w vs bv hlen ax)⟩
theorem rcK{f:FuncId}{fn:Func}{c:Code}{args:List PV}{res:PV}{fr:Bool}(hf:P.funcs[f]?=some fn)(h:cX fk0 P c ⟨ji 0 args,[],0,fn.ntmps⟩ (sj P fn.results.toList res fr)) (ao:(fn.name == "runtime.NumGoroutine")=false:=by kernel_rfl) (hb:fn.body=some c:=by rfl) (bl:args.length<=fn.ntmps:=by exact gH aj):bT P f args res fr:=
 NM hf ao hb bl h
def sr:AV->AV->Prop
 |.w o f p,.w o' f' p'=>(o'=true->o=true)/\(f'=true->f=true)/\(p'=p\/p'=.undef/\f'=false)
 |a,b=>a=b
def su(env:Env)(n:Nat):Env->Prop
 |[]=>True
 |(t,v)::r=>sr (get env t) v/\v.lt n=true/\su env n r
def qH(h:bD)(n:Nat):bD->Prop
 |[]=>True
 |(i,c)::r=>cV h i=some c/\i<n/\AV.lt.ltL n c=true/\cV r i=none/\qH h n r
section
omit [bJ]
theorem Gc{B:Base}{L:Nat->Prop}{m:Mm}{w:World}{x y:AV}{v:Value}(c4:sr x y)(h:bI B L m w x v):bI B L m w y v:=by
 unfold sr at c4;split at c4
 .obtain⟨h1,h2,h3⟩:=c4
  cases h with
  |w hr hf=>
   rcases h3 with rfl|⟨rfl,h4⟩
   .exact .w (hr.imp λb hg=>⟨hg.1,λe=>hg.2.1 (h1 e),hg.2.2⟩) (λe=>hf (h2 e))
   .exact .w (.undef _) (λe=>by rw[h4] at e;cases e)
 simp_all
theorem Ge{n:Nat}:∀{env' env:Env},su env n env'->∀t,(sr (get env t) (get env' t)/\(get env' t).lt n=true)\/get env' t=.w false false .undef
 |[],env,_,t=>.inr rfl
 |(k,v)::r,env,h,t=>by
  obtain⟨h1,h2,h3⟩:=h;simp only[get];split
  .simp_all
  .exact Ge h3 t
theorem rr{n:Nat}{h:bD}:∀{h':bD},qH h n h'->∀i c,(i,c)∈h'->cV h i=some c/\i<n/\AV.lt.ltL n c=true
 |[],_,i,c,hin=>by cases hin
 |(k,v)::r,hh,i,c,hin=>by
  obtain⟨h1,h2,h3,h4,h5⟩:=hh
  rcases ew.1 hin with e|e
  .simp_all
  .exact rr h5 i c e
theorem Be:∀{h:bD}{i:Nat},cV h i=none->∀p∈h,p.1≠i
 |[],i,_,p,hp=>by cases hp
 |(k,v)::r,i,hh,p,hp=>by
  simp only[cV] at hh;split at hh
  .cases hh
  .rename_i hk
   rcases ew.1 hp with e|e
   .simp_all
   .exact Be hh p e
theorem Gf{n:Nat}{h:bD}:∀{h':bD},qH h n h'->h'.Pairwise λp q=>p.1≠q.1
 |[],_=>List.Pairwise.nil
 |(k,v)::r,hh=>by
  obtain⟨h1,h2,h3,h4,h5⟩:=hh;exact I4.2 ⟨λq hq e=>Be h4 q hq e.symm,Gf h5⟩
end
theorem cg{env env':Env}{h h':bD}{n n' nt:Nat}(h1:su env n' env')(h2:qH h n' h')(hk:fk.k<=n':=by first|exact cG _|omega|(simp;done)):Lek fk ⟨env,h,n,nt⟩ ⟨env',h',n',nt⟩:=by
 intro B w0 a w m hs
 have hL:∀b,LB { m with dom:=λi=>i<n' } h' b->LB m h b:=by
  rintro b ⟨id,c,C,hin,_,ha⟩
  obtain⟨g1,_,_⟩:=rr h2 id c hin;have hm:=gj g1;exact⟨id,c,C,hm,(hs.dom id).2 (hs.ids id c hm),ha⟩
 refine⟨{ m with dom:=λi=>i<n' },hs.base,hs.below,hs.defers,hs.size,λt=>?_,⟨λid c hin hd=>?_,?_⟩,λi=>Iff.rfl,λid c hin=>(rr h2 id c hin).2.1,hk,λp hp=>⟨(hs.fr.2.1 p hp).1,(hs.fr.2.1 p hp).2.BW (AV.rR hk (hs.fr.2.1 p hp).1) hL⟩,λq hq=>let ⟨o1,o2,o3,o4⟩:=hs.fr.2.2 q hq;⟨o1,o2,λh=>o3 (hL _ h),o4⟩⟩
 .show bI _ _ _ _ (get env' t) _
  rcases Ge h1 t with ⟨g1,g2⟩|g1
  .exact (Gc g1 (hs.env t)).BW g2 hL
  .rw[g1];exact .w (.undef _) nofun
 .obtain⟨g1,_,g3⟩:=rr h2 id c hin;have hm:=gj g1;obtain⟨ht,bi⟩:=hs.heap.entry id c hm ((hs.dom id).2 (hs.ids id c hm));refine⟨ht,?_⟩
  rcases bi with bi|⟨b,C,cs,e,e1,e2,e3,e4,e5,e6⟩|bi
  .exact .inl bi
  .exact .inr (.inl ⟨b,C,cs,e,e1,e2,e3,e4,e5,λj p v hp hv=>(e6 j p v hp hv).BW (oO g3 j p hp) hL⟩)
  simp_all
 .have hk:=Gf h2;refine sL ?_ hk;intro x y hx hy b';refine⟨b',λb C C' _ _ d5 d6=>?_⟩;have mx:=gj (rr h2 x.1 x.2 hx).1;have my:=gj (rr h2 y.1 y.2 hy).1;have:=hs.heap.inj;rw[sQ] at this;obtain⟨p,hp,ep⟩:=mV mx;obtain⟨q,hq,eq⟩:=mV my;have dx:m.dom x.1:=(hs.dom _).2 (hs.ids _ _ mx);have dy:m.dom y.1:=(hs.dom _).2 (hs.ids _ _ my)
  grind
theorem Lek.refl(st:St):Lek fk st st:=λ_ _ _ _ m hs=>⟨m,hs⟩
theorem Lek.trans{a b c:St}(h:Lek fk a b)(k:Lek fk b c):Lek fk a c:=λB w0 x w m hs=>let ⟨m',h8⟩:=h B w0 x w m hs;k B w0 x w m' h8
end
end Go.Fi
