/- Lemmas. -/
import Derived.Test.YthpkmilhiganjaaGreatPLb
import Derived.Deep.LoopGhost
import Derived.KernelRfl
set_option linter.unusedSimpArgs false
set_option linter.unusedVariables false
set_option linter.unusedSectionVars false
set_option maxHeartbeats 32000000
set_option maxRecDepth 100000
namespace Go.Fi
open Go Go.RowKit
variable[ar]
def dw(ops:Array Oper)(env:Env)(o:Oper):Option Bool:=
 match o.guard with
 |none=>some true
 |some (j,want)=>
  match (ops[j]?).bind (·.dst) with
  |none=>some false
  |some t=>
   match get env t with
   |.w _ _ (.bool b)=>some (b==want)
   |.tup []=>some false
   |_=>none
def bu(P:Program)(ops:Array Oper)(nt:Nat):List Oper→Env→aj→Nat→(Env→aj→Nat→Prop)→Prop
 |[],e,h,n,K=>K e h n
 |o::os,e,h,n,K=>
  match dw ops e o with
  |some g=>dOk nt o.dst∧(g=true→bn P e h n o.op fun v h' n'=>bu P ops nt os (put e o.dst v) h' n' K) ∧
    (g=false→bu P ops nt os (put e o.dst (.tup [])) h n K)
  |none=>False
def aY(fk:Fk)(P:Program)(c:Code)(st:St)(K:Exit→St→Prop):Prop:=
 ∀(B:Base)(w0:Ctx fk)(a:Act)(w:World)(m:Mm),Sim B w0 st a w m→c.wpT w0.r P (fun e a' w'=>∃st' m',K e st'∧Sim B w0 st' a' w' m') a w
def Lek(fk:Fk)(st st':St):Prop:=∀(B:Base)(w0:Ctx fk)(a:Act)(w:World)(m:Mm),Sim B w0 st a w m→∃m',Sim B w0 st' a w m'
section
variable{fk:Fk}{P:Program}{K:Exit→St→Prop}{st st':St}
theorem mL{ops:Array Oper}{env:Env}{o:Oper}{g:Bool}{B:Base}{w0:Ctx fk}{h:aj}{n nt:Nat}{a:Act}{w:World}{m:Mm}(hg:dw ops env o=some g)(hs:Sim B w0 ⟨env,h,n,nt⟩ a w m):Region.wanted o (yielded ops a.tmps)=g:=by
 unfold dw at hg;unfold Region.wanted;split at hg
 ·rename_i e;rw[e];injection hg
 ·rename_i j want e;rw[e];simp only;split at hg
  ·rename_i ed
   injection hg with hg;subst hg
   simp[yielded,ed]
  ·rename_i t ed;have ht:=hs.env t;split at hg
   ·rename_i ow f b eg
    injection hg with hg;subst hg
    rw[show get (St.env ⟨env,h,n,nt⟩) t=get env t from rfl,eg] at ht;have hv:=ht.gH
    have hlt:t<a.tmps.size:=by
     rcases Nat.lt_or_ge t a.tmps.size with h|h
     ·exact h
     ·rw[Array.getD_eq_getD_getElem?,Array.getElem?_eq_none h] at hv;cases hv
    have hq:a.tmps[t]?=some (.bool b):=by
     rw[Array.getD_eq_getD_getElem?,Array.getElem?_eq_getElem hlt] at hv;rw[Array.getElem?_eq_getElem hlt];simpa using hv
    simp only[yielded,ed,Option.bind_some,hq]
    cases b<;>cases want<;>rfl
   ·rename_i eg
    injection hg with hg;subst hg
    rw[show get (St.env ⟨env,h,n,nt⟩) t=get env t from rfl,eg] at ht;obtain⟨vs,hv,hl,_⟩:=ht.ua
    have hvs:vs=#[]:=by simpa using hl.symm
    subst hvs
    have:yielded ops a.tmps j=none:=by
     simp only[yielded,ed,Option.bind_some];rw[Array.getD_eq_getD_getElem?] at hv
     cases hq:a.tmps[t]? with
     |none=>rfl
     |some x=>rw[hq] at hv;simp at hv;subst hv;rfl
    rw[this];rfl
   ·cases hg
theorem jP{ops:Array Oper}{nt:Nat}{B:Base}{w0:Ctx fk}{Kr:Env→aj→Nat→Prop}{Q:Exit→Act→World→Prop}(hQ:∀e h n a w m,Kr e h n→Sim B w0 ⟨e,h,n,nt⟩ a w m→Q .normal a w):∀(os:List Oper)(e:Env)(h:aj)(n:Nat)(a:Act)(w:World)(m:Mm),bu P ops nt os e h n Kr→Sim B w0 ⟨e,h,n,nt⟩ a w m→fo w0.r P ops Q os a w
 |[],e,h,n,a,w,m,hk,hs=>hQ e h n a w m hk hs
 |o::os,e,h,n,a,w,m,hk,hs=>by
  simp only[bu] at hk;split at hk
  ·rename_i g hg;have hw:=mL hg hs;simp only[fo,hw];intro w1 e1;replace hs:=hs.move e1
   cases g with
   |true=>
    simp only[if_true];exact gu (rR (hk.2.1 rfl)) (rT w0 o (K:=fun v h' n'=>bu P ops nt os (put e o.dst v) h' n' Kr) (hk.2.1 rfl) hs hk.1 Q _ (fun v h' n' a' w' m' hk' hs'=>jP hQ os _ _ _ _ _ m' hk' hs'))
   |false=>
    simp only[Bool.false_eq_true,if_false];refine jP hQ os _ _ _ _ _ m (hk.2.2 rfl) ⟨hs.base,hs.below,by rw[gT];exact hs.defers,by rw[gS];exact hs.size,?_,hs.heap,hs.dom,hs.ids,hs.fr⟩;exact jO e a o.dst _ _ (by rw[hs.size];exact hk.1) (.tup rfl (fun j p v hp=>by simp at hp)) hs.env
  ·exact hk.elim
theorem ae{id:Nat}{ops:Array Oper}{env:Env}{h:aj}{n nt:Nat}(hk:bu P ops nt ops.toList env h n fun e' h' n'=>K .normal ⟨e',h',n',nt⟩):aY fk P (.region id ops false) ⟨env,h,n,nt⟩ K:=
 fun _ _ _ _ _ hs=>nT (jP (fun _ _ _ _ _ m hk' hs'=>⟨_,m,hk',hs'⟩) ops.toList _ _ _ _ _ _ hk hs)
theorem pD{c:Code}{K':Exit→St→Prop}(h:aY fk P c st K)(hk:∀e s,K e s→K' e s):aY fk P c st K':=
 fun B w0 a w m hs=>cJ (h B w0 a w m hs) (fun _ _ _ ⟨st',m',h1,h2⟩=>⟨st',m',hk _ _ h1,h2⟩)
def oK(fk:Fk)(P:Program)(b:Code)(K:Exit→St→Prop):Exit→St→Prop
 |.normal,s=>aY fk P b s K
 |e,s=>K e s
theorem af{x y:Code}(h:aY fk P x st (oK fk P y K)):aY fk P (.seq x y) st K:=
 fun B w0 a w m hs=>vg (cJ (h B w0 a w m hs) (fun e a' w' ⟨st',m',h1,h2⟩=>by
  cases e<;>first|exact h1 B w0 a' w' m' h2|exact⟨st',m',h1,h2⟩))
theorem av(h:K .normal st):aY fk P .skip st K:=fun _ _ _ _ m hs=>FR ⟨st,m,h,hs⟩
theorem az(h:K .ret st):aY fk P .ret st K:=fun _ _ _ _ m hs=>zK ⟨st,m,h,hs⟩
theorem aJ{id:Nat}(h:K (.exit id) st):aY fk P (.exit id) st K:=fun _ _ _ _ m hs=>FU ⟨st,m,h,hs⟩
def fw(id:Nat)(K:Exit→St→Prop):Exit→St→Prop
 |.exit id',s=>if id'=id then K .normal s else K (.exit id') s
 |e,s=>K e s
theorem dV{id:Nat}{c:Code}(h:aY fk P c st (fw id K)):aY fk P (.block id c) st K:=
 fun B w0 a w m hs=>vh (cJ (h B w0 a w m hs) (fun e a' w' ⟨st',m',h1,h2⟩=>by
  cases e<;>first
   |exact⟨st',m',h1,h2⟩
   |(simp only[Exit.inBlock];simp only[fw] at h1;split<;>(rename_i hid;simp only[hid,if_true,if_false] at h1;exact⟨st',m',h1,h2⟩))))
def kh(v:AV)(X Y:Prop):Prop:=
 match v with
 |.w _ _ (.bool b)=>(b=true→X)∧(b=false→Y)
 |.w _ _ .gj=>X∧Y
 |_=>False
theorem G5{c:Operand}{x y:Code}(h:kh (ev st.env c) (aY fk P x st K) (aY fk P y st K)):aY fk P (.cond c x y) st K:=by
 intro B w0 a w m hs;have hc:au B (LB m st.heap) m w (ev st.env c) (a.eval c):=jb c (fun t _=>hs.env t);unfold kh at h;split at h
 ·rename_i o f b e;rw[e] at hc;refine re hc.gH ?_;cases b
  ·exact h.2 rfl B w0 a w m hs
  ·exact h.1 rfl B w0 a w m hs
 ·rename_i o f e;rw[e] at hc
  have:∃b,a.eval c=.bool b:=by
   generalize hv:a.eval c=v at hc
   cases hc with|w h _=>cases h with|gj b=>exact⟨b,rfl⟩
  obtain⟨b,hb⟩:=this;refine re hb ?_;cases b
  ·exact h.2 B w0 a w m hs
  ·exact h.1 B w0 a w m hs
 ·exact h.elim
theorem G6{c:Code}(h:fk.k≤st.nxt→aY fk P c st K):aY fk P c st K:=fun B w0 a w m hs=>h hs.fr.1 B w0 a w m hs
def iq(fk:Fk){α:Type}(J:α→Prop)(I:α→St)(μ:α→Nat)(x:α)(K:Exit→St→Prop):Exit→St→Prop
 |.normal,s=>∃y,J y∧μ y<μ x∧Lek fk s (I y)
 |e,s=>K e s
theorem vV{c:Code}{α:Type}(J:α→Prop)(I:α→St)(μ:α→Nat)(x0:α)(hJ:J x0)(h0:Lek fk st (I x0))(round:∀x,J x→aY fk P c (I x) (iq fk J I μ x K)):aY fk P (.loop c) st K:=by
 intro B w0 a w m hs;refine vi (fun k a w=>∃x m,J x∧μ x=k∧Sim B w0 (I x) a w m) (μ x0) (by obtain⟨m',h⟩:=h0 B w0 a w m hs;exact⟨x0,m',hJ,rfl,h⟩) ?_
 rintro k a w ⟨x,m,hx,rfl,hsx⟩
 refine cJ (round x hx B w0 a w m hsx) (fun e a' w' ⟨st',m',h2,h3⟩=>?_)
 cases e<;>first
  |exact⟨st',m',h2,h3⟩
  |(obtain⟨y,hy,hlt,hle⟩:=h2
    obtain⟨m'',h4⟩:=hle B w0 a' w' m' h3
    exact⟨μ y,hlt,y,m'',hy,rfl,h4⟩)
def yL(fk:Fk){β:Type}(id:Nat)(F:β→Prop)(fin:β→St)(R:St→Prop):Exit→St→Prop
 |.exit i,s=>i=id∧∃y,F y∧Lek fk s (fin y)
 |.ret,s=>R s
 |_,_=>False
end
def reach(ops:Array Oper):Nat→Nat→Nat→Bool
 |0,_,_=>false
 |f+1,i,j=>
  match ops[i]? with
  |some o=>o.after.toList.any fun e=>Region.binds .any e&&(e.on==j || reach ops f e.on j)
  |none=>false
def bT(ops:Array Oper)(i:Nat):Option Nat:=(ops[i]?).bind (·.dst)
def gl(ops:Array Oper)(o:Oper):List Nat:=
 (o.op.operands.toList.filterMap fun x=>match x with | .tmp t=>some t|_=>none)++(match o.guard with|some (j,_)=>(bT ops j).toList|none=>[])
def qD(ops:Array Oper)(k:Nat):Bool:=
 decide (k≤ops.size) &&
 ((List.range ops.size).all fun i=>match ops[i]? with
   |some o=>o.after.toList.all fun e=>!Region.binds .any e || decide (e.on<i)
   |none=>true) &&
 ((List.range k).all fun i=>match ops[i]? with
   |some o=>((gl ops o).all fun t=>(List.range k).all fun j=>if bT ops j=some t then decide (j<i)&&reach ops 4 i j else true) &&
     ((List.range k).all fun j=>decide (j=i) || o.dst.isNone || decide (bT ops j≠o.dst))
   |none=>false) &&
 ((List.range ops.size).all fun i=>decide (i<k) || (List.range i).all fun j=>reach ops 8 i j)
def dF(P:Program)(ops:Array Oper)(nt:Nat):List Oper→Env→aj→Nat→(Env→aj→Nat→Prop)→Prop
 |[],e,h,n,K=>K e h n
 |o::os,e,h,n,K=>
  match dw ops e o with
  |some g=>dOk nt o.dst∧(g=true→bm P e h n o.op fun v E=>dF P ops nt os (put e o.dst v) (ba h n E) (n+E.length) K) ∧
    (g=false→dF P ops nt os (put e o.dst (.tup [])) h n K)
  |none=>False
structure Tr(P:Program)(ops:Array Oper)(nt:Nat)(os:List Oper)(e:Env)(h:aj)(n:Nat) where
 es:Nat→Env
 hs:Nat→aj
 ns:Nat→Nat
 vs:Nat→AV
 Es:Nat→List (List AV)
 gs:Nat→Bool
 e0:es 0=e
 h0:hs 0=h
 n0:ns 0=n
 step:∀i o,os[i]?=some o→dOk nt o.dst∧dw ops (es i) o=some (gs i)∧es (i+1)=put (es i) o.dst (vs i)∧hs (i+1)=ba (hs i) (ns i) (Es i)∧ns (i+1)=ns i+(Es i).length ∧
  (gs i=true→QF P (es i) (hs i) (ns i) o.op (vs i) (Es i))∧(gs i=false→vs i=.tup []∧Es i=[])
theorem vW{P:Program}{ops:Array Oper}{nt:Nat}{K:Env→aj→Nat→Prop}:∀(os:List Oper)(e:Env)(h:aj)(n:Nat),dF P ops nt os e h n K→∃T:Tr P ops nt os e h n,K (T.es os.length) (T.hs os.length) (T.ns os.length)
 |[],e,h,n,hk=>⟨⟨fun _=>e,fun _=>h,fun _=>n,fun _=>.tup [],fun _=>[],fun _=>true,rfl,rfl,rfl,fun i o hi=>by simp at hi⟩,hk⟩
 |o::os,e,h,n,hk=>by
  simp only[dF] at hk;split at hk
  ·rename_i g hg;obtain⟨hd,h1,h2⟩:=hk
   have main:∀(v:AV)(E:List (List AV)),(g=true→QF P e h n o.op v E)→(g=false→v=.tup []∧E=[])→dF P ops nt os (put e o.dst v) (ba h n E) (n+E.length) K →
    ∃T:Tr P ops nt (o::os) e h n,K (T.es (o::os).length) (T.hs (o::os).length) (T.ns (o::os).length):=by
    intro v E q1 q2 hr;obtain⟨T,hK⟩:=vW os _ _ _ hr
    refine⟨⟨fun i=>match i with|0=>e|i+1=>T.es i,fun i=>match i with|0=>h|i+1=>T.hs i,fun i=>match i with|0=>n|i+1=>T.ns i,
     fun i=>match i with|0=>v|i+1=>T.vs i,fun i=>match i with|0=>E|i+1=>T.Es i,fun i=>match i with|0=>g|i+1=>T.gs i,rfl,rfl,rfl,fun i o' hi=>?_⟩,hK⟩
    cases i with
    |zero=>
     simp at hi;subst hi;exact⟨hd,hg,T.e0,T.h0,T.n0,q1,q2⟩
    |succ i=>exact T.step i o' (by simpa using hi)
   cases g with
   |true=>
    obtain⟨v,E,q,hr⟩:=(h1 rfl).qf;exact main v E (fun _=>q) (fun h=>by cases h) hr
   |false=>exact main (.tup []) [] (fun h=>by cases h) (fun _=>⟨rfl,rfl⟩) (h2 rfl)
  ·exact hk.elim
section
variable{P:Program}{ops:Array Oper}{nt:Nat}{os:List Oper}{e:Env}{h:aj}{n:Nat}
theorem Tr.gm(T:Tr P ops nt os e h n){i j:Nat}(hij:i≤j)(hj:j≤os.length):T.ns i≤T.ns j:=by
 induction j with
 |zero=>have:i=0:=by omega
        subst this;exact Nat.le_refl _
 |succ j ih=>
  by_cases hi:i=j+1
  ·subst hi;exact Nat.le_refl _
  ·have:=ih (by omega) (by omega);have hs:=(T.step j os[j] (List.getElem?_eq_getElem (by omega))).2.2.2.2.1;omega
theorem Tr.qE(T:Tr P ops nt os e h n){i j:Nat}(hij:i≤j)(hj:j≤os.length){p:Nat×List AV}(hp:p∈T.hs i):p∈T.hs j:=by
 induction j with
 |zero=>have:i=0:=by omega
        subst this;exact hp
 |succ j ih=>
  by_cases hi:i=j+1
  ·subst hi;exact hp
  ·have:=ih (by omega) (by omega);have hs:=(T.step j os[j] (List.getElem?_eq_getElem (by omega))).2.2.2.1;rw[hs];exact (gU (T.Es j) (T.hs j) (T.ns j) p.1 p.2).2 (.inl this)
theorem Tr.Ew(T:Tr P ops nt os e h n)(i:Nat)(hi:i≤os.length)(t:Nat):(∃(j:Nat)(o:Oper),j<i∧os[j]?=some o∧o.dst=some t∧get (T.es i) t=T.vs j)∨((∀(j:Nat)(o:Oper),j<i→os[j]?=some o→o.dst≠some t)∧get (T.es i) t=get e t):=by
 induction i with
 |zero=>rw[T.e0];exact .inr ⟨fun j o hj=>by omega,rfl⟩
 |succ i ih=>
  have hgi:os[i]?=some os[i]:=List.getElem?_eq_getElem (by omega);have hs:=(T.step i os[i] hgi).2.2.1;rw[hs]
  cases hd:os[i].dst with
  |none=>
   simp only[put]
   rcases ih (by omega) with ⟨j,o,h1,h2,h3,h4⟩|⟨h1,h2⟩
   ·exact .inl ⟨j,o,by omega,h2,h3,h4⟩
   ·refine .inr ⟨fun j o hj ho=>?_,h2⟩;by_cases hji:j=i
    ·subst hji;rw[hgi] at ho;injection ho with ho;subst ho;rw[hd];simp
    ·exact h1 j o (by omega) ho
  |some d=>
   simp only[put,get];by_cases hdt:d=t
   ·subst hdt;simp only[if_true];exact .inl ⟨i,os[i],by omega,hgi,hd,rfl⟩
   ·simp only[hdt,if_false]
    rcases ih (by omega) with ⟨j,o,h1,h2,h3,h4⟩|⟨h1,h2⟩
    ·exact .inl ⟨j,o,by omega,h2,h3,h4⟩
    ·refine .inr ⟨fun j o hj ho=>?_,h2⟩;by_cases hji:j=i
     ·subst hji;rw[hgi] at ho;injection ho with ho;subst ho;rw[hd];simpa using hdt
     ·exact h1 j o (by omega) ho
end
end Go.Fi
namespace Go.Fi
open Go Go.RowKit
variable[ar]
variable{fk:Fk}
section
variable{P:Program}{ops:Array Oper}{nt:Nat}{k:Nat}
def Closed(ops:Array Oper)(listed:Array Bool):Prop:=
 ∀(i:Nat)(o:Oper),ops[i]?=some o→listed.getD i false=true→∀e∈o.after,Region.binds .any e=true→listed.getD e.on false=true
omit [ar] in
theorem jf{listed:Array Bool}(hc:Closed ops listed):∀(f i j:Nat)(o:Oper),ops[i]?=some o→(∀e∈o.after,Region.binds .any e=true→listed.getD e.on false=true)→reach ops f i j=true→listed.getD j false=true
 |0,_,_,_,_,_,h=>by simp[reach] at h
 |f+1,i,j,o,ho,he,h=>by
  simp only[reach,ho,List.any_eq_true,Bool.and_eq_true,Bool.or_eq_true] at h;obtain⟨e,hin,hb,h1⟩:=h;have hl:=he e (Array.mem_toList_iff.1 hin) hb
  rcases h1 with h1|h1
  ·have:e.on=j:=by simpa using h1
   rw[←this];exact hl
  ·cases ho':ops[e.on]? with
   |none=>cases f<;>simp[reach,ho'] at h1
   |some o'=>exact jf hc f e.on j o' ho' (hc e.on o' ho' hl) h1
omit [ar] in
theorem Closed.set{listed:Array Bool}(hc:Closed ops listed){i:Nat}{o:Oper}(ho:ops[i]?=some o)(he:∀e∈o.after,Region.binds .any e=true→listed.getD e.on false=true):Closed ops (listed.setIfInBounds i true):=by
 intro j o' ho' hl e hin hb;by_cases hij:i=j
 ·subst hij
  rw[ho] at ho';injection ho' with ho';subst ho'
  exact getD_set_true (he e hin hb)
 ·rw[getD_set_ne false hij] at hl;exact getD_set_true (hc j o' ho' hl e hin hb)
def open_(listed:Array Bool):Nat:=listed.toList.countP (fun b=>!b)
section
omit [ar]
theorem mM{listed:Array Bool}{i:Nat}(hi:listed[i]?=some false):open_ (listed.setIfInBounds i true)+1=open_ listed:=by
 unfold open_;obtain⟨l⟩:=listed;simp only[List.getElem?_toArray] at hi;simp only[List.setIfInBounds_toArray]
 induction l generalizing i with
 |nil=>simp at hi
 |cons x l ih=>
  cases i with
  |zero=>simp at hi;subst hi;simp
  |succ i=>
   simp only[List.set_cons_succ,List.countP_cons];have:=ih (i:=i) (by simpa using hi);omega
theorem mN{listed:Array Bool}(h:open_ listed=0){i:Nat}(hi:i<listed.size):listed.getD i false=true:=by
 unfold open_ at h;rw[List.countP_eq_zero] at h;have:=h listed[i] (by simp);rw[Array.getD_eq_getD_getElem?,Array.getElem?_eq_getElem hi];simpa using this
theorem nW{listed:Array Bool}(hsz:listed.size=ops.size)(hdown:∀(i:Nat)(o:Oper),ops[i]?=some o→∀e∈o.after,Region.binds .any e=true→e.on<i):∀i,i<ops.size→listed.getD i false=false→Region.ready .any ops listed≠[]:=by
 intro i
 induction i using Nat.strongRecOn with
 |_ i ih=>
  intro hi hl;by_cases hex:∃e∈ops[i].after,Region.binds .any e=true∧listed.getD e.on false=false
  ·obtain⟨e,hin,hb,hle⟩:=hex;have hlt:=hdown i ops[i] (Array.getElem?_eq_getElem hi) e hin hb;exact ih e.on hlt (by omega) hle
  ·intro hnil
   have:i∈Region.ready .any ops listed:=mem_ready.2 ⟨by
    rw[Array.getD_eq_getD_getElem?,Array.getElem?_eq_getElem (by omega)] at hl ⊢
    exact hl,ops[i],Array.getElem?_eq_getElem hi,fun e hin hb=>by
    cases hq:listed.getD e.on false with
    |true=>rfl
    |false=>exact absurd ⟨e,hin,hb,hq⟩ hex⟩
   rw[hnil] at this;cases this
theorem jQ{listed:Array Bool}(hsz:listed.size=ops.size){i:Nat}(hr:i∈Region.ready .any ops listed):∃o,ops[i]?=some o∧listed[i]?=some false∧∀e∈o.after,Region.binds .any e=true→listed.getD e.on false=true:=by
 obtain⟨h0,o,ho,he⟩:=mem_ready.1 hr
 have hlt:i<listed.size:=by rw[hsz];exact (Array.getElem?_eq_some_iff.1 ho).1
 refine⟨o,ho,?_,he⟩;rw[Array.getD_eq_getD_getElem?,Array.getElem?_eq_getElem hlt] at h0;rw[Array.getElem?_eq_getElem hlt];simpa using h0
end
theorem rU{B:Base}{w0:Ctx fk}{Kr:Env→aj→Nat→Prop}{Q:Exit→Act→World→Prop}(hQ:∀e h n a w m,Kr e h n→Sim B w0 ⟨e,h,n,nt⟩ a w m→Q .normal a w)(hdown:∀(i:Nat)(o:Oper),ops[i]?=some o→∀e∈o.after,Region.binds .any e=true→e.on<i)(hseq:∀i,k≤i→i<ops.size→∀j,j<i→reach ops 8 i j=true):∀(f i:Nat)(listed:Array Bool)(e:Env)(h:aj)(n:Nat)(a:Act)(w:World)(m:Mm),k≤i→i≤ops.size→listed.size=ops.size→Closed ops listed→(∀j,j<ops.size→(listed.getD j false=true↔j<i))→open_ listed≤f→bu P ops nt (ops.toList.drop i) e h n Kr→Sim B w0 ⟨e,h,n,nt⟩ a w m→gi w0.r P .any ops Q f listed a w:=by
 intro f
 induction f with
 |zero=>
  intro i listed e h n a w m hki hi hsz hc hl hop hk hs
  have hall:i=ops.size:=by
   rcases Nat.lt_or_ge i ops.size with hlt|hge
   ·have:=mN (Nat.le_zero.1 hop) (i:=i) (by omega);have:=(hl i hlt).1 this;omega
   ·omega
  subst hall;rw[List.drop_of_length_le (by simp)] at hk;refine⟨?_,hQ _ _ _ _ _ _ hk hs⟩
  cases hr:Region.ready .any ops listed with
  |nil=>rfl
  |cons x xs=>
   obtain⟨o,ho,hf,_⟩:=jQ hsz (i:=x) (by rw[hr];simp);have hx:=(Array.getElem?_eq_some_iff.1 ho).1;have:=(hl x hx).2 hx;rw[Array.getD_eq_getD_getElem?,hf] at this;cases this
 |succ f ih=>
  intro i listed e h n a w m hki hi hsz hc hl hop hk hs;by_cases hlt:i<ops.size
  ·have hne:=nW hsz hdown i hlt (by
    cases hq:listed.getD i false with
    |true=>have:=(hl i hlt).1 hq;omega
    |false=>rfl)
   refine⟨fun hnil=>absurd hnil hne,fun x hx=>?_⟩;obtain⟨o,ho,hf,he⟩:=jQ hsz hx;have hxs:=(Array.getElem?_eq_some_iff.1 ho).1
   have hxi:x=i:=by
    have h1:¬x<i:=fun hxl=>by
     have:=(hl x hxs).2 hxl;rw[Array.getD_eq_getD_getElem?,hf] at this;cases this
    rcases Nat.lt_or_ge i x with h2|h2
    ·have:=jf hc 8 x i o ho he (hseq x (by omega) hxs i h2);have:=(hl i hlt).1 this;omega
    ·omega
   subst hxi
   have hdrop:ops.toList.drop x=o::ops.toList.drop (x+1):=by
    rw[List.drop_eq_getElem_cons (by simpa using hlt)];congr 1
    have:ops.toList[x]?=some o:=by rw[Array.getElem?_toList];exact ho
    rw[List.getElem?_eq_getElem (by simpa using hlt)] at this;injection this
   rw[hdrop] at hk;simp only[bu] at hk
   have hnext:∀e' h' n' a' w' m',bu P ops nt (ops.toList.drop (x+1)) e' h' n' Kr→Sim B w0 ⟨e',h',n',nt⟩ a' w' m'→gi w0.r P .any ops Q f (listed.setIfInBounds x true) a' w':=by
    intro e' h' n' a' w' m' hk' hs';refine ih (x+1) _ e' h' n' a' w' m' (by omega) (by omega) (by simpa using hsz) (hc.set ho he) (fun j hj=>?_) (by have:=mM hf;omega) hk' hs';by_cases hxj:x=j
    ·subst hxj;rw[Array.getD_eq_getD_getElem?,Array.getElem?_setIfInBounds];simp[hsz,hj]
    ·rw[getD_set_ne false hxj,hl j hj];omega
   split at hk
   ·rename_i g hg;unfold ia;rw[ho];simp only[mL hg hs];intro w1 e1;replace hs:=hs.move e1
    cases g with
    |true=>
     simp only[if_true];exact gu (rR (hk.2.1 rfl)) (rT w0 o (K:=fun v h' n'=>bu P ops nt (ops.toList.drop (x+1)) (put e o.dst v) h' n' Kr) (hk.2.1 rfl) hs hk.1 Q _ (fun v h' n' a' w' m' hk' hs'=>hnext _ _ _ _ _ m' hk' hs'))
    |false=>
     simp only[Bool.false_eq_true,if_false];exact hnext _ _ _ _ _ m (hk.2.2 rfl) ⟨hs.base,hs.below,by rw[gT];exact hs.defers,by rw[gS];exact hs.size,jO e a o.dst _ _ (by rw[hs.size];exact hk.1) (.tup rfl (fun j p v hp=>by simp at hp)) hs.env,hs.heap,hs.dom,hs.ids,hs.fr⟩
   ·exact hk.elim
  ·have hall:i=ops.size:=by omega
   subst hall;rw[List.drop_of_length_le (by simp)] at hk
   have hr:Region.ready .any ops listed=[]:=by
    cases hr:Region.ready .any ops listed with
    |nil=>rfl
    |cons x xs=>
     obtain⟨o,ho,hf,_⟩:=jQ hsz (i:=x) (by rw[hr];simp);have hx:=(Array.getElem?_eq_some_iff.1 ho).1;have:=(hl x hx).2 hx;rw[Array.getD_eq_getD_getElem?,hf] at this;cases this
   refine⟨fun _=>hQ _ _ _ _ _ _ hk hs,fun x hx=>?_⟩;rw[hr] at hx;cases hx
end
section
variable{P:Program}{ops:Array Oper}{nt:Nat}{k:Nat}
structure Chk(ops:Array Oper)(k:Nat):Prop where
 le:k≤ops.size
 down:∀(i:Nat)(o:Oper),ops[i]?=some o→∀e∈o.after,Region.binds .any e=true→e.on<i
 use:∀(i:Nat)(o:Oper),i<k→ops[i]?=some o→∀t∈gl ops o,∀j,j<k→bT ops j=some t→j<i∧reach ops 4 i j=true
 once:∀(i:Nat)(o:Oper),i<k→ops[i]?=some o→∀j,j<k→j≠i→∀t,o.dst=some t→bT ops j≠some t
 wait:∀i,k≤i→i<ops.size→∀j,j<k→reach ops 8 i j=true
omit [ar] in
theorem vY(h:qD ops k=true):Chk ops k∧(∀i,k≤i→i<ops.size→∀j,j<i→reach ops 8 i j=true):=by
 simp only[qD,Bool.and_eq_true,decide_eq_true_eq,List.all_eq_true,List.mem_range] at h;obtain⟨⟨⟨h1,h2⟩,h3⟩,h4⟩:=h
 have hseq:∀i,k≤i→i<ops.size→∀j,j<i→reach ops 8 i j=true:=by
  intro i hk hi j hj;have:=h4 i hi;simp only[Bool.or_eq_true,decide_eq_true_eq,List.all_eq_true,List.mem_range] at this
  rcases this with h|h
  ·omega
  ·exact h j hj
 refine⟨⟨h1,fun i o ho e hin hb=>?_,fun i o hi ho t ht j hj hd=>?_,fun i o hi ho j hj hne t ht hd=>?_,fun i hk hi j hj=>hseq i hk hi j (by omega)⟩,hseq⟩
 ·have hlt:=(Array.getElem?_eq_some_iff.1 ho).1;have:=h2 i hlt;simp only[ho,List.all_eq_true] at this;have:=this e (Array.mem_toList_iff.2 hin);simpa[hb] using this
 ·have:=h3 i hi;simp only[ho,Bool.and_eq_true,List.all_eq_true,List.mem_range] at this;have:=this.1 t ht j hj;simpa[hd] using this
 ·have:=h3 i hi;simp only[ho,Bool.and_eq_true,List.all_eq_true,List.mem_range] at this;have:=this.2 j hj;simp[hne,ht,hd] at this
omit [ar] in
theorem vZ{o:Oper}{t:Nat}(h:(.tmp t:Operand)∈o.op.operands):t∈gl ops o:=by
 unfold gl;refine List.mem_append.2 (.inl (List.mem_filterMap.2 ⟨.tmp t,Array.mem_toList_iff.2 h,rfl⟩))
variable{e:Env}{h:aj}{n:Nat}
structure cg(P:Program)(ops:Array Oper)(nt k:Nat)(e:Env)(h:aj)(n:Nat)(T:Tr P ops nt (ops.toList.take k) e h n)(B:Base)(w0:Ctx fk)(listed:Array Bool)(a:Act)(w:World)(m:Mm):Prop where
 base:B.n=w0.w.heap.size
 below:Bel B.n w0.w w
 defers:a.defers=marks w0.ds
 size:a.tmps.size=nt
 heap:a9 B (T.hs k) m w
 dom:∀id,m.dom id↔id<n∨∃i,i<k∧listed.getD i false=true∧T.ns i≤id∧id<T.ns i+(T.Es i).length
 done:∀i t,i<k→listed.getD i false=true→bT ops i=some t→au B (LB m (T.hs k)) m w (T.vs i) (a.tmps.getD t undef)
 old:∀t,(∀i,i<k→listed.getD i false=true→bT ops i≠some t)→au B (LB m (T.hs k)) m w (get e t) (a.tmps.getD t undef)
 fr:lY B w0 (LB m (T.hs k)) m w n
theorem cg.bel{T:Tr P ops nt (ops.toList.take k) e h n}{B:Base}{w0:Ctx fk}{listed:Array Bool}{a:Act}{w w':World}{m:Mm}(hp:cg P ops nt k e h n T B w0 listed a w m)(hb:Bel w.heap.size w w'):cg P ops nt k e h n T B w0 listed a w' m:=by
 have hr:B.n≤w.heap.size:=by have:=hp.below.size;have:=hp.base;omega
 have hm:∀x v,au B (LB m (T.hs k)) m w x v→au B (LB m (T.hs k)) m w' x v:=fun x v h=>h.mono (Mm.le.refl m) (fun _ _ x=>x) (fun b hl _=>hb.block b hl)
 exact⟨hp.base,hp.below.trans (hb.mono hr),hp.defers,hp.size,hp.heap.below hb,hp.dom,fun i t hi hl hd=>hm _ _ (hp.done i t hi hl hd),fun t ht=>hm _ _ (hp.old t ht),hp.fr.mono (Mm.le.refl m) (fun _ _ x=>x) (fun b hl _=>hb.block b hl) (Nat.le_refl _)⟩
omit [ar] in
theorem rV{i:Nat}{o:Oper}(hi:i<k)(ho:ops[i]?=some o):(ops.toList.take k)[i]?=some o:=by
 rw[List.getElem?_take,if_pos hi,Array.getElem?_toList];exact ho
omit [ar] in
theorem AJ{i:Nat}{o:Oper}(ho:(ops.toList.take k)[i]?=some o):i<k∧ops[i]?=some o:=by
 rw[List.getElem?_take] at ho;split at ho
 ·rename_i hi;exact⟨hi,by rw[←Array.getElem?_toList];exact ho⟩
 ·cases ho
theorem cg.slot{T:Tr P ops nt (ops.toList.take k) e h n}{B:Base}{w0:Ctx fk}{listed:Array Bool}{a:Act}{w:World}{m:Mm}(hp:cg P ops nt k e h n T B w0 listed a w m)(hc:Chk ops k)(hcl:Closed ops listed){i:Nat}{o:Oper}(hi:i<k)(ho:ops[i]?=some o)(he:∀e∈o.after,Region.binds .any e=true→listed.getD e.on false=true){t:Nat}(ht:t∈gl ops o):au B (LB m (T.hs k)) m w (get (T.es i) t) (a.tmps.getD t undef):=by
 have hlen:(ops.toList.take k).length=k:=by simp[hc.le]
 rcases T.Ew i (by omega) t with ⟨j,oj,h1,h2,h3,h4⟩|⟨h1,h2⟩
 ·obtain⟨hj,hoj⟩:=AJ h2
  have hd:bT ops j=some t:=by simp[bT,hoj,h3]
  obtain⟨_,hr⟩:=hc.use i o hi ho t ht j hj hd;rw[h4];exact hp.done j t hj (jf hcl 4 i j o ho he hr) hd
 ·rw[h2];refine hp.old t (fun j hj hl hd=>?_);obtain⟨hji,_⟩:=hc.use i o hi ho t ht j hj hd
  cases hoj:ops[j]? with
  |none=>simp[bT,hoj] at hd
  |some oj=>exact h1 j oj hji (rV hj hoj) (by simpa[bT,hoj] using hd)
omit [ar] in
theorem wh{o:Oper}{env:Env}{g:Bool}(hg:dw ops env o=some g){a:Act}{B:Base}{L:Nat→Prop}{m:Mm}{w:World}(hs:∀t,t∈gl ops o→au B L m w (get env t) (a.tmps.getD t undef)):Region.wanted o (yielded ops a.tmps)=g:=by
 unfold dw at hg;unfold Region.wanted;split at hg
 ·rename_i e;rw[e];injection hg
 ·rename_i j want e;rw[e];simp only;split at hg
  ·rename_i ed
   injection hg with hg;subst hg
   simp[yielded,ed]
  ·rename_i t ed
   have ht:=hs t (by
    unfold gl;refine List.mem_append.2 (.inr ?_);rw[e]
    simp[bT,ed])
   split at hg
   ·rename_i ow f b eg
    injection hg with hg;subst hg
    rw[eg] at ht;have hv:=ht.gH
    have hlt:t<a.tmps.size:=by
     rcases Nat.lt_or_ge t a.tmps.size with h|h
     ·exact h
     ·rw[Array.getD_eq_getD_getElem?,Array.getElem?_eq_none h] at hv;cases hv
    have hq:a.tmps[t]?=some (.bool b):=by
     rw[Array.getD_eq_getD_getElem?,Array.getElem?_eq_getElem hlt] at hv;rw[Array.getElem?_eq_getElem hlt];simpa using hv
    simp only[yielded,ed,Option.bind_some,hq]
    cases b<;>cases want<;>rfl
   ·rename_i eg
    injection hg with hg;subst hg
    rw[eg] at ht;obtain⟨vs,hv,hl,_⟩:=ht.ua
    have hvs:vs=#[]:=by simpa using hl.symm
    subst hvs
    have:yielded ops a.tmps j=none:=by
     simp only[yielded,ed,Option.bind_some];rw[Array.getD_eq_getD_getElem?] at hv
     cases hq:a.tmps[t]? with
     |none=>rfl
     |some x=>rw[hq] at hv;simp at hv;subst hv;rfl
    rw[this];rfl
   ·cases hg
omit [ar] in
theorem lA{a:Act}{d:Option Nat}{v:Value}{t:Nat}(hd:dOk a.tmps.size d):(a.put d v).tmps.getD t undef=if d=some t then v else a.tmps.getD t undef:=by
 cases d with
 |none=>simp[Act.put]
 |some d=>
  simp only[Act.put,Option.some.injEq];rw[Array.getD_eq_getD_getElem?,Array.getElem?_setIfInBounds];by_cases h:d=t
  ·subst h;simp only[if_true];rw[if_pos (show d<a.tmps.size from hd)];rfl
  ·simp only[h,if_false];rw[←Array.getD_eq_getD_getElem?]
theorem cg.next{T:Tr P ops nt (ops.toList.take k) e h n}{B:Base}{w0:Ctx fk}{listed:Array Bool}{a:Act}{w:World}{m:Mm}(hp:cg P ops nt k e h n T B w0 listed a w m)(hc:Chk ops k){i:Nat}{o:Oper}(hi:i<k)(ho:ops[i]?=some o)(hf:listed[i]?=some false){v':Value}{w':World}{m':Mm}(hdk:dOk nt o.dst)(p:fO B (T.hs k) m w (T.ns i) (T.Es i).length (T.vs i) v' w' m'):cg P ops nt k e h n T B w0 (listed.setIfInBounds i true) (a.put o.dst v') w' m':=by
 obtain⟨p1,p2,p3,p4,p5,p6⟩:=p
 have hB:B.n≤w.heap.size:=by have:=hp.below.size;have:=hp.base;omega
 have hO:ar.ok w:=ar.keep w0.ok (by have:=hp.below;rw[hp.base] at this;exact this)
 have hmono:∀p v,au B (LB m (T.hs k)) m w p v→au B (LB m' (T.hs k)) m' w' p v:=fun p v hr=>hr.mono p1 (fun b hb hn hl=>by
  rcases p5 b hl with h1|h1
  ·exact hn h1
  ·omega) (fun b hb _=>p3.block b hb)
 have hdi:bT ops i=o.dst:=by simp[bT,ho]
 have hsd:dOk a.tmps.size o.dst:=by rw[hp.size];exact hdk
 have hli:(listed.setIfInBounds i true).getD i false=true:=by
  have:=(Array.getElem?_eq_some_iff.1 hf).1;rw[Array.getD_eq_getD_getElem?,Array.getElem?_setIfInBounds];simp[this]
 have hlj:∀j,j≠i→(listed.setIfInBounds i true).getD j false=listed.getD j false:=fun j hj=>getD_set_ne false (Ne.symm hj)
 have hlf:listed.getD i false=false:=by rw[Array.getD_eq_getD_getElem?,hf];rfl
 refine⟨hp.base,hp.below.trans (p3.mono hB),by rw[gT];exact hp.defers,by rw[gS];exact hp.size,p4,fun id=>?_,fun j t hj hl hd=>?_,fun t ht=>?_,hp.fr.mono p1 (fun b hb hn hl=>by
  rcases p5 b hl with h1|h1
  ·exact hn h1
  ·omega) (fun b hb _=>p3.block b hb) (Nat.le_refl _)⟩
 ·rw[p2,hp.dom];constructor
  ·rintro ((h1|⟨j,h2,h3,h4⟩)|h1)
   ·exact .inl h1
   ·have hji:j≠i:=by rintro rfl;rw[hlf] at h3;cases h3
    exact .inr ⟨j,h2,by rw[hlj j hji];exact h3,h4⟩
   ·exact .inr ⟨i,hi,hli,h1⟩
  ·rintro (h1|⟨j,h2,h3,h4⟩)
   ·exact .inl (.inl h1)
   ·by_cases hji:j=i
    ·subst hji;exact .inr h4
    ·exact .inl (.inr ⟨j,h2,by rw[hlj j hji] at h3;exact h3,h4⟩)
 ·rw[lA hsd];by_cases hji:j=i
  ·subst hji;rw[hdi] at hd;rw[if_pos hd];exact p6
  ·rw[hlj j hji] at hl
   have:o.dst≠some t:=fun hot=>hc.once i o hi ho j hj hji t hot hd
   rw[if_neg this];exact hmono _ _ (hp.done j t hj hl hd)
 ·rw[lA hsd];have h1:=ht i hi hli;rw[hdi] at h1;rw[if_neg h1];refine hmono _ _ (hp.old t (fun j hj hl=>ht j hj ?_));by_cases hji:j=i
  ·subst hji;exact hli
  ·rw[hlj j hji];exact hl
theorem AK{T:Tr P ops nt (ops.toList.take k) e h n}(hk:k≤ops.size){B:Base}{m:Mm}{w:World}(hs:a9 B h m w)(hd:∀i,m.dom i↔i<n)(hid:∀id c,(id,c)∈h→id<n):∀i,i≤k→a9 B (T.hs i) m w∧LB m (T.hs i)=LB m h∧(∀id c,(id,c)∈T.hs i→id<T.ns i):=by
 have hlen:(ops.toList.take k).length=k:=by simp[hk]
 intro i
 induction i with
 |zero=>intro _;rw[T.h0,T.n0];exact⟨hs,rfl,hid⟩
 |succ i ih=>
  intro hi;obtain⟨h1,h2,h3⟩:=ih (by omega);have hst:=T.step i _ (List.getElem?_eq_getElem (by omega))
  have hn:n≤T.ns i:=by have:=T.gm (i:=0) (j:=i) (by omega) (by omega);rw[T.n0] at this;exact this
  obtain⟨h4,h5⟩:=rQ (T.Es i) (T.hs i) (T.ns i) h1 (fun j hj hdj=>by have:=(hd j).1 hdj;omega) h3;rw[hst.2.2.2.1];refine⟨h4,h5.trans h2,fun id c hin=>?_⟩;rw[hst.2.2.2.2.1]
  rcases (gU _ _ _ _ _).1 hin with h6|⟨q,h6,rfl⟩
  ·have:=h3 id c h6;omega
  ·have:=(List.getElem?_eq_some_iff.1 h6).1;omega
theorem AL{T:Tr P ops nt (ops.toList.take k) e h n}(hc:Chk ops k){B:Base}{w0:Ctx fk}{Q:Exit→Act→World→Prop}(hid:∀id c,(id,c)∈T.hs k→id<T.ns k)(hlast:∀(f:Nat)(listed:Array Bool)(a:Act)(w:World)(m:Mm),listed.size=ops.size→Closed ops listed→(∀j,j<ops.size→(listed.getD j false=true↔j<k))→open_ listed≤f→Sim B w0 ⟨T.es k,T.hs k,T.ns k,nt⟩ a w m→gi w0.r P .any ops Q f listed a w):∀(f:Nat)(listed:Array Bool)(a:Act)(w:World)(m:Mm),listed.size=ops.size→Closed ops listed→open_ listed≤f→(∀i,k≤i→i<ops.size→listed.getD i false=false)→cg P ops nt k e h n T B w0 listed a w m→gi w0.r P .any ops Q f listed a w:=by
 have hlen:(ops.toList.take k).length=k:=by simp[hc.le]
 have last:∀(f:Nat)(listed:Array Bool)(a:Act)(w:World)(m:Mm),listed.size=ops.size→Closed ops listed→open_ listed≤f→cg P ops nt k e h n T B w0 listed a w m→(∀i,i<k→listed.getD i false=true) →
  (∀i,k≤i→i<ops.size→listed.getD i false=false)→gi w0.r P .any ops Q f listed a w:=by
  intro f listed a w m hsz hcl hop hp hall hnone;refine hlast f listed a w m hsz hcl (fun j hj=>⟨fun h1=>?_,fun h1=>hall j h1⟩) hop ⟨hp.base,hp.below,hp.defers,hp.size,fun t=>?_,hp.heap,fun id=>?_,hid,hp.fr.mono (Mm.le.refl m) (fun _ _ h=>h) (fun _ _ _=>rfl) (by have:=T.gm (i:=0) (j:=k) (by omega) (by omega);rw[T.n0] at this;exact this)⟩
  ·rcases Nat.lt_or_ge j k with h2|h2
   ·exact h2
   ·rw[hnone j h2 hj] at h1;cases h1
  ·rcases T.Ew k (by omega) t with ⟨j,oj,h1,h2,h3,h4⟩|⟨h1,h2⟩
   ·obtain⟨hj,hoj⟩:=AJ h2;show au _ _ _ _ (get (T.es k) t) _;rw[h4];exact hp.done j t hj (hall j hj) (by simp[bT,hoj,h3])
   ·show au _ _ _ _ (get (T.es k) t) _;rw[h2];refine hp.old t (fun j hj _ hd=>?_)
    cases hoj:ops[j]? with
    |none=>simp[bT,hoj] at hd
    |some oj=>exact h1 j oj hj (rV hj hoj) (by simpa[bT,hoj] using hd)
  ·rw[hp.dom];show _↔id<T.ns k
   have hsteps:∀i,i≤k→(id<T.ns i↔id<n∨∃j,j<i∧T.ns j≤id∧id<T.ns j+(T.Es j).length):=by
    intro i
    induction i with
    |zero=>intro _;rw[T.n0];constructor
           ·exact .inl
           ·rintro (h|⟨j,h,_⟩)
            ·exact h
            ·omega
    |succ i ih=>
     intro hi;have hst:=(T.step i _ (List.getElem?_eq_getElem (by omega))).2.2.2.2.1;rw[hst];constructor
     ·intro h1
      rcases Nat.lt_or_ge id (T.ns i) with h2|h2
      ·rcases (ih (by omega)).1 h2 with h3|⟨j,h3,h4⟩
       ·exact .inl h3
       ·exact .inr ⟨j,by omega,h4⟩
      ·exact .inr ⟨i,by omega,h2,h1⟩
     ·rintro (h1|⟨j,h1,h2,h3⟩)
      ·have:=(ih (by omega)).2 (.inl h1);omega
      ·by_cases hji:j=i
       ·subst hji;exact h3
       ·have:=(ih (by omega)).2 (.inr ⟨j,by omega,h2,h3⟩);omega
   rw[hsteps k (Nat.le_refl _)];constructor
   ·rintro (h1|⟨j,h1,_,h3⟩)
    ·exact .inl h1
    ·exact .inr ⟨j,h1,h3⟩
   ·rintro (h1|⟨j,h1,h3⟩)
    ·exact .inl h1
    ·exact .inr ⟨j,h1,hall j h1,h3⟩
 intro f
 induction f with
 |zero=>
  intro listed a w m hsz hcl hop htail hp;have hz:=Nat.le_zero.1 hop
  have hks:k=ops.size:=by
   rcases Nat.lt_or_ge k ops.size with h1|h1
   ·have h2:=mN hz (i:=k) (by omega);rw[htail k (Nat.le_refl _) h1] at h2;cases h2
   ·have:=hc.le;omega
  exact last 0 listed a w m hsz hcl hop hp (fun i hi=>mN hz (by omega)) htail
 |succ f ih=>
  intro listed a w m hsz hcl hop htail hp;by_cases hall:∀i,i<k→listed.getD i false=true
  ·exact last (f+1) listed a w m hsz hcl hop hp hall htail
  ·obtain⟨i0,hi0⟩:=Classical.not_forall.1 hall;obtain⟨hi0k,hi0l⟩:=Classical.not_imp.1 hi0
   have hi0f:listed.getD i0 false=false:=by simpa using hi0l
   have hne:=nW hsz hc.down i0 (by have:=hc.le;omega) hi0f;refine⟨fun hnil=>absurd hnil hne,fun x hx=>?_⟩;obtain⟨o,ho,hf,he⟩:=jQ hsz hx;have hxs:=(Array.getElem?_eq_some_iff.1 ho).1
   have hxk:x<k:=by
    rcases Nat.lt_or_ge x k with h1|h1
    ·exact h1
    ·have:=jf hcl 8 x i0 o ho he (hc.wait x h1 hxs i0 hi0k);rw[hi0f] at this;cases this
   obtain⟨hdk,hw,_,_,_,hq1,hq2⟩:=T.step x o (rV hxk ho);unfold ia;rw[ho];simp only[wh hw (fun t ht=>hp.slot hc hcl hxk ho he ht)];intro w e1;replace hp:=hp.bel (EnvD.ext e1)
   have hB:B.n≤w.heap.size:=by have:=hp.below.size;have:=hp.base;omega
   have hO:ar.ok w:=ar.keep w0.ok (by have:=hp.below;rw[hp.base] at this;exact this)
   have hnext:∀v' w' m',fO B (T.hs k) m w (T.ns x) (T.Es x).length (T.vs x) v' w' m'→gi w0.r P .any ops Q f (listed.setIfInBounds x true) (a.put o.dst v') w':=by
    intro v' w' m' hpost;refine ih _ _ w' m' (by simpa using hsz) (hcl.set ho he) (by have:=mM hf;omega) (fun j hj hjs=>?_) (hp.next hc hxk ho hf hdk hpost);rw[getD_set_ne false (by omega)];exact htail j hj hjs
   cases hg:T.gs x with
   |true=>
    simp only[if_true];refine gu (Ev (hq1 hg)) ((hq1 hg).sound o hO hp.heap hB (fun id cs hl=>T.qE (i:=x) (by omega) (by omega) (dC hl)) (fun q cs hl=>?_) (fun q hq hd=>?_) (fun y hy=>?_) _ Q (fun v' w' m' hpost=>hnext v' w' m' hpost))
    ·refine T.qE (i:=x+1) (by omega) (by omega) ?_;rw[(T.step x o (rV hxk ho)).2.2.2.1];exact (gU _ _ _ _ _).2 (.inr ⟨q,hl,rfl⟩)
    ·have hnx:n≤T.ns x:=by have:=T.gm (i:=0) (j:=x) (by omega) (by omega);rw[T.n0] at this;exact this
     rcases (hp.dom _).1 hd with h1|⟨j,hj,hl,h2,h3⟩
     ·omega
     ·have hjx:j≠x:=by
       rintro rfl
       rw[Array.getD_eq_getD_getElem?,hf] at hl;cases hl
      have hsj:=(T.step j _ (List.getElem?_eq_getElem (by omega))).2.2.2.2.1;have hsx:=(T.step x _ (List.getElem?_eq_getElem (by omega))).2.2.2.2.1
      rcases Nat.lt_or_ge j x with h4|h4
      ·have:=T.gm (i:=j+1) (j:=x) (by omega) (by omega);omega
      ·have:=T.gm (i:=x+1) (j:=j) (by omega) (by omega);omega
    ·refine jb y (fun t e=>?_);subst e;exact hp.slot hc hcl hxk ho he (vZ hy)
   |false=>
    simp only[Bool.false_eq_true,if_false];obtain⟨h1,h2⟩:=hq2 hg;refine hnext undef w m ?_;rw[h1,h2];exact⟨Mm.le.refl m,fun i=>⟨.inl,fun h=>h.elim id fun h=>by simp at h;omega⟩,Bel.refl _ _,hp.heap,fun b hb=>.inl hb,.tup rfl (fun j p v hp=>by simp at hp)⟩
theorem AM{K:Exit→St→Prop}(k:Nat){id:Nat}{Kp:Env→aj→Nat→Prop}(hm:P.follows .mixedOrders=true)(hc:Chk ops k)(hk:dF P ops nt (ops.toList.take k) e h n Kp)(hlast:∀(B:Base)(w0:Ctx fk)(e':Env)(h':aj)(n':Nat),Kp e' h' n'→∀(f:Nat)(listed:Array Bool)(a:Act)(w:World)(m:Mm),listed.size=ops.size→Closed ops listed→(∀j,j<ops.size→(listed.getD j false=true↔j<k))→open_ listed≤f→Sim B w0 ⟨e',h',n',nt⟩ a w m→gi w0.r P .any ops (fun e a w=>∃st' m',K e st'∧Sim B w0 st' a w m') f listed a w):aY fk P (.region id ops true) ⟨e,h,n,nt⟩ K:=by
 intro B w0 a w m hs;obtain⟨T,hK⟩:=vW _ _ _ _ hk
 have hlen:(ops.toList.take k).length=k:=by simp[hc.le]
 rw[hlen] at hK
 refine vj hm fun w e1=>?_
 replace hs:=hs.move e1
 have hs':Sim B w0 ⟨e,h,n,nt⟩ a { w with drawn:=w.drawn+1 } m:=by
  have hb:Bel w.heap.size w { w with drawn:=w.drawn+1 }:=(Bel.refl _ _).drew;have hB:=hs.room;exact⟨hs.base,hs.below.trans (hb.mono hB),hs.defers,hs.size,fun t=>(hs.env t).mono (Mm.le.refl m) (fun _ _ h=>h) (fun b hb' _=>hb.block b hb'),hs.heap.below hb,hs.dom,hs.ids,hs.fr.mono (Mm.le.refl m) (fun _ _ h=>h) (fun b hb' _=>hb.block b hb') (Nat.le_refl _)⟩
 obtain⟨h1,h2,h3⟩:=AK (T:=T) hc.le hs'.heap hs'.dom hs'.ids k (Nat.le_refl _)
 have hf:∀i,(Array.replicate ops.size false).getD i false=false:=by
  intro i;rw[Array.getD_eq_getD_getElem?,Array.getElem?_replicate]
  split<;>rfl
 refine AL (T:=T) hc h3 (fun f listed a w m=>hlast B w0 _ _ _ hK f listed a w m) ops.size _ a _ m (by simp) (fun i o ho hl=>by rw[hf] at hl;cases hl) ?_ (fun i _ _=>hf i) ⟨hs'.base,hs'.below,hs'.defers,hs'.size,h1,fun id=>?_,(fun i t hi hl=>by rw[hf] at hl;cases hl),fun t _=>?_,by rw[h2];exact hs'.fr⟩
 ·unfold open_;refine Nat.le_trans List.countP_le_length ?_;simp
 ·rw[hs'.dom];constructor
  ·exact .inl
  ·rintro (h|⟨i,_,hl,_⟩)
   ·exact h
   ·rw[hf] at hl;cases hl
 ·rw[h2];exact hs'.env t
theorem aK{K:Exit→St→Prop}(k:Nat){id:Nat}(hm:P.follows .mixedOrders=true)(hchk:qD ops k=true)(hk:dF P ops nt (ops.toList.take k) e h n fun e' h' n'=>bu P ops nt (ops.toList.drop k) e' h' n' fun e'' h'' n''=>K .normal ⟨e'',h'',n'',nt⟩):aY fk P (.region id ops true) ⟨e,h,n,nt⟩ K:=by
 obtain⟨hc,hseq⟩:=vY hchk;refine AM k hm hc hk (fun B w0 e' h' n' hK f listed a w m hsz hcl hl hop hs=>?_);exact rU (Kr:=fun e'' h'' n''=>K .normal ⟨e'',h'',n'',nt⟩) (fun e' h' n' a' w' m' hk' hsim=>⟨_,m',hk',hsim⟩) hc.down hseq f k listed _ _ _ a w m (Nat.le_refl _) hc.le hsz hcl hl hop hK hs
end
end Go.Fi
namespace Go.Fi
open Go Go.RowKit
variable[ar]
def eQ(P:Program)(env:Env)(h:aj):ResultVar→Option (AV×Prop)
 |.tmp t=>some (get env t,True)
 |.cell ad t=>match aOp P h 0 (ev env) (.load t (.tmp ad)) with
  |some (c,v,_)=>some (v,c)
  |none=>none
def dp(P:Program)(env:Env)(h:aj):List ResultVar→Option (List AV×Prop)
 |[]=>some ([],True)
 |r::rs=>match eQ P env h r with
  |some (v,c)=>match dp P env h rs with
   |some (vs,d)=>some (v::vs,c∧d)
   |none=>none
  |none=>none
def oneOf:List AV→AV
 |[v]=>v
 |vs=>.tup vs
def k8(P:Program)(rs:List ResultVar)(st:St)(res:PV)(fr:Bool):Prop:=
 match dp P st.env st.heap rs with
 |some (vs,c)=>c∧frz st.heap 6 (oneOf vs)=some res∧(fr=true→db st.heap 6 (oneOf vs)=true)
 |none=>False
def fS:Nat→List PV→Env
 |_,[]=>[]
 |i,p::r=>(i,.w false false p)::fS (i+1) r
def oZ(P:Program)(rs:List ResultVar)(res:PV)(fr:Bool):Exit→St→Prop
 |.normal,s=>k8 P rs s res fr
 |.ret,s=>k8 P rs s res fr
 |_,_=>False
section
variable{fk:Fk}{P:Program}{K:Exit→St→Prop}{st st':St}
omit [ar] in
theorem tq:∀(l:List PV)(i t:Nat),get (fS i l) t=if i≤t∧t<i+l.length then .w false false (l.getD (t-i) .undef) else .w false false .undef
 |[],i,t=>by simp[fS,get]
 |p::r,i,t=>by
  simp only[fS,get];by_cases h:i=t
  ·subst h;simp
  ·simp only[h,if_false];rw[tq r (i+1) t];simp only[List.length_cons];by_cases h2:i+1≤t∧t<i+1+r.length
   ·rw[if_pos h2,if_pos (by omega)]
    have:t-i=(t-(i+1))+1:=by omega
    rw[this];simp
   ·rw[if_neg h2,if_neg (by omega)]
def mq(tmps:Array Value):ResultVar→Sem Value
 |.tmp t=>pure (tmps.getD t undef)
 |.cell a t=>do loadVar t (←asAddr (tmps.getD a undef))
theorem om{B:Base}{w0:Ctx fk}{a:Act}{w:World}{m:Mm}(hs:Sim B w0 st a w m):∀(rs:List ResultVar)(vs:List AV)(c:Prop),dp P st.env st.heap rs=some (vs,c)→c→∃us:List Value,(rs.mapM (mq a.tmps)).run P w=.ok us w∧vs.length=us.length∧∀(j:Nat)(p:AV)(u:Value),vs[j]?=some p→us[j]?=some u→au B (LB m st.heap) m w p u
 |[],vs,c,h,_=>by
  simp only[dp,Option.some.injEq,Prod.mk.injEq] at h;obtain⟨rfl,_⟩:=h;exact⟨[],rfl,rfl,fun j p u hp=>by simp at hp⟩
 |r::rs,vs,c,h,hc=>by
  simp only[dp] at h;split at h
  ·rename_i v d hr;split at h
   ·rename_i vs' d' hrs;simp only[Option.some.injEq,Prod.mk.injEq] at h;obtain⟨rfl,rfl⟩:=h;obtain⟨us,h1,h2,h3⟩:=om hs rs vs' d' hrs hc.2
    have hone:∃u,(mq a.tmps r).run P w=.ok u w∧au B (LB m st.heap) m w v u:=by
     cases r with
     |tmp t=>
      simp only[eQ,Option.some.injEq,Prod.mk.injEq] at hr;obtain⟨rfl,_⟩:=hr;exact⟨_,rfl,hs.env t⟩
     |cell ad t=>
      simp only[eQ] at hr;split at hr
      ·rename_i c0 v0 E0 h0;simp only[Option.some.injEq,Prod.mk.injEq] at hr;obtain⟨rfl,rfl⟩:=hr;have hx:au B (LB m st.heap) m w (ev st.env (.tmp ad)) (a.eval (.tmp ad)):=hs.env ad;obtain⟨_,u,hu,hrep⟩:=z9 (P:=P) t (.tmp ad) { (default:Oper) with op:=.load t (.tmp ad)} rfl h0 hc.1 hs.heap (fun id cs e=>dC e) hx;refine⟨u,?_,hrep⟩
       have hp:∃pa,a.tmps.getD ad undef=.pointer (some pa):=by
        have hx':au B (LB m st.heap) m w (get st.env ad) (a.tmps.getD ad undef):=hs.env ad;simp only[aOp] at h0;split at h0
        ·split at h0
         ·rename_i id ver off e;rw[show ev st.env (.tmp ad)=get st.env ad from rfl] at e;rw[e] at hx';obtain⟨b,C,hv,_⟩:=hx'.lT;exact⟨_,hv⟩
         ·rename_i own f cells off e;rw[show ev st.env (.tmp ad)=get st.env ad from rfl] at e;rw[e] at hx';obtain⟨b,o',vals,hv,_⟩:=hx'.nk;exact⟨_,hv⟩
         ·cases h0
        ·cases h0
       obtain⟨pa,hpa⟩:=hp;have he:a.eval (.tmp ad)=.pointer (some pa):=hpa;simp only[execOp,he,Instr.loadAt,Instr.sureAddr,Sem.run_bind,Sem.run_pure,Result.andThen_ok] at hu;simp only[mq,hpa,asAddr,Sem.run_bind,Sem.run_pure,Result.andThen_ok]
       cases hl:(loadVar t pa).run P w with
       |ok x w1=>rw[hl] at hu;simp only[Result.andThen_ok,Result.ok.injEq,Next.value.injEq] at hu;rw[hu.1,hu.2]
       |halt x w1=>rw[hl] at hu;simp at hu
      ·cases hr
    obtain⟨u,hu,hur⟩:=hone;refine⟨u::us,?_,by simp[h2],fun j p q hp hq=>?_⟩
    ·simp only[List.mapM_cons,Sem.run_bind,hu,h1,Result.andThen_ok,Sem.run_pure]
    ·cases j with
     |zero=>simp at hp hq;subst hp;subst hq;exact hur
     |succ j=>exact h3 j p q (by simpa using hp) (by simpa using hq)
   ·cases h
  ·cases h
def nH(P:Program)(fn:Func)(c:Code)(args:List PV)(res:PV)(fr:Bool):Prop:=
 ∀(G:Nat→Prop)(w:World)(vs:Array Value),ar.ok w→args.length=vs.size→(∀(j:Nat)(p:PV)(v:Value),args[j]?=some p→vs[j]?=some v→Rep G w p v) →
  c.wpT none P (bodyPost P fn fun e w'=>∃v,e=.returned v∧Bel w.heap.size w w'∧Rep (fun b=>(b<w.heap.size→G b)∧(fr=true→w.heap.size≤b)) w' res v) { tmps:=vs++Array.replicate (fn.ntmps-vs.size) undef,defers:=[] } w
theorem oo{fn:Func}{c:Code}{args:List PV}{res:PV}{fr:Bool}(hnt:args.length≤fn.ntmps)(h:aY fk0 P c ⟨fS 0 args,[],0,fn.ntmps⟩ (oZ P fn.results.toList res fr)):nH P fn c args res fr:=by
 refine fun G w vs hok hlen hrep=>?_
 have hsim:Sim ⟨w.heap.size,G⟩ (⟨w,[],none,[],[],fun ri h=>(by cases h),hok⟩:Ctx fk0) ⟨fS 0 args,[],0,fn.ntmps⟩ { tmps:=vs++Array.replicate (fn.ntmps-vs.size) undef,defers:=[] } w ⟨fun _ _=>none,fun _=>0,fun _=>False⟩:=by
  refine⟨rfl,Bel.refl _ _,rfl,by simp;omega,fun t=>?_,⟨fun id cells hin=>(by cases hin),List.Pairwise.nil⟩,fun i=>⟨fun h=>h.elim,fun h=>absurd h (Nat.not_lt_zero i)⟩,fun id c hin=>(by cases hin),Nat.zero_le _,(fun p hp=>by cases hp),fun q hq=>by cases hq⟩;show au _ _ _ _ (get (fS 0 args) t) _;rw[tq];split
  ·rename_i ht
   have hlt:t<args.length:=by omega
   refine .w ?_ (fun h=>by cases h)
   have:(vs++Array.replicate (fn.ntmps-vs.size) undef).getD t undef=vs[t]'(by omega):=by
    rw[Array.getD_eq_getD_getElem?,Array.getElem?_append_left (by omega),Array.getElem?_eq_getElem (by omega)];rfl
   rw[this]
   refine (hrep t _ _ (by simpa using getD_some hlt) (Array.getElem?_eq_getElem (by omega))).imp fun b hg=>⟨?_,(fun h=>by cases h),fun _=>hg⟩
   rintro⟨id,cells,C,hin,_⟩
   cases hin
  ·exact .w (.undef _) (fun h=>by cases h)
 refine cJ (h _ _ _ _ _ hsim) (fun e a' w' ⟨st',m',hk,hs⟩=>?_)
 have main:k8 P fn.results.toList st' res fr→a'.defers=[]∧∀w1,EnvD.E w' w1→∃v,(results fn a'.tmps).run P w1=.ok v w1∧∃v',Ending.returned v=.returned v'∧Bel w.heap.size w w1∧Rep (fun b=>(b<w.heap.size→G b)∧(fr=true→w.heap.size≤b)) w1 res v':=by
  intro hr;refine⟨hs.defers,fun w' e1=>?_⟩;replace hs:=hs.move e1;unfold k8 at hr;split at hr
  ·rename_i vs' d hres;obtain⟨hd,hfz,hfr⟩:=hr;obtain⟨us,h1,h2,h3⟩:=om hs _ _ _ hres hd
   have hrun:(results fn a'.tmps).run P w'=.ok (if h:us.toArray.size=1 then us.toArray[0] else .tuple us.toArray) w':=by
    have he:results fn a'.tmps=(do
     let vs ←fn.results.mapM (mq a'.tmps)
     pure (if h:vs.size=1 then vs[0] else .tuple vs)):=rfl
    rw[he,Array.mapM_eq_mapM_toList];simp only[Sem.run_bind,Sem.run_map,h1,Result.andThen_ok,Sem.run_pure]
   have hone:au ⟨w.heap.size,G⟩ (LB m' st'.heap) m' w' (oneOf vs') (if h:us.toArray.size=1 then us.toArray[0] else .tuple us.toArray):=by
    have tupc:vs'.length≠1→au ⟨w.heap.size,G⟩ (LB m' st'.heap) m' w' (.tup vs') (if h:us.toArray.size=1 then us.toArray[0] else .tuple us.toArray):=by
     intro hne;rw[dif_neg (by simp;omega)];exact .tup (by simpa using h2) (fun j p u hp hu=>h3 j p u hp (by simpa using hu))
    match vs',h2,h3,tupc with
    |[],h2,h3,tupc=>exact tupc (by simp)
    |[v],h2,h3,tupc=>
     obtain⟨u,rfl⟩:∃u,us=[u]:=List.length_eq_one_iff.1 (by simpa using h2.symm);exact h3 0 v u rfl rfl
    |v::v2::r,h2,h3,tupc=>exact tupc (by simp)
   refine⟨_,hrun,_,rfl,hs.below,?_⟩;exact jN (B:=⟨w.heap.size,G⟩) hs.heap (fun id cs e=>dC e) fr (fun b hb=>⟨fun hl=>by simp only at hb;omega,fun _=>hb⟩) (fun hf b hg=>⟨hg.2.2,fun h=>by rw[hf] at h;cases h⟩) 6 _ _ _ hfz hfr hone
  ·exact hr.elim
 cases e<;>first|exact main hk|exact hk.elim
theorem JY{f:FuncId}{fn:Func}{c:Code}{args:List PV}{res:PV}{fr:Bool}(hf:P.funcs[f]?=some fn) (hname:(fn.name == "runtime.NumGoroutine")=false) (hb:fn.body=some c) (hnt:args.length≤fn.ntmps) (h:aY fk0 P c ⟨fS 0 args,[],0,fn.ntmps⟩ (oZ P fn.results.toList res fr)):aA P f args res fr:=
 ⟨⟨fn,hf,hname,by rw[hb];rfl⟩,fun G w vs hok hlen hrep=>rh hf hb (oo hnt h G w vs hok hlen hrep)⟩
theorem rcK{f:FuncId}{fn:Func}{c:Code}{args:List PV}{res:PV}{fr:Bool}(hf:P.funcs[f]?=some fn)(h:aY fk0 P c ⟨fS 0 args,[],0,fn.ntmps⟩ (oZ P fn.results.toList res fr)) (hname:(fn.name == "runtime.NumGoroutine")=false:=by kernel_rfl) (hb:fn.body=some c:=by rfl) (hnt:args.length≤fn.ntmps:=by exact Nat.le_of_ble_eq_true (by kernel_rfl)):aA P f args res fr:=
 JY hf hname hb hnt h
def o6:AV→AV→Prop
 |.w o f p,.w o' f' p'=>(o'=true→o=true)∧(f'=true→f=true)∧(p'=p∨p'=.undef∧f'=false)
 |a,b=>a=b
def o7(env:Env)(n:Nat):Env→Prop
 |[]=>True
 |(t,v)::r=>o6 (get env t) v∧v.lt n=true∧o7 env n r
def nI(h:aj)(n:Nat):aj→Prop
 |[]=>True
 |(i,c)::r=>aV h i=some c∧i<n∧AV.lt.ltL n c=true∧aV r i=none∧nI h n r
section
omit [ar]
theorem CC{B:Base}{L:Nat→Prop}{m:Mm}{w:World}{x y:AV}{v:Value}(hxy:o6 x y)(h:au B L m w x v):au B L m w y v:=by
 unfold o6 at hxy;split at hxy
 ·obtain⟨h1,h2,h3⟩:=hxy
  cases h with
  |w hr hf=>
   rcases h3 with rfl|⟨rfl,h4⟩
   ·exact .w (hr.imp fun b hg=>⟨hg.1,fun e=>hg.2.1 (h1 e),hg.2.2⟩) (fun e=>hf (h2 e))
   ·exact .w (.undef _) (fun e=>by rw[h4] at e;cases e)
 ·rw[←hxy];exact h
theorem CE{n:Nat}:∀{env' env:Env},o7 env n env'→∀t,(o6 (get env t) (get env' t)∧(get env' t).lt n=true)∨get env' t=.w false false .undef
 |[],env,_,t=>.inr rfl
 |(k,v)::r,env,h,t=>by
  obtain⟨h1,h2,h3⟩:=h;simp only[get];split
  ·rename_i e;subst e;exact .inl ⟨h1,h2⟩
  ·exact CE h3 t
theorem ou{n:Nat}{h:aj}:∀{h':aj},nI h n h'→∀i c,(i,c)∈h'→aV h i=some c∧i<n∧AV.lt.ltL n c=true
 |[],_,i,c,hin=>by cases hin
 |(k,v)::r,hh,i,c,hin=>by
  obtain⟨h1,h2,h3,h4,h5⟩:=hh
  rcases List.mem_cons.1 hin with e|e
  ·injection e with e1 e2;subst e1;subst e2;exact⟨h1,h2,h3⟩
  ·exact ou h5 i c e
theorem xT:∀{h:aj}{i:Nat},aV h i=none→∀p∈h,p.1≠i
 |[],i,_,p,hp=>by cases hp
 |(k,v)::r,i,hh,p,hp=>by
  simp only[aV] at hh;split at hh
  ·cases hh
  ·rename_i hk
   rcases List.mem_cons.1 hp with e|e
   ·subst e;exact hk
   ·exact xT hh p e
theorem CG{n:Nat}{h:aj}:∀{h':aj},nI h n h'→h'.Pairwise fun p q=>p.1≠q.1
 |[],_=>List.Pairwise.nil
 |(k,v)::r,hh=>by
  obtain⟨h1,h2,h3,h4,h5⟩:=hh;exact List.pairwise_cons.2 ⟨fun q hq e=>xT h4 q hq e.symm,CG h5⟩
end
theorem aB{env env':Env}{h h':aj}{n n' nt:Nat}(h1:o7 env n' env')(h2:nI h n' h')(hk:fk.k≤n':=by first|exact Nat.zero_le _|omega|(simp;done)):Lek fk ⟨env,h,n,nt⟩ ⟨env',h',n',nt⟩:=by
 intro B w0 a w m hs
 have hL:∀b,LB { m with dom:=fun i=>i<n' } h' b→LB m h b:=by
  rintro b ⟨id,c,C,hin,_,ha⟩
  obtain⟨g1,_,_⟩:=ou h2 id c hin;have hm:=dC g1;exact⟨id,c,C,hm,(hs.dom id).2 (hs.ids id c hm),ha⟩
 refine⟨{ m with dom:=fun i=>i<n' },hs.base,hs.below,hs.defers,hs.size,fun t=>?_,⟨fun id c hin hd=>?_,?_⟩,fun i=>Iff.rfl,fun id c hin=>(ou h2 id c hin).2.1,hk,fun p hp=>⟨(hs.fr.2.1 p hp).1,(hs.fr.2.1 p hp).2.yK (AV.oI hk (hs.fr.2.1 p hp).1) hL⟩,fun q hq=>let ⟨o1,o2,o3,o4⟩:=hs.fr.2.2 q hq;⟨o1,o2,fun h=>o3 (hL _ h),o4⟩⟩
 ·show au _ _ _ _ (get env' t) _
  rcases CE h1 t with ⟨g1,g2⟩|g1
  ·exact (CC g1 (hs.env t)).yK g2 hL
  ·rw[g1];exact .w (.undef _) (fun e=>by cases e)
 ·obtain⟨g1,_,g3⟩:=ou h2 id c hin;have hm:=dC g1;obtain⟨ht,hen⟩:=hs.heap.entry id c hm ((hs.dom id).2 (hs.ids id c hm));refine⟨ht,?_⟩
  rcases hen with hen|⟨b,C,cs,e,e1,e2,e3,e4,e5,e6⟩|hen
  ·exact .inl hen
  ·exact .inr (.inl ⟨b,C,cs,e,e1,e2,e3,e4,e5,fun j p v hp hv=>(e6 j p v hp hv).yK (ll g3 j p hp) hL⟩)
  ·exact .inr (.inr hen)
 ·have hk:=CG h2;refine List.Pairwise.imp_of_mem ?_ hk;intro x y hx hy hne;refine⟨hne,fun b C C' _ _ hax hay=>?_⟩;have mx:=dC (ou h2 x.1 x.2 hx).1;have my:=dC (ou h2 y.1 y.2 hy).1;have:=hs.heap.inj;rw[List.pairwise_iff_getElem] at this;obtain⟨p,hp,ep⟩:=List.getElem_of_mem mx;obtain⟨q,hq,eq⟩:=List.getElem_of_mem my;have dx:m.dom x.1:=(hs.dom _).2 (hs.ids _ _ mx);have dy:m.dom y.1:=(hs.dom _).2 (hs.ids _ _ my)
  rcases Nat.lt_trichotomy p q with hpq|hpq|hpq
  ·have:=(this p q hp hq hpq).2 b C C';rw[ep,eq] at this;exact this dx dy hax hay
  ·subst hpq;rw[ep] at eq
   injection eq with e1 _
   exact hne e1
  ·have:=(this q p hq hp hpq).2 b C' C;rw[ep,eq] at this;exact this dy dx hay hax
theorem Lek.refl(st:St):Lek fk st st:=fun _ _ _ _ m hs=>⟨m,hs⟩
theorem Lek.trans{a b c:St}(h:Lek fk a b)(k:Lek fk b c):Lek fk a c:=fun B w0 x w m hs=>let ⟨m',hs'⟩:=h B w0 x w m hs;k B w0 x w m' hs'
end
end Go.Fi
