/- Lemmas. -/
import Derived.Test.YthpkmilhiganjaaGreatPLd
set_option linter.unusedSimpArgs false
set_option linter.unusedVariables false
set_option linter.unusedSectionVars false
set_option maxHeartbeats 32000000
set_option maxRecDepth 100000
namespace Go.Fi
open Go Go.RowKit
variable[ar]
variable{fk:Fk}
inductive HS where
 |new (k:Nat)
 |slot (t:Nat)
 |fld (t:Nat) (s:TypeId) (f:Nat)
 |all
 deriving DecidableEq,Inhabited
def nK:AV→Nat
 |.ptr id _ _=>id
 |.msl id _ _ _ _=>id
 |.mp id=>id
 |_=>1000000007
def idF(h:aj)(v:AV)(o:Option (Nat×Nat×Bool)):Nat:=
 match v,o with
 |.ptr id _ off,some (o,_,_)=>match aV h id with
  |some c=>nK (iN c (off+o))
  |none=>1000000007
 |_,_=>1000000007
def nL(P:Program)(e:Env)(h:aj)(n:Nat):HS→Nat
 |.new k=>n+k
 |.slot t=>nK (get e t)
 |.fld t s f=>idF h (get e t) (fOf P s f)
 |.all=>1000000007
def Pn(P:Program)(e:Env)(h:aj)(n:Nat):HS→List Nat
 |.all=>List.range n
 |s=>[nL P e h n s]
def dq(P:Program)(e:Env)(h:aj)(n:Nat)(l:List HS):List Nat:=l.flatMap (Pn P e h n)
def eT(D:List Nat):aj→aj
 |[]=>[]
 |(k,v)::r=>if k∈D then eT D r else (k,v)::eT D r
def iX(D:List Nat):Nat→List (List AV)→Prop
 |_,[]=>True
 |n,_::E=>¬n∈D∧iX D (n+1) E
omit [ar] in
theorem xZ{D:List Nat}:∀{h:aj}{id:Nat}{c:List AV},aV (eT D h) id=some c→(id,c)∈h∧¬id∈D
 |[],id,c,e=>by cases e
 |(k,v)::r,id,c,e=>by
  simp only[eT] at e;split at e
  ·obtain⟨h1,h2⟩:=xZ e;exact⟨List.mem_cons_of_mem _ h1,h2⟩
  ·rename_i hk;simp only[aV] at e;split at e
   ·rename_i h;subst h;injection e with e;subst e
    exact⟨List.mem_cons_self,hk⟩
   ·obtain⟨h1,h2⟩:=xZ e;exact⟨List.mem_cons_of_mem _ h1,h2⟩
omit [ar] in
theorem CM{D:List Nat}:∀{E:List (List AV)}{n k:Nat},iX D n E→k<E.length→¬n+k∈D
 |[],n,k,_,hk=>by simp at hk
 |_::E,n,0,h,_=>h.1
 |_::E,n,k+1,h,hk=>by
  have:=CM (k:=k) h.2 (by simpa using hk)
  rwa [show n+1+k=n+(k+1) by omega] at this
def o8(env:Env)(args:List Operand)(D:List Nat):Prop:=
 match args with
 |x::_=>match ev env x with
  |.msl id _ _ _ _=>id∈D
  |_=>True
 |[]=>True
def uC(v:AV)(D:List Nat):Prop:=
 match v with
 |.ptr id _ _=>id∈D
 |_=>False
def uD(v:AV)(D:List Nat):Prop:=
 match v with
 |.mp id=>id∈D
 |_=>False
def touch(env:Env)(op:Op)(D:List Nat):Prop:=
 match op with
 |.store _ ad _=>uC (ev env ad) D
 |.call { callee:=.builtin .append,args:=args,argTypes:=_ }=>o8 env args.toList D
 |.call { callee:=.builtin .copy,args:=args,argTypes:=_ }=>o8 env args.toList D
 |.mapUpdate _ mo _ _=>uD (ev env mo) D
 |_=>True
def EF(P:Program)(env:Env)(h:aj)(n:Nat)(op:Op)(v:AV)(h':aj)(n':Nat):Prop:=bn P env h n op fun v1 h1 n1=>v1=v∧h1=h'∧n1=n'
section
variable{P:Program}{env:Env}{h:aj}{n:Nat}
theorem QF.q{op:Op}{v:AV}{E:List (List AV)}{K:AV→List (List AV)→Prop}(hq:QF P env h n op v E)(hk:K v E):bm P env h n op K:=by
 rcases hq with ⟨c,h0,hc⟩|⟨f,args,tys,g,aE,pvs,res,fr,rfl,hf,hp,⟨hr,hfr,rfl,rfl⟩|⟨E0,v0,hr,rfl,rfl⟩⟩
 ·unfold bm;split
  ·simp[aOp] at h0
  ·rw[h0];exact⟨hc,hk⟩
 ·simp only[bm,hf,oG,hp];exact .inl ⟨res,fr,hr,hfr,hk⟩
 ·simp only[bm,hf,oG,hp];exact .inr ⟨E0,v0,hr,hk⟩
theorem bn.ef{op:Op}{K:AV→aj→Nat→Prop}(he:bn P env h n op K):∃v h' n',EF P env h n op v h' n'∧K v h' n':=by
 have quiet:∀op,bm P env h n op (fun v E=>K v (ba h n E) (n+E.length))→∃v h' n',bm P env h n op (fun v1 E=>v1=v∧ba h n E=h'∧n+E.length=n')∧K v h' n':=by
  intro op hq;obtain⟨v,E,hq,hk⟩:=hq.qf;exact⟨v,_,_,hq.q ⟨rfl,rfl,rfl⟩,hk⟩
 unfold bn at he;unfold EF bn;split at he
 ·unfold j6 at he ⊢;split at he
  ·split at he
   ·rename_i e;simp only[e];exact⟨_,_,_,⟨he.1,rfl,rfl,rfl⟩,he.2⟩
   ·exact he.elim
  ·exact he.elim
 ·unfold j5 at he ⊢;split at he
  ·split at he
   ·split at he
    ·split at he
     ·split at he
      ·rename_i e;simp only[e];exact⟨_,_,_,⟨he.1,rfl,rfl,rfl⟩,he.2⟩
      ·exact he.elim
     ·rename_i own k cells es
      cases hcond:(own&&decide (k=0)&&cells.isEmpty) with
      |true=>
       rw[hcond] at he;simp only[cond_true] at he ⊢;exact⟨_,_,_,⟨he.1,rfl,rfl,rfl⟩,he.2⟩
      |false=>
       rw[hcond] at he;simp only[cond_false] at he ⊢;split at he
       ·exact⟨_,_,_,⟨he.1,rfl,rfl,rfl⟩,he.2⟩
       ·exact he.elim
     ·exact he.elim
    ·exact he.elim
   ·exact he.elim
  ·exact he.elim
 ·unfold j7 at he ⊢;split at he
  ·rename_i e;simp only[e];exact⟨_,_,_,⟨he.1,rfl,rfl,rfl⟩,he.2⟩
  ·exact he.elim
 ·unfold nq at he ⊢;split at he
  ·exact⟨_,_,_,⟨he.1,rfl,rfl,rfl⟩,he.2⟩
  ·rename_i hne;obtain⟨v,h',n',h1,h2⟩:=quiet _ he;exact⟨v,h',n',h1,h2⟩
 ·exact⟨_,_,_,⟨he.1,rfl,rfl,rfl⟩,he.2⟩
 ·unfold j8 at he ⊢;split at he
  ·split at he
   ·rename_i e1 e2 e3 e4;simp only[e1,e2,e3,e4];exact⟨_,_,_,⟨he.1,rfl,rfl,rfl⟩,he.2⟩
   ·exact he.elim
  ·exact he.elim
 ·exact quiet _ he
omit [ar] in
theorem p9{id i:Nat}{x c:List AV}(hne:i≠id):∀{h:aj},(i,c)∈h→(i,c)∈br h id x
 |[],hin=>by cases hin
 |(k,v)::r,hin=>by
  simp only[br];split
  ·rename_i hk
   rcases List.mem_cons.1 hin with e|e
   ·injection e with e1 _;omega
   ·exact List.mem_cons_of_mem _ e
  ·rcases List.mem_cons.1 hin with e|e
   ·rw[e];exact List.mem_cons_self
   ·exact List.mem_cons_of_mem _ (p9 hne e)
theorem EF.keep{op:Op}{v:AV}{h':aj}{n':Nat}{D:List Nat}(he:EF P env h n op v h' n')(ht:touch env op D){i:Nat}{c:List AV}(hin:(i,c)∈h)(hD:¬i∈D):(i,c)∈h':=by
 have quiet:∀op,bm P env h n op (fun v1 E=>v1=v∧ba h n E=h'∧n+E.length=n')→(i,c)∈h':=by
  intro op hq;obtain⟨_,E,_,_,hk,_⟩:=hq.qf;rw[←hk];exact (gU E h n i c).2 (.inl hin)
 unfold EF bn at he;split at he
 ·unfold j6 at he;split at he
  ·rename_i had;split at he
   ·obtain⟨_,_,h2,_⟩:=he;rw[←h2];simp only[touch,uC,had] at ht;exact p9 (fun e=>hD (by rw[e];exact ht)) hin
   ·exact he.elim
  ·exact he.elim
 ·unfold j5 at he;split at he
  ·rename_i hargs htys;split at he
   ·split at he
    ·split at he
     ·rename_i es;split at he
      ·obtain⟨_,_,h2,_⟩:=he;rw[←h2];simp only[touch,hargs,o8,es] at ht;exact p9 (fun e=>hD (by rw[e];exact ht)) hin
      ·exact he.elim
     ·rename_i own k cells es
      cases hcond:(own&&decide (k=0)&&cells.isEmpty) with
      |true=>
       rw[hcond] at he;simp only[cond_true] at he;obtain⟨_,_,h2,_⟩:=he;rw[←h2];exact List.mem_cons_of_mem _ hin
      |false=>
       rw[hcond] at he;simp only[cond_false] at he;split at he
       ·obtain⟨_,_,h2,_⟩:=he;rw[←h2];exact hin
       ·exact he.elim
     ·exact he.elim
    ·exact he.elim
   ·exact he.elim
  ·exact he.elim
 ·rename_i args tys;unfold j7 oH at he
  match hargs:args.toList,htys:tys.toList with
  |[d,x],t::ts=>
   rw[hargs,htys] at he;simp only[List.map_cons,List.map_nil] at he
   cases hr:lX P h t (ev env d) (ev env x) with
   |none=>rw[hr] at he;exact he.elim
   |some y=>
    obtain⟨c1,v1,h1⟩:=y;rw[hr] at he;obtain⟨_,_,h2,_⟩:=he;unfold lX at hr;split at hr
    ·rename_i hd;split at hr
     ·simp only[Option.some.injEq,Prod.mk.injEq] at hr;obtain⟨_,_,rfl⟩:=hr;rw[←h2];simp only[touch,hargs,o8,hd] at ht;exact p9 (fun e=>hD (by rw[e];exact ht)) hin
     ·cases hr
    ·cases hr
  |[],_=>rw[hargs] at he;exact he.elim
  |[_],_=>rw[hargs] at he;exact he.elim
  |_::_::_::_,_=>rw[hargs] at he;exact he.elim
  |[_,_],[]=>rw[hargs,htys] at he;exact he.elim
 ·unfold nq at he;split at he
  ·obtain⟨_,_,h2,_⟩:=he;rw[←h2];exact hin
  ·exact quiet _ he
 ·obtain⟨_,_,h2,_⟩:=he;rw[←h2];exact List.mem_cons_of_mem _ hin
 ·unfold j8 at he;split at he
  ·rename_i hm;split at he
   ·obtain⟨_,_,h2,_⟩:=he;rw[←h2];simp only[touch,uD,hm] at ht;exact p9 (fun e=>hD (by rw[e];exact ht)) hin
   ·exact he.elim
  ·exact he.elim
 ·exact quiet _ he
end
section
variable{P:Program}{ops:Array Oper}{nt:Nat}{e0:Env}{h0:aj}{n0:Nat}
def fX(P:Program)(ops:Array Oper)(nt:Nat)(e0:Env)(h0:aj)(n0:Nat):List (Oper×List HS)→Env→aj→Nat→(Env→aj→Nat→Prop)→Prop
 |[],e,h,n,K=>K e h n
 |(o,d)::os,e,h,n,K=>
  match dw ops e o with
  |some g=>dOk nt o.dst∧(g=true→bm P e (eT (dq P e0 h0 n0 d) h) n o.op fun v E=>iX (dq P e0 h0 n0 d) n E∧fX P ops nt e0 h0 n0 os (put e o.dst v) (ba h n E) (n+E.length) K) ∧
    (g=false→fX P ops nt e0 h0 n0 os (put e o.dst (.tup [])) h n K)
  |none=>False
def iE(P:Program)(ops:Array Oper)(nt:Nat)(e0:Env)(h0:aj)(n0:Nat):List (Oper×List HS)→Env→aj→Nat→(Env→aj→Nat→Prop)→Prop
 |[],e,h,n,K=>K e h n
 |(o,d)::os,e,h,n,K=>
  match dw ops e o with
  |some g=>dOk nt o.dst∧(g=true→touch e o.op (dq P e0 h0 n0 d)∧bn P e h n o.op fun v h' n'=>iE P ops nt e0 h0 n0 os (put e o.dst v) h' n' K) ∧
    (g=false→iE P ops nt e0 h0 n0 os (put e o.dst (.tup [])) h n K)
  |none=>False
structure TrQ(P:Program)(ops:Array Oper)(nt:Nat)(e0:Env)(h0:aj)(n0:Nat)(os:List (Oper×List HS))(e:Env)(h:aj)(n:Nat) where
 es:Nat→Env
 hs:Nat→aj
 ns:Nat→Nat
 vs:Nat→AV
 Es:Nat→List (List AV)
 gs:Nat→Bool
 e0':es 0=e
 hz:hs 0=h
 n0':ns 0=n
 step:∀i o d,os[i]?=some (o,d)→dOk nt o.dst∧dw ops (es i) o=some (gs i)∧es (i+1)=put (es i) o.dst (vs i)∧hs (i+1)=ba (hs i) (ns i) (Es i)∧ns (i+1)=ns i+(Es i).length ∧
  (gs i=true→QF P (es i) (eT (dq P e0 h0 n0 d) (hs i)) (ns i) o.op (vs i) (Es i)∧iX (dq P e0 h0 n0 d) (ns i) (Es i))∧(gs i=false→vs i=.tup []∧Es i=[])
theorem CN{K:Env→aj→Nat→Prop}:∀(os:List (Oper×List HS))(e:Env)(h:aj)(n:Nat),fX P ops nt e0 h0 n0 os e h n K→∃T:TrQ P ops nt e0 h0 n0 os e h n,K (T.es os.length) (T.hs os.length) (T.ns os.length)
 |[],e,h,n,hk=>⟨⟨fun _=>e,fun _=>h,fun _=>n,fun _=>.tup [],fun _=>[],fun _=>true,rfl,rfl,rfl,fun i o d hi=>by simp at hi⟩,hk⟩
 |(o,d)::os,e,h,n,hk=>by
  simp only[fX] at hk;split at hk
  ·rename_i g hg;obtain⟨hd,h1,h2⟩:=hk
   have main:∀(v:AV)(E:List (List AV)),(g=true→QF P e (eT (dq P e0 h0 n0 d) h) n o.op v E∧iX (dq P e0 h0 n0 d) n E)→(g=false→v=.tup []∧E=[])→fX P ops nt e0 h0 n0 os (put e o.dst v) (ba h n E) (n+E.length) K →
    ∃T:TrQ P ops nt e0 h0 n0 ((o,d)::os) e h n,K (T.es ((o,d)::os).length) (T.hs ((o,d)::os).length) (T.ns ((o,d)::os).length):=by
    intro v E q1 q2 hr;obtain⟨T,hK⟩:=CN os _ _ _ hr
    refine⟨⟨fun i=>match i with|0=>e|i+1=>T.es i,fun i=>match i with|0=>h|i+1=>T.hs i,fun i=>match i with|0=>n|i+1=>T.ns i,
     fun i=>match i with|0=>v|i+1=>T.vs i,fun i=>match i with|0=>E|i+1=>T.Es i,fun i=>match i with|0=>g|i+1=>T.gs i,rfl,rfl,rfl,fun i o' d' hi=>?_⟩,hK⟩
    cases i with
    |zero=>
     simp at hi;obtain⟨rfl,rfl⟩:=hi;exact⟨hd,hg,T.e0',T.hz,T.n0',q1,q2⟩
    |succ i=>exact T.step i o' d' (by simpa using hi)
   cases g with
   |true=>
    obtain⟨v,E,q,hn,hr⟩:=(h1 rfl).qf;exact main v E (fun _=>⟨q,hn⟩) (fun h=>by cases h) hr
   |false=>exact main (.tup []) [] (fun h=>by cases h) (fun _=>⟨rfl,rfl⟩) (h2 rfl)
  ·exact hk.elim
structure TrE(P:Program)(ops:Array Oper)(nt:Nat)(e0:Env)(h0:aj)(n0:Nat)(os:List (Oper×List HS))(e:Env)(h:aj)(n:Nat) where
 es:Nat→Env
 hs:Nat→aj
 ns:Nat→Nat
 vs:Nat→AV
 gs:Nat→Bool
 e0':es 0=e
 hz:hs 0=h
 n0':ns 0=n
 step:∀i o d,os[i]?=some (o,d)→dOk nt o.dst∧dw ops (es i) o=some (gs i)∧es (i+1)=put (es i) o.dst (vs i) ∧
  (gs i=true→touch (es i) o.op (dq P e0 h0 n0 d)∧EF P (es i) (hs i) (ns i) o.op (vs i) (hs (i+1)) (ns (i+1)))∧(gs i=false→vs i=.tup []∧hs (i+1)=hs i∧ns (i+1)=ns i)
theorem CP{K:Env→aj→Nat→Prop}:∀(os:List (Oper×List HS))(e:Env)(h:aj)(n:Nat),iE P ops nt e0 h0 n0 os e h n K→∃T:TrE P ops nt e0 h0 n0 os e h n,K (T.es os.length) (T.hs os.length) (T.ns os.length)
 |[],e,h,n,hk=>⟨⟨fun _=>e,fun _=>h,fun _=>n,fun _=>.tup [],fun _=>true,rfl,rfl,rfl,fun i o d hi=>by simp at hi⟩,hk⟩
 |(o,d)::os,e,h,n,hk=>by
  simp only[iE] at hk;split at hk
  ·rename_i g hg;obtain⟨hd,h1,h2⟩:=hk
   have main:∀(v:AV)(h':aj)(n':Nat),(g=true→touch e o.op (dq P e0 h0 n0 d)∧EF P e h n o.op v h' n')→(g=false→v=.tup []∧h'=h∧n'=n)→iE P ops nt e0 h0 n0 os (put e o.dst v) h' n' K →
    ∃T:TrE P ops nt e0 h0 n0 ((o,d)::os) e h n,K (T.es ((o,d)::os).length) (T.hs ((o,d)::os).length) (T.ns ((o,d)::os).length):=by
    intro v h' n' q1 q2 hr;obtain⟨T,hK⟩:=CP os _ _ _ hr
    refine⟨⟨fun i=>match i with|0=>e|i+1=>T.es i,fun i=>match i with|0=>h|i+1=>T.hs i,fun i=>match i with|0=>n|i+1=>T.ns i,
     fun i=>match i with|0=>v|i+1=>T.vs i,fun i=>match i with|0=>g|i+1=>T.gs i,rfl,rfl,rfl,fun i o' d' hi=>?_⟩,hK⟩
    cases i with
    |zero=>
     simp at hi;obtain⟨rfl,rfl⟩:=hi;refine⟨hd,hg,T.e0',fun hg=>?_,fun hg=>?_⟩
     ·obtain⟨h3,h4⟩:=q1 hg;refine⟨h3,?_⟩;show EF P e h n o.op v (T.hs 0) (T.ns 0);rw[T.hz,T.n0'];exact h4
     ·obtain⟨h3,h4,h5⟩:=q2 hg;exact⟨h3,T.hz.trans h4,T.n0'.trans h5⟩
    |succ i=>exact T.step i o' d' (by simpa using hi)
   cases g with
   |true=>
    obtain⟨ht,he⟩:=h1 rfl;obtain⟨v,h',n',q,hr⟩:=he.ef;exact main v h' n' (fun _=>⟨ht,q⟩) (fun h=>by cases h) hr
   |false=>exact main (.tup []) h n (fun h=>by cases h) (fun _=>⟨rfl,rfl,rfl⟩) (h2 rfl)
  ·exact hk.elim
section
variable{os:List (Oper×List HS)}{e:Env}{h:aj}{n:Nat}
theorem TrQ.gm(T:TrQ P ops nt e0 h0 n0 os e h n){i j:Nat}(hij:i≤j)(hj:j≤os.length):T.ns i≤T.ns j:=by
 induction j with
 |zero=>have:i=0:=by omega
        subst this;exact Nat.le_refl _
 |succ j ih=>
  by_cases hi:i=j+1
  ·subst hi;exact Nat.le_refl _
  ·have:=ih (by omega) (by omega);have hs:=(T.step j os[j].1 os[j].2 (List.getElem?_eq_getElem (by omega))).2.2.2.2.1;omega
theorem TrQ.qE(T:TrQ P ops nt e0 h0 n0 os e h n){i j:Nat}(hij:i≤j)(hj:j≤os.length){p:Nat×List AV}(hp:p∈T.hs i):p∈T.hs j:=by
 induction j with
 |zero=>have:i=0:=by omega
        subst this;exact hp
 |succ j ih=>
  by_cases hi:i=j+1
  ·subst hi;exact hp
  ·have:=ih (by omega) (by omega);have hs:=(T.step j os[j].1 os[j].2 (List.getElem?_eq_getElem (by omega))).2.2.2.1;rw[hs];exact (gU (T.Es j) (T.hs j) (T.ns j) p.1 p.2).2 (.inl this)
omit [ar] in
theorem qb(es:Nat→Env)(vs:Nat→AV)(hst:∀i o d,os[i]?=some (o,d)→es (i+1)=put (es i) o.dst (vs i))(i:Nat)(hi:i≤os.length)(t:Nat):(∃(j:Nat)(o:Oper)(d:List HS),j<i∧os[j]?=some (o,d)∧o.dst=some t∧get (es i) t=vs j)∨((∀(j:Nat)(o:Oper)(d:List HS),j<i→os[j]?=some (o,d)→o.dst≠some t)∧get (es i) t=get (es 0) t):=by
 induction i with
 |zero=>exact .inr ⟨fun j o d hj=>by omega,rfl⟩
 |succ i ih=>
  have hgi:os[i]?=some os[i]:=List.getElem?_eq_getElem (by omega);have hs:=hst i os[i].1 os[i].2 hgi;rw[hs]
  cases hd:os[i].1.dst with
  |none=>
   simp only[put]
   rcases ih (by omega) with ⟨j,o,d,h1,h2,h3,h4⟩|⟨h1,h2⟩
   ·exact .inl ⟨j,o,d,by omega,h2,h3,h4⟩
   ·refine .inr ⟨fun j o d hj ho=>?_,h2⟩;by_cases hji:j=i
    ·subst hji;rw[hgi] at ho;injection ho with ho;rw[ho] at hd;rw[hd];simp
    ·exact h1 j o d (by omega) ho
  |some d'=>
   simp only[put,get];by_cases hdt:d'=t
   ·subst hdt;simp only[if_true];exact .inl ⟨i,os[i].1,os[i].2,by omega,hgi,hd,rfl⟩
   ·simp only[hdt,if_false]
    rcases ih (by omega) with ⟨j,o,d,h1,h2,h3,h4⟩|⟨h1,h2⟩
    ·exact .inl ⟨j,o,d,by omega,h2,h3,h4⟩
    ·refine .inr ⟨fun j o d hj ho=>?_,h2⟩;by_cases hji:j=i
     ·subst hji;rw[hgi] at ho;injection ho with ho;rw[ho] at hd;rw[hd];simpa using hdt
     ·exact h1 j o d (by omega) ho
end
end
def rd(ops:Array Oper)(x t:Nat):Bool:=match ops[x]? with|some o=>(gl ops o).contains t|none=>false
def wr(ops:Array Oper)(x:Nat)(f:Nat→Bool):Bool:=match bT ops x with|some t=>f t|none=>true
def zC(ops:Array Oper)(qs ss:List Nat)(hid sp:List (List HS)):Bool:=
 ((List.range ops.size).all fun i=>match ops[i]? with
   |some o=>o.after.toList.all fun e=>!Region.binds .any e || decide (e.on<i)
   |none=>true) &&
 ((List.range ops.size).all fun i=>qs.contains i || ss.contains i)&&((qs++ss).all fun x=>decide (x<ops.size))&&decide ((qs++ss).Nodup)&&decide (hid.length=qs.length)&&decide (sp.length=ss.length) &&
 ((List.range qs.length).all fun p=>(List.range qs.length).all fun q=>wr ops (nth qs q) fun t=>!rd ops (nth qs p) t || (decide (q<p)&&reach ops 6 (nth qs p) (nth qs q)) || decide (q=p) || (decide (p<q)&&reach ops 6 (nth qs q) (nth qs p))) &&
 ((List.range qs.length).all fun p=>(List.range ss.length).all fun j=>wr ops (nth ss j) fun t=>!rd ops (nth qs p) t || reach ops 8 (nth ss j) (nth qs p)) &&
 ((List.range ss.length).all fun j=>(List.range qs.length).all fun p=>wr ops (nth qs p) fun t=>!rd ops (nth ss j) t || reach ops 8 (nth ss j) (nth qs p)) &&
 ((List.range ops.size).all fun i=>(List.range ops.size).all fun j=>decide (i=j) || wr ops i fun t=>decide (bT ops j≠some t)) &&
 ((List.range ss.length).all fun j=>(List.range j).all fun i=>reach ops 8 (nth ss j) (nth ss i)) &&
 ((List.range qs.length).all fun p=>(List.range ss.length).all fun j=>reach ops 8 (nth ss j) (nth qs p) || (nth sp j).all fun s=>(nth hid p).contains s)
structure mA(ops:Array Oper)(qs ss:List Nat)(hid sp:List (List HS)):Prop where
 down:∀(i:Nat)(o:Oper),ops[i]?=some o→∀e∈o.after,Region.binds .any e=true→e.on<i
 all:∀i,i<ops.size→(∃p,p<qs.length∧nth qs p=i)∨(∃j,j<ss.length∧nth ss j=i)
 qlt:∀p,p<qs.length→nth qs p<ops.size
 slt:∀j,j<ss.length→nth ss j<ops.size
 Po:∀p q,p<qs.length→q<qs.length→nth qs p=nth qs q→p=q
 Fv:∀i j,i<ss.length→j<ss.length→nth ss i=nth ss j→i=j
 qne:∀p j,p<qs.length→j<ss.length→nth qs p≠nth ss j
 hl:hid.length=qs.length
 sl:sp.length=ss.length
 qq:∀p q t o,p<qs.length→q<qs.length→bT ops (nth qs q)=some t→ops[nth qs p]?=some o→t∈gl ops o→(q<p∧reach ops 6 (nth qs p) (nth qs q)=true)∨q=p∨(p<q∧reach ops 6 (nth qs q) (nth qs p)=true)
 sq:∀p j t o,p<qs.length→j<ss.length→bT ops (nth ss j)=some t→ops[nth qs p]?=some o→t∈gl ops o→reach ops 8 (nth ss j) (nth qs p)=true
 qs':∀p j t o,p<qs.length→j<ss.length→bT ops (nth qs p)=some t→ops[nth ss j]?=some o→t∈gl ops o→reach ops 8 (nth ss j) (nth qs p)=true
 once:∀i j t,i<ops.size→j<ops.size→i≠j→bT ops i=some t→bT ops j≠some t
 chain:∀i j,j<ss.length→i<j→reach ops 8 (nth ss j) (nth ss i)=true
 hidden:∀p j,p<qs.length→j<ss.length→reach ops 8 (nth ss j) (nth qs p)=true∨∀s∈nth sp j,s∈nth hid p
section
omit [ar]
theorem ew{α:Type}[Inhabited α]{l:List α}{i:Nat}(h:i<l.length):nth l i∈l:=by
 simp[nth,List.getD_eq_getElem?_getD,List.getElem?_eq_getElem h]
theorem CQ{α:Type}[Inhabited α]{l:List α}{i:Nat}(h:i<l.length):l[i]?=some (nth l i):=by
 simp[nth,List.getD_eq_getElem?_getD,List.getElem?_eq_getElem h]
theorem CR{α:Type}[Inhabited α]{l:List α}{x:α}(h:x∈l):∃i,i<l.length∧nth l i=x:=by
 obtain⟨i,hi,rfl⟩:=List.getElem_of_mem h;exact⟨i,hi,by simp[nth,List.getD_eq_getElem?_getD,List.getElem?_eq_getElem hi]⟩
theorem Kf{ops:Array Oper}{qs ss:List Nat}{hid sp:List (List HS)}(h:zC ops qs ss hid sp=true):mA ops qs ss hid sp:=by
 simp only[zC,Bool.and_eq_true,decide_eq_true_eq,List.all_eq_true,List.mem_range,Bool.or_eq_true,List.contains_iff_mem] at h;obtain⟨⟨⟨⟨⟨⟨⟨⟨⟨⟨⟨h1,h2⟩,h3⟩,h4⟩,h5⟩,h6⟩,h7⟩,h8⟩,h9⟩,h10⟩,h11⟩,h12⟩:=h;have hnd:=List.nodup_append.1 h4
 have cM:∀{l:List Nat},l.Nodup→∀p q,p<l.length→q<l.length→nth l p=nth l q→p=q:=by
  intro l hl p q hp hq he;have h1:=CQ hp;have h2:=CQ hq;rw[he] at h1;rw[List.getElem?_eq_getElem hp] at h1;rw[List.getElem?_eq_getElem hq] at h2;have h3:l[p]=l[q]:=(Option.some.inj h1).trans (Option.some.inj h2).symm;have h4:=List.pairwise_iff_getElem.1 hl
  rcases Nat.lt_trichotomy p q with h|h|h
  ·exact absurd h3 (h4 p q hp hq h)
  ·exact h
  ·exact absurd h3.symm (h4 q p hq hp h)
 have hrd:∀x t o,ops[x]?=some o→t∈gl ops o→rd ops x t=true:=by
  intro x t o ho ht;simp only[rd,ho,List.contains_iff_mem];exact ht
 have hwr:∀x t f,bT ops x=some t→wr ops x f=true→f t=true:=by
  intro x t f hd hw;simpa only[wr,hd] using hw
 refine⟨fun i o ho e hin hb=>?_,fun i hi=>?_,fun p hp=>?_,fun j hj=>?_,cM hnd.1,cM hnd.2.1,fun p j hp hj=>?_,h5,h6,fun p q t o hp hq hd ho ht=>?_,fun p j t o hp hj hd ho ht=>?_,fun p j t o hp hj hd ho ht=>?_,fun i j t hi hj hne hd=>?_,fun i j hj hi=>?_,fun p j hp hj=>?_⟩
 ·have hlt:=(Array.getElem?_eq_some_iff.1 ho).1;have:=h1 i hlt;simp only[ho,List.all_eq_true] at this;have:=this e (Array.mem_toList_iff.2 hin);simpa[hb] using this
 ·rcases h2 i hi with h|h
  ·exact .inl (CR h)
  ·exact .inr (CR h)
 ·exact h3 _ (List.mem_append.2 (.inl (ew hp)))
 ·exact h3 _ (List.mem_append.2 (.inr (ew hj)))
 ·exact hnd.2.2 _ (ew hp) _ (ew hj)
 ·have:=hwr _ _ _ hd (h7 p hp q hq);rw[hrd _ _ _ ho ht] at this;simp only[Bool.not_true,Bool.false_or,Bool.or_eq_true,Bool.and_eq_true,decide_eq_true_eq] at this
  rcases this with (h|h)|h
  ·exact .inl h
  ·exact .inr (.inl h)
  ·exact .inr (.inr h)
 ·have:=hwr _ _ _ hd (h8 p hp j hj);rw[hrd _ _ _ ho ht] at this;simpa using this
 ·have:=hwr _ _ _ hd (h9 j hj p hp);rw[hrd _ _ _ ho ht] at this;simpa using this
 ·rcases h10 i hi j hj with h|h
  ·exact absurd h hne
  ·simpa using hwr _ _ _ hd h
 ·exact h11 j hj i hi
 ·rcases h12 p hp j hj with h|h
  ·exact .inl h
  ·exact .inr h
end
section
variable{P:Program}{ops:Array Oper}{nt:Nat}{qs ss:List Nat}{hid sp:List (List HS)}{e:Env}{h:aj}{n:Nat}
def mB:List Oper→Nat→Oper
 |[],_=>⟨none,.move (.func 0),0, "",#[],none⟩
 |o::_,0=>o
 |_::r,k+1=>mB r k
def uE(ops:Array Oper)(i:Nat):Oper:=mB ops.toList i
def opL(ops:Array Oper):List Nat→List (List HS)→List (Oper×List HS)
 |i::l,d::ds=>(uE ops i,d)::opL ops l ds
 |_,_=>[]
section
omit [ar]
theorem CS:∀(l:List Oper)(i:Nat)(o:Oper),l[i]?=some o→mB l i=o
 |[],i,o,h=>by simp at h
 |x::r,0,o,h=>by simpa[mB] using h
 |x::r,i+1,o,h=>CS r i o (by simpa using h)
theorem gd:∀{l:List Nat}{d:List (List HS)},d.length=l.length→(opL ops l d).length=l.length
 |[],[],_=>rfl
 |i::l,d::ds,h=>by simp[opL,gd (l:=l) (d:=ds) (by simpa using h)]
 |[],_::_,h=>by simp at h
 |_::_,[],h=>by simp at h
theorem fL:∀{l:List Nat}{d:List (List HS)},d.length=l.length→∀{i:Nat}{o:Oper},i<l.length→ops[nth l i]?=some o→(opL ops l d)[i]?=some (o,nth d i)
 |[],_,_,i,o,hi,_=>by simp at hi
 |_::_,[],h,_,_,_,_=>by simp at h
 |x::l,d::ds,h,0,o,hi,ho=>by
  simp only[opL,List.getElem?_cons_zero,xX] at ho ⊢;rw[show uE ops x=o from CS _ _ _ (by rw[Array.getElem?_toList];exact ho)]
 |x::l,d::ds,h,i+1,o,hi,ho=>by
  simp only[opL,List.getElem?_cons_succ,xY] at ho ⊢;exact fL (by simpa using h) (by simpa using hi) ho
end
structure dS(P:Program)(ops:Array Oper)(nt:Nat)(qs ss:List Nat)(hid sp:List (List HS))(e:Env)(h:aj)(n:Nat)(T:TrQ P ops nt e h n (opL ops qs hid) e h n)
 (E:TrE P ops nt e h n (opL ops ss sp) (T.es qs.length) (T.hs qs.length) (T.ns qs.length)) (B:Base) (w0:Ctx fk) (listed:Array Bool) (j:Nat) (a:Act) (w:World) (m:Mm):Prop where
 base:B.n=w0.w.heap.size
 below:Bel B.n w0.w w
 defers:a.defers=marks w0.ds
 size:a.tmps.size=nt
 heap:a9 B (E.hs j) m w
 ids:∀id c,(id,c)∈E.hs j→id<E.ns j
 mono:T.ns qs.length≤E.ns j
 dom:∀id,m.dom id↔id<n∨(∃p,p<qs.length∧listed.getD (nth qs p) false=true∧T.ns p≤id∧id<T.ns p+(T.Es p).length)∨(T.ns qs.length≤id∧id<E.ns j)
 done:∀p t,p<qs.length→listed.getD (nth qs p) false=true→bT ops (nth qs p)=some t→au B (LB m (E.hs j)) m w (T.vs p) (a.tmps.getD t undef)
 qP:∀i t,i<j→bT ops (nth ss i)=some t→au B (LB m (E.hs j)) m w (E.vs i) (a.tmps.getD t undef)
 old:∀t,(∀p,p<qs.length→listed.getD (nth qs p) false=true→bT ops (nth qs p)≠some t)→(∀i,i<j→bT ops (nth ss i)≠some t)→au B (LB m (E.hs j)) m w (get e t) (a.tmps.getD t undef)
 lst:∀i,i<ss.length→(listed.getD (nth ss i) false=true↔i<j)
 jl:j≤ss.length
 fr:lY B w0 (LB m (E.hs j)) m w n
variable{T:TrQ P ops nt e h n (opL ops qs hid) e h n}{E:TrE P ops nt e h n (opL ops ss sp) (T.es qs.length) (T.hs qs.length) (T.ns qs.length)}{B:Base}{w0:Ctx fk}{listed:Array Bool}{j:Nat}{a:Act}{w:World}{m:Mm}
theorem dS.bel{w':World}(hp:dS P ops nt qs ss hid sp e h n T E B w0 listed j a w m)(hb:Bel w.heap.size w w'):dS P ops nt qs ss hid sp e h n T E B w0 listed j a w' m:=by
 have hr:B.n≤w.heap.size:=by have:=hp.below.size;have:=hp.base;omega
 have hm:∀x v,au B (LB m (E.hs j)) m w x v→au B (LB m (E.hs j)) m w' x v:=fun x v h=>h.mono (Mm.le.refl m) (fun _ _ x=>x) (fun b hl _=>hb.block b hl)
 exact⟨hp.base,hp.below.trans (hb.mono hr),hp.defers,hp.size,hp.heap.below hb,hp.ids,hp.mono,hp.dom,fun p t hi hl hd=>hm _ _ (hp.done p t hi hl hd),fun i t hi hd=>hm _ _ (hp.qP i t hi hd),fun t h1 h2=>hm _ _ (hp.old t h1 h2),hp.lst,hp.jl,
  hp.fr.mono (Mm.le.refl m) (fun _ _ x=>x) (fun b hl _=>hb.block b hl) (Nat.le_refl _)⟩
section
omit [ar]
theorem x9(hcl:Closed ops listed){f i k:Nat}(hi:i<ops.size)(hl:listed.getD i false=true)(hr:reach ops f i k=true):listed.getD k false=true:=
 jf hcl f i k ops[i] (Array.getElem?_eq_getElem hi) (fun e hin hb=>hcl i _ (Array.getElem?_eq_getElem hi) hl e hin hb) hr
theorem hY{x:Nat}{o:Oper}(ho:ops[x]?=some o):bT ops x=o.dst:=by simp[bT,ho]
theorem qd{l:List Nat}{d:List (List HS)}(hl:d.length=l.length)(hb:∀i,i<l.length→nth l i<ops.size){i:Nat}{o:Oper}{x:List HS}(ho:(opL ops l d)[i]?=some (o,x)):i<l.length∧ops[nth l i]?=some o∧x=nth d i:=by
 have hi:i<l.length:=by have:=(List.getElem?_eq_some_iff.1 ho).1;rwa [gd hl] at this
 have h1:=fL (d:=d) hl hi (Array.getElem?_eq_getElem (hb i hi))
 rw[h1] at ho;injection ho with ho;injection ho with h2 h3
 exact⟨hi,by rw[←h2];exact Array.getElem?_eq_getElem _,h3.symm⟩
end
theorem dS.Fw(hp:dS P ops nt qs ss hid sp e h n T E B w0 listed j a w m)(hc:mA ops qs ss hid sp)(hcl:Closed ops listed){p:Nat}{o:Oper}(hpl:p<qs.length)(ho:ops[nth qs p]?=some o)(hun:listed.getD (nth qs p) false=false)(he:∀e∈o.after,Region.binds .any e=true→listed.getD e.on false=true){t:Nat}(ht:t∈gl ops o):au B (LB m (E.hs j)) m w (get (T.es p) t) (a.tmps.getD t undef):=by
 rcases qb T.es T.vs (fun i o d hi=>(T.step i o d hi).2.2.1) p (by rw[gd hc.hl];omega) t with ⟨q,oq,d,h1,h2,h3,h4⟩|⟨h1,h2⟩
 ·obtain⟨hq,hoq,_⟩:=qd hc.hl hc.qlt h2
  have hd:bT ops (nth qs q)=some t:=by rw[hY hoq];exact h3
  rw[h4]
  rcases hc.qq p q t o hpl hq hd ho ht with ⟨_,h⟩|h|⟨h,_⟩
  ·exact hp.done q t hq (jf hcl 6 _ _ o ho he h) hd
  ·omega
  ·omega
 ·rw[h2,T.e0'];refine hp.old t (fun q hq hl hd=>?_) (fun i hi hd=>?_)
  ·rcases hc.qq p q t o hpl hq hd ho ht with ⟨h,_⟩|h|⟨_,h⟩
   ·have hoq:=Array.getElem?_eq_getElem (hc.qlt q hq);exact h1 q _ _ h (fL hc.hl hq hoq) (by rw[←hY hoq];exact hd)
   ·subst h;rw[hun] at hl;cases hl
   ·have:=x9 hcl (hc.qlt q hq) hl h;rw[hun] at this;cases this
  ·have hil:i<ss.length:=Nat.lt_of_lt_of_le hi hp.jl;have:=x9 hcl (hc.slt i hil) ((hp.lst i hil).2 hi) (hc.sq p i t o hpl hil hd ho ht);rw[hun] at this;cases this
theorem dS.Fx(hp:dS P ops nt qs ss hid sp e h n T E B w0 listed j a w m)(hc:mA ops qs ss hid sp)(hcl:Closed ops listed){o:Oper}(hjl:j<ss.length)(ho:ops[nth ss j]?=some o)(he:∀e∈o.after,Region.binds .any e=true→listed.getD e.on false=true){t:Nat}(ht:t∈gl ops o):au B (LB m (E.hs j)) m w (get (E.es j) t) (a.tmps.getD t undef):=by
 rcases qb E.es E.vs (fun i o d hi=>(E.step i o d hi).2.2.1) j (by rw[gd hc.sl];omega) t with ⟨q,oq,d,h1,h2,h3,h4⟩|⟨h1,h2⟩
 ·obtain⟨hq,hoq,_⟩:=qd hc.sl hc.slt h2;rw[h4];exact hp.qP q t h1 (by rw[hY hoq];exact h3)
 ·rw[h2,E.e0']
  have hno:∀i,i<j→bT ops (nth ss i)≠some t:=fun i hi hd=>by
   have hil:i<ss.length:=Nat.lt_of_lt_of_le hi hp.jl;have hoi:=Array.getElem?_eq_getElem (hc.slt i hil);exact h1 i _ _ hi (fL hc.sl hil hoi) (by rw[←hY hoi];exact hd)
  rcases qb T.es T.vs (fun i o d hi=>(T.step i o d hi).2.2.1) qs.length (by rw[gd hc.hl];omega) t with ⟨q,oq,d,h1,h2,h3,h4⟩|⟨h1,h2⟩
  ·obtain⟨hq,hoq,_⟩:=qd hc.hl hc.qlt h2
   have hd:bT ops (nth qs q)=some t:=by rw[hY hoq];exact h3
   rw[h4];exact hp.done q t hq (jf hcl 8 _ _ o ho he (hc.qs' q j t o hq hjl hd ho ht)) hd
  ·rw[h2,T.e0'];refine hp.old t (fun q hq hl hd=>?_) hno;have hoq:=Array.getElem?_eq_getElem (hc.qlt q hq);exact h1 q _ _ hq (fL hc.hl hq hoq) (by rw[←hY hoq];exact hd)
theorem dS.frame(hp:dS P ops nt qs ss hid sp e h n T E B w0 listed j a w m)(hc:mA ops qs ss hid sp){id:Nat}{c:List AV}(hin:(id,c)∈T.hs qs.length):∀i,i≤j→(∀k,k<i→¬id∈dq P e h n (nth sp k))→(id,c)∈E.hs i
 |0,_,_=>by rw[E.hz];exact hin
 |i+1,hi,hno=>by
  have h1:=dS.frame hp hc hin i (by omega) (fun k hk=>hno k (by omega));have hil:i<ss.length:=Nat.lt_of_lt_of_le (by omega) hp.jl;have hoi:=Array.getElem?_eq_getElem (hc.slt i hil);obtain⟨_,_,_,h2,h3⟩:=E.step i _ _ (fL hc.sl hil hoi)
  cases hg:E.gs i with
  |true=>exact (h2 hg).2.keep (h2 hg).1 h1 (hno i (by omega))
  |false=>rw[(h3 hg).2.1];exact h1
theorem dS.Fy(hp:dS P ops nt qs ss hid sp e h n T E B w0 listed j a w m)(hc:mA ops qs ss hid sp)(hcl:Closed ops listed){p:Nat}(hpl:p<qs.length)(hun:listed.getD (nth qs p) false=false){id:Nat}(hno:¬id∈dq P e h n (nth hid p)):∀k,k<j→¬id∈dq P e h n (nth sp k):=by
 intro k hk hin;have hkl:k<ss.length:=Nat.lt_of_lt_of_le hk hp.jl
 rcases hc.hidden p k hpl hkl with h|h
 ·have:=x9 hcl (hc.slt k hkl) ((hp.lst k hkl).2 hk) h;rw[hun] at this;cases this
 ·obtain⟨s,hs,hin⟩:=List.mem_flatMap.1 hin;exact hno (List.mem_flatMap.2 ⟨s,h s hs,hin⟩)
omit [ar] in
theorem CU{i k:Nat}(hi:i<listed.size):(listed.setIfInBounds i true).getD k false=if i=k then true else listed.getD k false:=by
 by_cases h:i=k
 ·subst h;rw[if_pos rfl,Array.getD_eq_getD_getElem?,Array.getElem?_setIfInBounds];simp[hi]
 ·rw[if_neg h];exact getD_set_ne false h
theorem dS.Pp(hp:dS P ops nt qs ss hid sp e h n T E B w0 listed j a w m)(hc:mA ops qs ss hid sp){p:Nat}{o:Oper}(hpl:p<qs.length)(ho:ops[nth qs p]?=some o)(hf:listed[nth qs p]?=some false){v':Value}{w':World}{m':Mm}(hdk:dOk nt o.dst)(hpo:fO B (E.hs j) m w (T.ns p) (T.Es p).length (T.vs p) v' w' m'):dS P ops nt qs ss hid sp e h n T E B w0 (listed.setIfInBounds (nth qs p) true) j (a.put o.dst v') w' m':=by
 obtain⟨p1,p2,p3,p4,p5,p6⟩:=hpo
 have hB:B.n≤w.heap.size:=by have:=hp.below.size;have:=hp.base;omega
 have hO:ar.ok w:=ar.keep w0.ok (by have:=hp.below;rw[hp.base] at this;exact this)
 have hmono:∀p v,au B (LB m (E.hs j)) m w p v→au B (LB m' (E.hs j)) m' w' p v:=fun p v hr=>hr.mono p1 (fun b hb hn hl=>by
  rcases p5 b hl with h1|h1
  ·exact hn h1
  ·omega) (fun b hb _=>p3.block b hb)
 have hsz:=(Array.getElem?_eq_some_iff.1 hf).1;have hdi:bT ops (nth qs p)=o.dst:=hY ho
 have hsd:dOk a.tmps.size o.dst:=by rw[hp.size];exact hdk
 have hlf:listed.getD (nth qs p) false=false:=by rw[Array.getD_eq_getD_getElem?,hf];rfl
 have br:∀k,(listed.setIfInBounds (nth qs p) true).getD k false=if nth qs p=k then true else listed.getD k false:=fun k=>CU hsz
 have hqx:∀q,q<qs.length→(nth qs p=nth qs q↔q=p):=fun q hq=>⟨fun h=>(hc.Po p q hpl hq h).symm,fun h=>by rw[h]⟩
 refine⟨hp.base,hp.below.trans (p3.mono hB),by rw[gT];exact hp.defers,by rw[gS];exact hp.size,p4,hp.ids,hp.mono,fun id=>?_,fun q t hq hl hd=>?_,fun i t hi hd=>?_,fun t hq hi=>?_,fun i hi=>?_,hp.jl,hp.fr.mono p1 (fun b hb hn hl=>by
  rcases p5 b hl with h1|h1
  ·exact hn h1
  ·omega) (fun b hb _=>p3.block b hb) (Nat.le_refl _)⟩
 ·rw[p2,hp.dom];constructor
  ·rintro ((h1|⟨q,h2,h3,h4⟩|h1)|h1)
   ·exact .inl h1
   ·exact .inr (.inl ⟨q,h2,by rw[br];split<;>simp_all,h4⟩)
   ·exact .inr (.inr h1)
   ·exact .inr (.inl ⟨p,hpl,by rw[br,if_pos rfl],h1⟩)
  ·rintro (h1|⟨q,h2,h3,h4⟩|h1)
   ·exact .inl (.inl h1)
   ·by_cases hqp:q=p
    ·subst hqp;exact .inr h4
    ·rw[br,if_neg (fun h=>hqp ((hqx q h2).1 h))] at h3;exact .inl (.inr (.inl ⟨q,h2,h3,h4⟩))
   ·exact .inl (.inr (.inr h1))
 ·rw[lA hsd];by_cases hqp:q=p
  ·subst hqp;rw[hdi] at hd;rw[if_pos hd];exact p6
  ·have hne:nth qs p≠nth qs q:=fun h=>hqp ((hqx q hq).1 h)
   rw[br,if_neg hne] at hl
   have:o.dst≠some t:=fun hot=>hc.once _ _ t (hc.qlt p hpl) (hc.qlt q hq) hne (by rw[hdi];exact hot) hd
   rw[if_neg this];exact hmono _ _ (hp.done q t hq hl hd)
 ·rw[lA hsd];have hil:i<ss.length:=Nat.lt_of_lt_of_le hi hp.jl
  have:o.dst≠some t:=fun hot=>hc.once _ _ t (hc.qlt p hpl) (hc.slt i hil) (hc.qne p i hpl hil) (by rw[hdi];exact hot) hd
  rw[if_neg this];exact hmono _ _ (hp.qP i t hi hd)
 ·rw[lA hsd];have h1:=hq p hpl (by rw[br,if_pos rfl]);rw[hdi] at h1;rw[if_neg h1];refine hmono _ _ (hp.old t (fun q hql hl=>hq q hql ?_) hi)
  rw[br];split<;>simp_all
 ·rw[br,if_neg (hc.qne p i hpl hi)];exact hp.lst i hi
theorem dS.Pq(hp:dS P ops nt qs ss hid sp e h n T E B w0 listed j a w m)(hc:mA ops qs ss hid sp){o:Oper}(hjl:j<ss.length)(ho:ops[nth ss j]?=some o)(hf:listed[nth ss j]?=some false){v':Value}{w':World}{m':Mm}(hdk:dOk nt o.dst)(hids:∀id c,(id,c)∈E.hs (j+1)→id<E.ns (j+1))(hmon:E.ns j≤E.ns (j+1))(hpo:EPost B (E.hs j) m w (E.ns j) (E.hs (j+1)) (E.ns (j+1)) (E.vs j) v' w' m'):dS P ops nt qs ss hid sp e h n T E B w0 (listed.setIfInBounds (nth ss j) true) (j+1) (a.put o.dst v') w' m':=by
 obtain⟨p1,p2,p3,p4,p5,p6,p7⟩:=hpo
 have hmono:∀p v,au B (LB m (E.hs j)) m w p v→au B (LB m' (E.hs (j+1))) m' w' p v:=fun p v hr=>hr.mono p1 p5 p6
 have hsz:=(Array.getElem?_eq_some_iff.1 hf).1;have hdi:bT ops (nth ss j)=o.dst:=hY ho
 have hsd:dOk a.tmps.size o.dst:=by rw[hp.size];exact hdk
 have br:∀k,(listed.setIfInBounds (nth ss j) true).getD k false=if nth ss j=k then true else listed.getD k false:=fun k=>CU hsz
 have hqn:∀q,q<qs.length→nth ss j≠nth qs q:=fun q hq h=>hc.qne q j hq hjl h.symm
 refine⟨hp.base,hp.below.trans p3,by rw[gT];exact hp.defers,by rw[gS];exact hp.size,p4,hids,Nat.le_trans hp.mono hmon,fun id=>?_,fun q t hq hl hd=>?_,fun i t hi hd=>?_,fun t hq hi=>?_,fun i hi=>?_,by omega,hp.fr.mono p1 p5 p6 (Nat.le_refl _)⟩
 ·rw[p2,hp.dom];have hmn:=hp.mono;constructor
  ·rintro ((h1|⟨q,h2,h3,h4⟩|h1)|h1)
   ·exact .inl h1
   ·exact .inr (.inl ⟨q,h2,by rw[br,if_neg (hqn q h2)];exact h3,h4⟩)
   ·exact .inr (.inr ⟨h1.1,by omega⟩)
   ·exact .inr (.inr ⟨by omega,h1.2⟩)
  ·rintro (h1|⟨q,h2,h3,h4⟩|h1)
   ·exact .inl (.inl h1)
   ·rw[br,if_neg (hqn q h2)] at h3;exact .inl (.inr (.inl ⟨q,h2,h3,h4⟩))
   ·by_cases h2:id<E.ns j
    ·exact .inl (.inr (.inr ⟨h1.1,h2⟩))
    ·exact .inr ⟨by omega,h1.2⟩
 ·rw[lA hsd];rw[br,if_neg (hqn q hq)] at hl
  have:o.dst≠some t:=fun hot=>hc.once _ _ t (hc.slt j hjl) (hc.qlt q hq) (hqn q hq) (by rw[hdi];exact hot) hd
  rw[if_neg this];exact hmono _ _ (hp.done q t hq hl hd)
 ·rw[lA hsd];by_cases hij:i=j
  ·subst hij;rw[hdi] at hd;rw[if_pos hd];exact p7
  ·have hil:i<ss.length:=by omega
   have hne:nth ss j≠nth ss i:=fun h=>hij (hc.Fv j i hjl hil h).symm
   have:o.dst≠some t:=fun hot=>hc.once _ _ t (hc.slt j hjl) (hc.slt i hil) hne (by rw[hdi];exact hot) hd
   rw[if_neg this];exact hmono _ _ (hp.qP i t (by omega) hd)
 ·rw[lA hsd];have h1:=hi j (by omega);rw[hdi] at h1;rw[if_neg h1];exact hmono _ _ (hp.old t (fun q hql hl=>hq q hql (by rw[br,if_neg (hqn q hql)];exact hl)) (fun i hi'=>hi i (by omega)))
 ·rw[br];split
  ·rename_i heq;have:=hc.Fv j i hjl hi heq;simp;omega
  ·rename_i hne;rw[hp.lst i hi]
   have:i≠j:=by rintro rfl;exact hne rfl
   omega
theorem Kg(hc:mA ops qs ss hid sp){K:Exit→St→Prop}(hK:K .normal ⟨E.es ss.length,E.hs ss.length,E.ns ss.length,nt⟩):∀(f:Nat)(listed:Array Bool)(j:Nat)(a:Act)(w:World)(m:Mm),listed.size=ops.size→Closed ops listed→open_ listed≤f→dS P ops nt qs ss hid sp e h n T E B w0 listed j a w m→gi w0.r P .any ops (fun e a w=>∃st' m',K e st'∧Sim B w0 st' a w m') f listed a w:=by
 have last:∀(listed:Array Bool)(j:Nat)(a:Act)(w:World)(m:Mm),(∀i,i<ops.size→listed.getD i false=true)→dS P ops nt qs ss hid sp e h n T E B w0 listed j a w m→∃st' m',K .normal st'∧Sim B w0 st' a w m':=by
  intro listed j a w m hall hp
  have hj:j=ss.length:=by
   have:=hp.jl
   rcases Nat.lt_or_ge j ss.length with h1|h1
   ·have:=(hp.lst j h1).1 (hall _ (hc.slt j h1));omega
   ·omega
  subst hj;refine⟨_,m,hK,hp.base,hp.below,hp.defers,hp.size,fun t=>?_,hp.heap,fun id=>?_,hp.ids,hp.fr.mono (Mm.le.refl m) (fun _ _ h=>h) (fun _ _ _=>rfl) (by have h1:=T.gm (i:=0) (j:=qs.length) (by omega) (by rw[gd hc.hl];omega);rw[T.n0'] at h1;exact Nat.le_trans h1 hp.mono)⟩
  ·show au _ _ _ _ (get (E.es ss.length) t) _
   rcases qb E.es E.vs (fun i o d hi=>(E.step i o d hi).2.2.1) ss.length (by rw[gd hc.sl];omega) t with ⟨q,oq,d,h1,h2,h3,h4⟩|⟨h1,h2⟩
   ·obtain⟨hq,hoq,_⟩:=qd hc.sl hc.slt h2;rw[h4];exact hp.qP q t h1 (by rw[hY hoq];exact h3)
   ·rw[h2,E.e0']
    have hno:∀i,i<ss.length→bT ops (nth ss i)≠some t:=fun i hi hd=>by
     have hoi:=Array.getElem?_eq_getElem (hc.slt i hi);exact h1 i _ _ hi (fL hc.sl hi hoi) (by rw[←hY hoi];exact hd)
    rcases qb T.es T.vs (fun i o d hi=>(T.step i o d hi).2.2.1) qs.length (by rw[gd hc.hl];omega) t with ⟨q,oq,d,h1,h2,h3,h4⟩|⟨h1,h2⟩
    ·obtain⟨hq,hoq,_⟩:=qd hc.hl hc.qlt h2;rw[h4];exact hp.done q t hq (hall _ (hc.qlt q hq)) (by rw[hY hoq];exact h3)
    ·rw[h2,T.e0'];refine hp.old t (fun q hq hl hd=>?_) hno;have hoq:=Array.getElem?_eq_getElem (hc.qlt q hq);exact h1 q _ _ hq (fL hc.hl hq hoq) (by rw[←hY hoq];exact hd)
  ·rw[hp.dom];show _↔id<E.ns ss.length
   have hsteps:∀i,i≤qs.length→(id<T.ns i↔id<n∨∃j,j<i∧T.ns j≤id∧id<T.ns j+(T.Es j).length):=by
    intro i
    induction i with
    |zero=>intro _;rw[T.n0'];constructor
           ·exact .inl
           ·rintro (h|⟨j,h,_⟩)
            ·exact h
            ·omega
    |succ i ih=>
     intro hi;have hoi:=Array.getElem?_eq_getElem (hc.qlt i (by omega));have hst:=(T.step i _ _ (fL hc.hl (by omega) hoi)).2.2.2.2.1;rw[hst];constructor
     ·intro h1
      rcases Nat.lt_or_ge id (T.ns i) with h2|h2
      ·rcases (ih (by omega)).1 h2 with h3|⟨j,h3,h4⟩
       ·exact .inl h3
       ·exact .inr ⟨j,by omega,h4⟩
      ·exact .inr ⟨i,by omega,h2,h1⟩
     ·rintro (h1|⟨j,h1,h2,h3⟩)
      ·have:=(ih (by omega)).2 (.inl h1);omega
      ·by_cases hji:j=i
       ·subst hji;exact h3
       ·have:=(ih (by omega)).2 (.inr ⟨j,by omega,h2,h3⟩);omega
   have h1:=hsteps qs.length (Nat.le_refl _);have h2:=hp.mono;constructor
   ·rintro (h3|⟨p,h3,_,h4⟩|h3)
    ·have:=h1.2 (.inl h3);omega
    ·have:=h1.2 (.inr ⟨p,h3,h4⟩);omega
    ·exact h3.2
   ·intro h3
    rcases Nat.lt_or_ge id (T.ns qs.length) with h4|h4
    ·rcases h1.1 h4 with h5|⟨p,h5,h6⟩
     ·exact .inl h5
     ·exact .inr (.inl ⟨p,h5,hall _ (hc.qlt p h5),h6⟩)
    ·exact .inr (.inr ⟨h4,h3⟩)
 have noready:∀(listed:Array Bool),listed.size=ops.size→(∀i,i<ops.size→listed.getD i false=true)→Region.ready .any ops listed=[]:=by
  intro listed hsz hall
  cases hr:Region.ready .any ops listed with
  |nil=>rfl
  |cons x xs=>
   obtain⟨o,ho,hf,_⟩:=jQ hsz (i:=x) (by rw[hr];simp);have:=hall x (Array.getElem?_eq_some_iff.1 ho).1;rw[Array.getD_eq_getD_getElem?,hf] at this;cases this
 intro f
 induction f with
 |zero=>
  intro listed j a w m hsz hcl hop hp
  have hall:∀i,i<ops.size→listed.getD i false=true:=fun i hi=>mN (Nat.le_zero.1 hop) (by omega)
  exact⟨noready listed hsz hall,last listed j a w m hall hp⟩
 |succ f ih=>
  intro listed j a w m hsz hcl hop hp;refine⟨fun hnil=>?_,fun x hx=>?_⟩
  ·refine last listed j a w m (fun i hi=>?_) hp
   cases hq:listed.getD i false with
   |true=>rfl
   |false=>exact absurd hnil (nW hsz hc.down i hi hq)
  ·obtain⟨o,ho,hf,he⟩:=jQ hsz hx;have hxs:=(Array.getElem?_eq_some_iff.1 ho).1
   have hlf:listed.getD x false=false:=by rw[Array.getD_eq_getD_getElem?,hf];rfl
   unfold ia;rw[ho];intro w e1;replace hp:=hp.bel (EnvD.ext e1)
   have hB:B.n≤w.heap.size:=by have:=hp.below.size;have:=hp.base;omega
   have hO:ar.ok w:=ar.keep w0.ok (by have:=hp.below;rw[hp.base] at this;exact this)
   have hop':open_ (listed.setIfInBounds x true)≤f:=by have:=mM hf;omega
   rcases hc.all x hxs with ⟨p,hpl,rfl⟩|⟨i,hil,rfl⟩
   ·obtain⟨hdk,hw,_,_,_,hq1,hq2⟩:=T.step p o _ (fL hc.hl hpl ho)
    have hnext:∀v' w' m',fO B (E.hs j) m w (T.ns p) (T.Es p).length (T.vs p) v' w' m'→gi w0.r P .any ops (fun e a w=>∃st' m',K e st'∧Sim B w0 st' a w m') f (listed.setIfInBounds (nth qs p) true) (a.put o.dst v') w':=by
     intro v' w' m' hpost;exact ih _ j _ w' m' (by simpa using hsz) (hcl.set ho he) hop' (hp.Pp hc hpl ho hf hdk hpost)
    have hlen:=gd (ops:=ops) hc.hl;simp only[wh hw (fun t ht=>hp.Fw hc hcl hpl ho hlf he ht)]
    cases hg:T.gs p with
    |true=>
     simp only[if_true];obtain⟨hq3,hq4⟩:=hq1 hg;refine gu (Ev hq3) (hq3.sound o hO hp.heap hB (fun id cs hl=>?_) (fun q cs hl=>?_) (fun q hq hd=>?_) (fun y hy=>?_) _ _ (fun v' w' m' hpost=>hnext v' w' m' hpost))
     ·obtain⟨h1,h2⟩:=xZ hl;exact hp.frame hc (T.qE (i:=p) (by omega) (by omega) h1) j (Nat.le_refl _) (hp.Fy hc hcl hpl hlf h2)
     ·have hql:=(List.getElem?_eq_some_iff.1 hl).1;refine hp.frame hc (T.qE (i:=p+1) (by omega) (by omega) ?_) j (Nat.le_refl _) (hp.Fy hc hcl hpl hlf (CM hq4 hql));rw[(T.step p o _ (fL hc.hl hpl ho)).2.2.2.1];exact (gU _ _ _ _ _).2 (.inr ⟨q,hl,rfl⟩)
     ·have hnx:n≤T.ns p:=by have:=T.gm (i:=0) (j:=p) (by omega) (by omega);rw[T.n0'] at this;exact this
      have hsx:=(T.step p o _ (fL hc.hl hpl ho)).2.2.2.2.1;have hmx:=T.gm (i:=p+1) (j:=qs.length) (by omega) (by omega)
      rcases (hp.dom _).1 hd with h1|⟨k,hk,hl,h2,h3⟩|h1
      ·omega
      ·have hkx:k≠p:=by
        rintro rfl
        rw[hlf] at hl;cases hl
       have hsk:=(T.step k _ _ (fL hc.hl hk (Array.getElem?_eq_getElem (hc.qlt k hk)))).2.2.2.2.1
       rcases Nat.lt_or_ge k p with h4|h4
       ·have:=T.gm (i:=k+1) (j:=p) (by omega) (by omega);omega
       ·have:=T.gm (i:=p+1) (j:=k) (by omega) (by omega);omega
      ·omega
     ·refine jb y (fun t e=>?_);subst e;exact hp.Fw hc hcl hpl ho hlf he (vZ hy)
    |false=>
     simp only[Bool.false_eq_true,if_false];obtain⟨h1,h2⟩:=hq2 hg;refine hnext undef w m ?_;rw[h1,h2];exact⟨Mm.le.refl m,fun i=>⟨.inl,fun h=>h.elim id fun h=>by simp at h;omega⟩,Bel.refl _ _,hp.heap,fun b hb=>.inl hb,.tup rfl (fun j p v hp=>by simp at hp)⟩
   ·have hij:i=j:=by
     have h1:¬i<j:=fun h=>by
      have:=(hp.lst i hil).2 h;rw[hlf] at this;cases this
     rcases Nat.lt_or_ge j i with h2|h2
     ·have h3:=jf hcl 8 _ _ o ho he (hc.chain j i hil h2);have:=(hp.lst j (by omega)).1 h3;omega
     ·omega
    subst hij;obtain⟨hdk,hw,_,hq1,hq2⟩:=E.step i o _ (fL hc.sl hil ho)
    have hnext:∀v' w' m',(∀id c,(id,c)∈E.hs (i+1)→id<E.ns (i+1))→E.ns i≤E.ns (i+1)→EPost B (E.hs i) m w (E.ns i) (E.hs (i+1)) (E.ns (i+1)) (E.vs i) v' w' m'→gi w0.r P .any ops (fun e a w=>∃st' m',K e st'∧Sim B w0 st' a w m') f (listed.setIfInBounds (nth ss i) true) (a.put o.dst v') w':=by
     intro v' w' m' h1 h2 hpost;exact ih _ (i+1) _ w' m' (by simpa using hsz) (hcl.set ho he) hop' (hp.Pq hc hil ho hf hdk h1 h2 hpost)
    simp only[wh hw (fun t ht=>hp.Fx hc hcl hil ho he ht)]
    cases hg:E.gs i with
    |true=>
     simp only[if_true];refine gu (rR (hq1 hg).2) (AG o (hq1 hg).2 hO hp.heap hB (fun k hk hd=>?_) hp.ids (fun y hy=>?_) _ _ (fun v v' h' n' w' m' hkk hpo hn hid=>?_))
     ·have hmx:=hp.mono
      have hn0:n≤T.ns qs.length:=by have:=T.gm (i:=0) (j:=qs.length) (by omega) (by rw[gd hc.hl];omega);rw[T.n0'] at this;exact this
      rcases (hp.dom _).1 hd with h1|⟨q,hq,hl,h2,h3⟩|h1
      ·omega
      ·have hsk:=(T.step q _ _ (fL hc.hl hq (Array.getElem?_eq_getElem (hc.qlt q hq)))).2.2.2.2.1;have:=T.gm (i:=q+1) (j:=qs.length) (by omega) (by rw[gd hc.hl];omega);omega
      ·omega
     ·refine jb y (fun t e=>?_);subst e;exact hp.Fx hc hcl hil ho he (vZ hy)
     ·obtain⟨rfl,rfl,rfl⟩:=hkk;exact hnext v' w' m' hid hn hpo
    |false=>
     simp only[Bool.false_eq_true,if_false];obtain⟨h1,h2,h3⟩:=hq2 hg;refine hnext undef w m (by rw[h2,h3];exact hp.ids) (by rw[h3];exact Nat.le_refl _) ?_;rw[h1,h2,h3];exact⟨Mm.le.refl m,je,Bel.refl _ _,hp.heap,fun b _ h=>h,fun b _ _=>rfl,.tup rfl (fun j p v hp=>by simp at hp)⟩
theorem jk{K:Exit→St→Prop}(qs ss:List Nat)(hid sp:List (List HS)){id:Nat}(hm:P.follows .mixedOrders=true)(hchk:zC ops qs ss hid sp=true)(hk:fX P ops nt e h n (opL ops qs hid) e h n fun e' h' n'=>iE P ops nt e h n (opL ops ss sp) e' h' n' fun e'' h'' n''=>K .normal ⟨e'',h'',n'',nt⟩):aY fk P (.region id ops true) ⟨e,h,n,nt⟩ K:=by
 intro B w0 a w m hs;have hc:=Kf hchk;obtain⟨T,hK⟩:=CN _ _ _ _ hk;rw[gd hc.hl] at hK;obtain⟨E,hK⟩:=CP _ _ _ _ hK;rw[gd hc.sl] at hK
 refine vj hm fun w e1=>?_
 replace hs:=hs.move e1
 have hs':Sim B w0 ⟨e,h,n,nt⟩ a { w with drawn:=w.drawn+1 } m:=by
  have hb:Bel w.heap.size w { w with drawn:=w.drawn+1 }:=(Bel.refl _ _).drew;have hB:=hs.room;exact⟨hs.base,hs.below.trans (hb.mono hB),hs.defers,hs.size,fun t=>(hs.env t).mono (Mm.le.refl m) (fun _ _ h=>h) (fun b hb' _=>hb.block b hb'),hs.heap.below hb,hs.dom,hs.ids,hs.fr.mono (Mm.le.refl m) (fun _ _ h=>h) (fun b hb' _=>hb.block b hb') (Nat.le_refl _)⟩
 have hquiet:∀i,i≤qs.length→a9 B (T.hs i) m { w with drawn:=w.drawn+1 }∧LB m (T.hs i)=LB m h∧(∀id c,(id,c)∈T.hs i→id<T.ns i):=by
  intro i
  induction i with
  |zero=>intro _;rw[T.hz,T.n0'];exact⟨hs'.heap,rfl,hs'.ids⟩
  |succ i ih=>
   intro hi;obtain⟨h1,h2,h3⟩:=ih (by omega);have hst:=T.step i _ _ (fL hc.hl (by omega) (Array.getElem?_eq_getElem (hc.qlt i (by omega))))
   have hn:n≤T.ns i:=by have:=T.gm (i:=0) (j:=i) (by omega) (by rw[gd hc.hl];omega);rw[T.n0'] at this;exact this
   obtain⟨h4,h5⟩:=rQ (T.Es i) (T.hs i) (T.ns i) h1 (fun j hj hdj=>by have:=(hs'.dom j).1 hdj;simp only at this;omega) h3;rw[hst.2.2.2.1];refine⟨h4,h5.trans h2,fun id c hin=>?_⟩;rw[hst.2.2.2.2.1]
   rcases (gU _ _ _ _ _).1 hin with h6|⟨q,h6,rfl⟩
   ·have:=h3 id c h6;omega
   ·have:=(List.getElem?_eq_some_iff.1 h6).1;omega
 obtain⟨h1,h2,h3⟩:=hquiet qs.length (Nat.le_refl _)
 have hf:∀i,(Array.replicate ops.size false).getD i false=false:=by
  intro i;rw[Array.getD_eq_getD_getElem?,Array.getElem?_replicate]
  split<;>rfl
 refine Kg hc hK ops.size _ 0 a _ m (by simp) (fun i o ho hl=>by rw[hf] at hl;cases hl) ?_ ⟨hs'.base,hs'.below,hs'.defers,hs'.size,by rw[E.hz];exact h1,by rw[E.hz,E.n0'];exact h3,by rw[E.n0'];exact Nat.le_refl _,fun id=>?_,
  (fun p t hp hl=>by rw[hf] at hl;cases hl),(fun i t hi=>by omega),fun t _ _=>?_,fun i _=>?_,Nat.zero_le _,by rw[E.hz,h2];exact hs'.fr⟩
 ·unfold open_;refine Nat.le_trans List.countP_le_length ?_;simp
 ·rw[hs'.dom,E.n0'];constructor
  ·exact .inl
  ·rintro (h|⟨i,_,hl,_⟩|h)
   ·exact h
   ·rw[hf] at hl;cases hl
   ·omega
 ·rw[E.hz,h2];exact hs'.env t
 ·rw[hf];constructor
  ·intro h;cases h
  ·intro h;omega
end
section
variable{P:Program}{ops:Array Oper}{nt:Nat}{e0:Env}{h0:aj}{n0:Nat}
@[congr] theorem UD{os:List (Oper×List HS)}{e e':Env}{h h':aj}{n n':Nat}{K:Env→aj→Nat→Prop}(h1:e=e')(h2:h=h')(h3:n=n'):fX P ops nt e0 h0 n0 os e h n K=fX P ops nt e0 h0 n0 os e' h' n' K:=by rw[h1,h2,h3]
@[congr] theorem UE{os:List (Oper×List HS)}{e e':Env}{h h':aj}{n n':Nat}{K:Env→aj→Nat→Prop}(h1:e=e')(h2:h=h')(h3:n=n'):iE P ops nt e0 h0 n0 os e h n K=iE P ops nt e0 h0 n0 os e' h' n' K:=by rw[h1,h2,h3]
section
omit [ar]
@[simp] theorem UF(e:Env)(h:aj)(n:Nat):dq P e h n []=[]:=rfl
@[simp] theorem UG(e:Env)(h:aj)(n k:Nat)(l:List HS):dq P e h n (.new k::l)=nL P e h n (.new k)::dq P e h n l:=rfl
@[simp] theorem UH(e:Env)(h:aj)(n t:Nat)(l:List HS):dq P e h n (.slot t::l)=nL P e h n (.slot t)::dq P e h n l:=rfl
@[simp] theorem UI(e:Env)(h:aj)(n t s f:Nat)(l:List HS):dq P e h n (.fld t s f::l)=nL P e h n (.fld t s f)::dq P e h n l:=rfl
@[simp] theorem UJ(e:Env)(h:aj)(n:Nat)(l:List HS):dq P e h n (.all::l)=List.range n++dq P e h n l:=rfl
@[simp] theorem UK(e:Env)(h:aj)(n k:Nat):nL P e h n (.new k)=n+k:=rfl
@[simp] theorem UL(e:Env)(h:aj)(n t:Nat):nL P e h n (.slot t)=nK (get e t):=rfl
@[simp] theorem UM(e:Env)(h:aj)(n t s f:Nat):nL P e h n (.fld t s f)=idF h (get e t) (fOf P s f):=rfl
@[simp] theorem UN(a b c:Nat):nK (.ptr a b c)=a:=rfl
@[simp] theorem UO(a b c d e:Nat):nK (.msl a b c d e)=a:=rfl
@[simp] theorem UP(o f:Bool)(p:PV):nK (.w o f p)=1000000007:=rfl
end
attribute [simp] idF
section
omit [ar]
theorem CV:∀h:aj,eT [] h=h
 |[]=>rfl
 |(k,v)::r=>by simp[eT,CV r]
@[simp] theorem UQ(D:List Nat):eT D []=[]:=rfl
theorem CX(D:List Nat)(k:Nat)(v:List AV)(r:aj):eT D ((k,v)::r)=if k∈D then eT D r else (k,v)::eT D r:=rfl
@[simp] theorem UR{D:List Nat}{k:Nat}(v:List AV)(r:aj)(h:k∈D):eT D ((k,v)::r)=eT D r:=by rw[CX,if_pos h]
@[simp] theorem US{D:List Nat}{k:Nat}(v:List AV)(r:aj)(h:¬k∈D):eT D ((k,v)::r)=(k,v)::eT D r:=by rw[CX,if_neg h]
@[simp] theorem UT(D:List Nat)(n:Nat):iX D n []=True:=rfl
@[simp] theorem UU(D:List Nat)(n:Nat)(c:List AV)(E:List (List AV)):iX D n (c::E)=(¬n∈D∧iX D (n+1) E):=rfl
theorem CY:∀(n:Nat)(E:List (List AV)),iX [] n E=True
 |_,[]=>rfl
 |n,_::E=>by simp[iX,CY (n+1) E]
@[simp] theorem UW(a b c:Nat)(D:List Nat):uC (.ptr a b c) D=(a∈D):=rfl
end
attribute [simp] o8
section
omit [ar]
@[simp] theorem UX(env:Env)(t:TypeId)(ad x:Operand)(D:List Nat):touch env (.store t ad x) D=uC (ev env ad) D:=rfl
@[simp] theorem UY(env:Env)(args:Array Operand)(tys:Array TypeId)(D:List Nat):touch env (.call ⟨.builtin .append,args,tys⟩) D=o8 env args.toList D:=rfl
@[simp] theorem UZ(env:Env)(f:Operand)(args:Array Operand)(tys:Array TypeId)(D:List Nat):touch env (.call ⟨.value f,args,tys⟩) D=True:=rfl
@[simp] theorem U0(env:Env)(args:Array Operand)(tys:Array TypeId)(D:List Nat):touch env (.call ⟨.builtin .len,args,tys⟩) D=True:=rfl
@[simp] theorem U1(env:Env)(x:Operand)(D:List Nat):touch env (.assign x) D=True:=rfl
@[simp] theorem U2(env:Env)(x:Operand)(D:List Nat):touch env (.move x) D=True:=rfl
@[simp] theorem U3(env:Env)(o:BinOp)(t:TypeId)(x y:Operand)(u:TypeId)(D:List Nat):touch env (.binOp o t x y u) D=True:=rfl
@[simp] theorem U4(env:Env)(t:TypeId)(x:Operand)(D:List Nat):touch env (.load t x) D=True:=rfl
@[simp] theorem U5(env:Env)(t:TypeId)(D:List Nat):touch env (.alloc t) D=True:=rfl
@[simp] theorem U6(env:Env)(t:TypeId)(x:Operand)(D:List Nat):touch env (.box t x) D=True:=rfl
@[simp] theorem U7(env:Env)(t:TypeId)(x:Operand)(f:Nat)(D:List Nat):touch env (.fieldAddr t x f) D=True:=rfl
@[simp] theorem U8(env:Env)(t:TypeId)(x i:Operand)(D:List Nat):touch env (.indexAddr t x i) D=True:=rfl
@[simp] theorem U9(env:Env)(x:Operand)(i:Nat)(D:List Nat):touch env (.extract x i) D=True:=rfl
@[simp] theorem Va(env:Env)(a b:TypeId)(x:Operand)(D:List Nat):touch env (.convert a b x) D=True:=rfl
@[simp] theorem Vb(env:Env)(t:TypeId)(x:Operand)(l u m:Option Operand)(D:List Nat):touch env (.slice t x l u m) D=True:=rfl
@[simp] theorem Vd(env:Env)(t:TypeId)(p:Array (Nat×Operand))(D:List Nat):touch env (.build t p) D=True:=rfl
@[simp] theorem Ve(env:Env)(t:TypeId)(x:Operand)(f:Nat)(D:List Nat):touch env (.field t x f) D=True:=rfl
@[simp] theorem Vf(env:Env)(x:Operand)(D:List Nat):touch env (.nilCheck x) D=True:=rfl
@[simp] theorem Vg(env:Env)(c x y:Operand)(D:List Nat):touch env (.pick c x y) D=True:=rfl
@[simp] theorem Vh(i:Nat)(l:List Nat)(d:List HS)(ds:List (List HS)):opL ops (i::l) (d::ds)=(uE ops i,d)::opL ops l ds:=rfl
@[simp] theorem Vi:opL ops [] []=[]:=rfl
@[simp] theorem Vj(l:List Oper)(i:Nat):uE l.toArray i=mB l i:=rfl
@[simp] theorem Vk(o:Oper)(r:List Oper):mB (o::r) 0=o:=rfl
@[simp] theorem Vl(o:Oper)(r:List Oper)(k:Nat):mB (o::r) (k+1)=mB r k:=rfl
end
variable{env:Env}{h:aj}{n:Nat}
@[simp ↓] theorem Vm(K:Env→aj→Nat→Prop):fX P ops nt e0 h0 n0 [] env h n K=K env h n:=rfl
@[simp ↓] theorem Vn(K:Env→aj→Nat→Prop):iE P ops nt e0 h0 n0 [] env h n K=K env h n:=rfl
section
variable{dst:Option Tmp}{op:Op}{ty:TypeId}{pos:String}{after:Array Edge}{j:Nat}{want:Bool}{d:HS}{ds:List HS}{os:List (Oper×List HS)}{K:Env→aj→Nat→Prop}
@[simp ↓] theorem Vo:fX P ops nt e0 h0 n0 ((⟨dst,op,ty,pos,after,none⟩,[])::os) env h n K=(dOk nt dst∧bm P env h n op fun v E=>fX P ops nt e0 h0 n0 os (put env dst v) (ba h n E) (n+E.length) K):=by
 simp[fX,dw,CV,CY]
@[simp ↓] theorem Vp:fX P ops nt e0 h0 n0 ((⟨dst,op,ty,pos,after,none⟩,d::ds)::os) env h n K=(dOk nt dst∧bm P env (eT (dq P e0 h0 n0 (d::ds)) h) n op fun v E=>iX (dq P e0 h0 n0 (d::ds)) n E∧fX P ops nt e0 h0 n0 os (put env dst v) (ba h n E) (n+E.length) K):=by
 simp[fX,dw]
@[simp ↓] theorem Vq{ds:List HS}:iE P ops nt e0 h0 n0 ((⟨dst,op,ty,pos,after,none⟩,ds)::os) env h n K=(dOk nt dst∧touch env op (dq P e0 h0 n0 ds)∧bn P env h n op fun v h' n'=>iE P ops nt e0 h0 n0 os (put env dst v) h' n' K):=by
 simp[iE,dw]
end
end
def pk(c:Option (List AV))(k:Nat)(r:aj):aj:=match c with|some c=>(k,c)::r|none=>r
omit [ar] in
@[simp] theorem Vr(c:List AV)(k:Nat)(r:aj):pk (some c) k r=(k,c)::r:=rfl
def fC(h:aj):List Nat→aj
 |[]=>[]
 |k::ks=>pk (aV h k) k (fC h ks)
omit [ar] in
@[simp] theorem Vs(h:aj):fC h []=[]:=rfl
omit [ar] in
@[simp] theorem Vt(h:aj)(k:Nat)(ks:List Nat):fC h (k::ks)=pk (aV h k) k (fC h ks):=rfl
theorem bF{P:Program}{K:Exit→St→Prop}{c:Code}{id:Nat}{env:Env}{h:aj}{n nt:Nat}{α β:Type}(J:α→Prop)(ks:List Nat)(mods:α→Env)(hks:List Nat)(hm:α→aj)(μ:α→Nat)(F:β→Prop)(fks:List Nat)(fmods:β→Env)(fhks:List Nat)(fhm:β→aj)(x0:α)(hJ:J x0)(h0:o7 env n (mods x0++dN env ks))(h1:nI h n (hm x0++fC h hks))(round:∀x,J x→aY fk P c ⟨mods x++dN env ks,hm x++fC h hks,n,nt⟩ (iq fk J (fun x=>⟨mods x++dN env ks,hm x++fC h hks,n,nt⟩) μ x (k9 fk id F (fun y=>⟨fmods y++dN env fks,fhm y++fC h fhks,n,nt⟩) K)))(after:∀y,F y→K .normal ⟨fmods y++dN env fks,fhm y++fC h fhks,n,nt⟩):aY fk P (.block id (.loop c)) ⟨env,h,n,nt⟩ K:=
 tG J ks mods (fun x=>hm x++fC h hks) μ F fks fmods (fun y=>fhm y++fC h fhks) x0 hJ h0 h1 round after
end Go.Fi
