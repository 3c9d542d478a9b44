/- Lemmas. -/
import Derived.Test.YthpkmilhiganjaaGreatPLd
set_option linter.unusedSimpArgs false
set_option linter.unusedVariables false
set_option linter.unusedSectionVars false
set_option maxHeartbeats 32000000
set_option maxRecDepth 100000
namespace Go.Fi
open Go Go.RowKit
variable[ah]
variable{fk:Fk}
inductive HS where
 |new (k:Nat)
 |slot (t:Nat)
 |fld (t:Nat) (s:TypeId) (f:Nat)
 |all
 deriving DecidableEq,Inhabited
def kY:AV→Nat
 |.ptr id _ _=>id
 |.msl id _ _ _ _=>id
 |.mp id=>id
 |_=>1000000007
def idF(h:ab)(v:AV)(o:Option (Nat×Nat×Bool)):Nat:=
 match v,o with
 |.ptr id _ off,some (o,_,_)=>match aK h id with
  |some c=>kY (kG c (off+o))
  |none=>1000000007
 |_,_=>1000000007
def kZ(P:Program)(e:Env)(h:ab)(n:Nat):HS→Nat
 |.new k=>n+k
 |.slot t=>kY (get e t)
 |.fld t s f=>idF h (get e t) (fOf P s f)
 |.all=>1000000007
def MI(P:Program)(e:Env)(h:ab)(n:Nat):HS→List Nat
 |.all=>List.range n
 |s=>[kZ P e h n s]
def b7(P:Program)(e:Env)(h:ab)(n:Nat)(l:List HS):List Nat:=l.flatMap (MI P e h n)
def dm(D:List Nat):ab→ab
 |[]=>[]
 |(k,v)::r=>if k∈D then dm D r else (k,v)::dm D r
def gq(D:List Nat):Nat→List (List AV)→Prop
 |_,[]=>True
 |n,_::E=>¬n∈D∧gq D (n+1) E
omit [ah] in
theorem uS{D:List Nat}:∀{h:ab}{id:Nat}{c:List AV},aK (dm D h) id=some c→(id,c)∈h∧¬id∈D
 |[],id,c,e=>by cases e
 |(k,v)::r,id,c,e=>by
  simp only[dm] at e;split at e
  ·obtain⟨h1,h2⟩:=uS e;exact⟨List.mem_cons_of_mem _ h1,h2⟩
  ·rename_i hk;simp only[aK] at e;split at e
   ·rename_i h;subst h;injection e with e;subst e
    exact⟨List.mem_cons_self,hk⟩
   ·obtain⟨h1,h2⟩:=uS e;exact⟨List.mem_cons_of_mem _ h1,h2⟩
omit [ah] in
theorem zP{D:List Nat}:∀{E:List (List AV)}{n k:Nat},gq D n E→k<E.length→¬n+k∈D
 |[],n,k,_,hk=>by simp at hk
 |_::E,n,0,h,_=>h.1
 |_::E,n,k+1,h,hk=>by
  have:=zP (k:=k) h.2 (by simpa using hk)
  rwa [show n+1+k=n+(k+1) by omega] at this
def mD(env:Env)(args:List Operand)(D:List Nat):Prop:=
 match args with
 |x::_=>match ev env x with
  |.msl id _ _ _ _=>id∈D
  |_=>True
 |[]=>True
def re(v:AV)(D:List Nat):Prop:=
 match v with
 |.ptr id _ _=>id∈D
 |_=>False
def rh(v:AV)(D:List Nat):Prop:=
 match v with
 |.mp id=>id∈D
 |_=>False
def touch(env:Env)(op:Op)(D:List Nat):Prop:=
 match op with
 |.store _ ad _=>re (ev env ad) D
 |.call { callee:=.builtin .append,args:=args,argTypes:=_ }=>mD env args.toList D
 |.call { callee:=.builtin .copy,args:=args,argTypes:=_ }=>mD env args.toList D
 |.mapUpdate _ mo _ _=>rh (ev env mo) D
 |_=>True
def EF(P:Program)(env:Env)(h:ab)(n:Nat)(op:Op)(v:AV)(h':ab)(n':Nat):Prop:=aN P env h n op fun v1 h1 n1=>v1=v∧h1=h'∧n1=n'
section
variable{P:Program}{env:Env}{h:ab}{n:Nat}
theorem QF.q{op:Op}{v:AV}{E:List (List AV)}{K:AV→List (List AV)→Prop}(hq:QF P env h n op v E)(hk:K v E):aL P env h n op K:=by
 rcases hq with ⟨c,h0,hc⟩|⟨f,args,tys,g,av,pvs,res,fr,rfl,hf,hp,⟨hr,hfr,rfl,rfl⟩|⟨E0,v0,hr,rfl,rfl⟩⟩
 ·unfold aL;split
  ·simp[aOp] at h0
  ·rw[h0];exact⟨hc,hk⟩
 ·simp only[aL,hf,lU,hp];exact .inl ⟨res,fr,hr,hfr,hk⟩
 ·simp only[aL,hf,lU,hp];exact .inr ⟨E0,v0,hr,hk⟩
theorem aN.ef{op:Op}{K:AV→ab→Nat→Prop}(he:aN P env h n op K):∃v h' n',EF P env h n op v h' n'∧K v h' n':=by
 have quiet:∀op,aL P env h n op (fun v E=>K v (aM h n E) (n+E.length))→∃v h' n',aL P env h n op (fun v1 E=>v1=v∧aM h n E=h'∧n+E.length=n')∧K v h' n':=by
  intro op hq;obtain⟨v,E,hq,hk⟩:=hq.qf;exact⟨v,_,_,hq.q ⟨rfl,rfl,rfl⟩,hk⟩
 unfold aN at he;unfold EF aN;split at he
 ·unfold iO at he ⊢;split at he
  ·split at he
   ·rename_i e;simp only[e];exact⟨_,_,_,⟨he.1,rfl,rfl,rfl⟩,he.2⟩
   ·exact he.elim
  ·exact he.elim
 ·unfold iN at he ⊢;split at he
  ·split at he
   ·split at he
    ·split at he
     ·split at he
      ·rename_i e;simp only[e];exact⟨_,_,_,⟨he.1,rfl,rfl,rfl⟩,he.2⟩
      ·exact he.elim
     ·rename_i own k cells es
      cases hcond:(own&&decide (k=0)&&cells.isEmpty) with
      |true=>
       rw[hcond] at he;simp only[cond_true] at he ⊢;exact⟨_,_,_,⟨he.1,rfl,rfl,rfl⟩,he.2⟩
      |false=>
       rw[hcond] at he;simp only[cond_false] at he ⊢;split at he
       ·exact⟨_,_,_,⟨he.1,rfl,rfl,rfl⟩,he.2⟩
       ·exact he.elim
     ·exact he.elim
    ·exact he.elim
   ·exact he.elim
  ·exact he.elim
 ·unfold iP at he ⊢;split at he
  ·rename_i e;simp only[e];exact⟨_,_,_,⟨he.1,rfl,rfl,rfl⟩,he.2⟩
  ·exact he.elim
 ·unfold kK at he ⊢;split at he
  ·exact⟨_,_,_,⟨he.1,rfl,rfl,rfl⟩,he.2⟩
  ·rename_i hne;obtain⟨v,h',n',h1,h2⟩:=quiet _ he;exact⟨v,h',n',h1,h2⟩
 ·exact⟨_,_,_,⟨he.1,rfl,rfl,rfl⟩,he.2⟩
 ·unfold iQ at he ⊢;split at he
  ·split at he
   ·rename_i e1 e2 e3 e4;simp only[e1,e2,e3,e4];exact⟨_,_,_,⟨he.1,rfl,rfl,rfl⟩,he.2⟩
   ·exact he.elim
  ·exact he.elim
 ·exact quiet _ he
omit [ah] in
theorem ny{id i:Nat}{x c:List AV}(hne:i≠id):∀{h:ab},(i,c)∈h→(i,c)∈a7 h id x
 |[],hin=>by cases hin
 |(k,v)::r,hin=>by
  simp only[a7];split
  ·rename_i hk
   rcases List.mem_cons.1 hin with e|e
   ·injection e with e1 _;omega
   ·exact List.mem_cons_of_mem _ e
  ·rcases List.mem_cons.1 hin with e|e
   ·rw[e];exact List.mem_cons_self
   ·exact List.mem_cons_of_mem _ (ny hne e)
theorem EF.keep{op:Op}{v:AV}{h':ab}{n':Nat}{D:List Nat}(he:EF P env h n op v h' n')(ht:touch env op D){i:Nat}{c:List AV}(hin:(i,c)∈h)(hD:¬i∈D):(i,c)∈h':=by
 have quiet:∀op,aL P env h n op (fun v1 E=>v1=v∧aM h n E=h'∧n+E.length=n')→(i,c)∈h':=by
  intro op hq;obtain⟨_,E,_,_,hk,_⟩:=hq.qf;rw[←hk];exact (fD E h n i c).2 (.inl hin)
 unfold EF aN at he;split at he
 ·unfold iO at he;split at he
  ·rename_i had;split at he
   ·obtain⟨_,_,h2,_⟩:=he;rw[←h2];simp only[touch,re,had] at ht;exact ny (fun e=>hD (by rw[e];exact ht)) hin
   ·exact he.elim
  ·exact he.elim
 ·unfold iN at he;split at he
  ·rename_i hargs htys;split at he
   ·split at he
    ·split at he
     ·rename_i es;split at he
      ·obtain⟨_,_,h2,_⟩:=he;rw[←h2];simp only[touch,hargs,mD,es] at ht;exact ny (fun e=>hD (by rw[e];exact ht)) hin
      ·exact he.elim
     ·rename_i own k cells es
      cases hcond:(own&&decide (k=0)&&cells.isEmpty) with
      |true=>
       rw[hcond] at he;simp only[cond_true] at he;obtain⟨_,_,h2,_⟩:=he;rw[←h2];exact List.mem_cons_of_mem _ hin
      |false=>
       rw[hcond] at he;simp only[cond_false] at he;split at he
       ·obtain⟨_,_,h2,_⟩:=he;rw[←h2];exact hin
       ·exact he.elim
     ·exact he.elim
    ·exact he.elim
   ·exact he.elim
  ·exact he.elim
 ·rename_i args tys;unfold iP lV at he
  match hargs:args.toList,htys:tys.toList with
  |[d,x],t::ts=>
   rw[hargs,htys] at he;simp only[List.map_cons,List.map_nil] at he
   cases hr:jH P h t (ev env d) (ev env x) with
   |none=>rw[hr] at he;exact he.elim
   |some y=>
    obtain⟨c1,v1,h1⟩:=y;rw[hr] at he;obtain⟨_,_,h2,_⟩:=he;unfold jH at hr;split at hr
    ·rename_i hd;split at hr
     ·simp only[Option.some.injEq,Prod.mk.injEq] at hr;obtain⟨_,_,rfl⟩:=hr;rw[←h2];simp only[touch,hargs,mD,hd] at ht;exact ny (fun e=>hD (by rw[e];exact ht)) hin
     ·cases hr
    ·cases hr
  |[],_=>rw[hargs] at he;exact he.elim
  |[_],_=>rw[hargs] at he;exact he.elim
  |_::_::_::_,_=>rw[hargs] at he;exact he.elim
  |[_,_],[]=>rw[hargs,htys] at he;exact he.elim
 ·unfold kK at he;split at he
  ·obtain⟨_,_,h2,_⟩:=he;rw[←h2];exact hin
  ·exact quiet _ he
 ·obtain⟨_,_,h2,_⟩:=he;rw[←h2];exact List.mem_cons_of_mem _ hin
 ·unfold iQ at he;split at he
  ·rename_i hm;split at he
   ·obtain⟨_,_,h2,_⟩:=he;rw[←h2];simp only[touch,rh,hm] at ht;exact ny (fun e=>hD (by rw[e];exact ht)) hin
   ·exact he.elim
  ·exact he.elim
 ·exact quiet _ he
end
section
variable{P:Program}{ops:Array Oper}{nt:Nat}{e0:Env}{h0:ab}{n0:Nat}
def ea(P:Program)(ops:Array Oper)(nt:Nat)(e0:Env)(h0:ab)(n0:Nat):List (Oper×List HS)→Env→ab→Nat→(Env→ab→Nat→Prop)→Prop
 |[],e,h,n,K=>K e h n
 |(o,d)::os,e,h,n,K=>
  match cg ops e o with
  |some g=>dOk nt o.dst∧(g=true→aL P e (dm (b7 P e0 h0 n0 d) h) n o.op fun v E=>gq (b7 P e0 h0 n0 d) n E∧ea P ops nt e0 h0 n0 os (put e o.dst v) (aM h n E) (n+E.length) K) ∧
    (g=false→ea P ops nt e0 h0 n0 os (put e o.dst (.tup [])) h n K)
  |none=>False
def fT(P:Program)(ops:Array Oper)(nt:Nat)(e0:Env)(h0:ab)(n0:Nat):List (Oper×List HS)→Env→ab→Nat→(Env→ab→Nat→Prop)→Prop
 |[],e,h,n,K=>K e h n
 |(o,d)::os,e,h,n,K=>
  match cg ops e o with
  |some g=>dOk nt o.dst∧(g=true→touch e o.op (b7 P e0 h0 n0 d)∧aN P e h n o.op fun v h' n'=>fT P ops nt e0 h0 n0 os (put e o.dst v) h' n' K) ∧
    (g=false→fT P ops nt e0 h0 n0 os (put e o.dst (.tup [])) h n K)
  |none=>False
structure TrQ(P:Program)(ops:Array Oper)(nt:Nat)(e0:Env)(h0:ab)(n0:Nat)(os:List (Oper×List HS))(e:Env)(h:ab)(n:Nat) where
 es:Nat→Env
 hs:Nat→ab
 ns:Nat→Nat
 vs:Nat→AV
 Es:Nat→List (List AV)
 gs:Nat→Bool
 e0':es 0=e
 hz:hs 0=h
 n0':ns 0=n
 step:∀i o d,os[i]?=some (o,d)→dOk nt o.dst∧cg ops (es i) o=some (gs i)∧es (i+1)=put (es i) o.dst (vs i)∧hs (i+1)=aM (hs i) (ns i) (Es i)∧ns (i+1)=ns i+(Es i).length ∧
  (gs i=true→QF P (es i) (dm (b7 P e0 h0 n0 d) (hs i)) (ns i) o.op (vs i) (Es i)∧gq (b7 P e0 h0 n0 d) (ns i) (Es i))∧(gs i=false→vs i=.tup []∧Es i=[])
theorem zQ{K:Env→ab→Nat→Prop}:∀(os:List (Oper×List HS))(e:Env)(h:ab)(n:Nat),ea P ops nt e0 h0 n0 os e h n K→∃T:TrQ P ops nt e0 h0 n0 os e h n,K (T.es os.length) (T.hs os.length) (T.ns os.length)
 |[],e,h,n,hk=>⟨⟨fun _=>e,fun _=>h,fun _=>n,fun _=>.tup [],fun _=>[],fun _=>true,rfl,rfl,rfl,fun i o d hi=>by simp at hi⟩,hk⟩
 |(o,d)::os,e,h,n,hk=>by
  simp only[ea] at hk;split at hk
  ·rename_i g hg;obtain⟨hd,h1,h2⟩:=hk
   have main:∀(v:AV)(E:List (List AV)),(g=true→QF P e (dm (b7 P e0 h0 n0 d) h) n o.op v E∧gq (b7 P e0 h0 n0 d) n E)→(g=false→v=.tup []∧E=[])→ea P ops nt e0 h0 n0 os (put e o.dst v) (aM h n E) (n+E.length) K →
    ∃T:TrQ P ops nt e0 h0 n0 ((o,d)::os) e h n,K (T.es ((o,d)::os).length) (T.hs ((o,d)::os).length) (T.ns ((o,d)::os).length):=by
    intro v E q1 q2 hr;obtain⟨T,hK⟩:=zQ os _ _ _ hr
    refine⟨⟨fun i=>match i with|0=>e|i+1=>T.es i,fun i=>match i with|0=>h|i+1=>T.hs i,fun i=>match i with|0=>n|i+1=>T.ns i,
     fun i=>match i with|0=>v|i+1=>T.vs i,fun i=>match i with|0=>E|i+1=>T.Es i,fun i=>match i with|0=>g|i+1=>T.gs i,rfl,rfl,rfl,fun i o' d' hi=>?_⟩,hK⟩
    cases i with
    |zero=>
     simp at hi;obtain⟨rfl,rfl⟩:=hi;exact⟨hd,hg,T.e0',T.hz,T.n0',q1,q2⟩
    |succ i=>exact T.step i o' d' (by simpa using hi)
   cases g with
   |true=>
    obtain⟨v,E,q,hn,hr⟩:=(h1 rfl).qf;exact main v E (fun _=>⟨q,hn⟩) (fun h=>by cases h) hr
   |false=>exact main (.tup []) [] (fun h=>by cases h) (fun _=>⟨rfl,rfl⟩) (h2 rfl)
  ·exact hk.elim
structure TrE(P:Program)(ops:Array Oper)(nt:Nat)(e0:Env)(h0:ab)(n0:Nat)(os:List (Oper×List HS))(e:Env)(h:ab)(n:Nat) where
 es:Nat→Env
 hs:Nat→ab
 ns:Nat→Nat
 vs:Nat→AV
 gs:Nat→Bool
 e0':es 0=e
 hz:hs 0=h
 n0':ns 0=n
 step:∀i o d,os[i]?=some (o,d)→dOk nt o.dst∧cg ops (es i) o=some (gs i)∧es (i+1)=put (es i) o.dst (vs i) ∧
  (gs i=true→touch (es i) o.op (b7 P e0 h0 n0 d)∧EF P (es i) (hs i) (ns i) o.op (vs i) (hs (i+1)) (ns (i+1)))∧(gs i=false→vs i=.tup []∧hs (i+1)=hs i∧ns (i+1)=ns i)
theorem zR{K:Env→ab→Nat→Prop}:∀(os:List (Oper×List HS))(e:Env)(h:ab)(n:Nat),fT P ops nt e0 h0 n0 os e h n K→∃T:TrE P ops nt e0 h0 n0 os e h n,K (T.es os.length) (T.hs os.length) (T.ns os.length)
 |[],e,h,n,hk=>⟨⟨fun _=>e,fun _=>h,fun _=>n,fun _=>.tup [],fun _=>true,rfl,rfl,rfl,fun i o d hi=>by simp at hi⟩,hk⟩
 |(o,d)::os,e,h,n,hk=>by
  simp only[fT] at hk;split at hk
  ·rename_i g hg;obtain⟨hd,h1,h2⟩:=hk
   have main:∀(v:AV)(h':ab)(n':Nat),(g=true→touch e o.op (b7 P e0 h0 n0 d)∧EF P e h n o.op v h' n')→(g=false→v=.tup []∧h'=h∧n'=n)→fT P ops nt e0 h0 n0 os (put e o.dst v) h' n' K →
    ∃T:TrE P ops nt e0 h0 n0 ((o,d)::os) e h n,K (T.es ((o,d)::os).length) (T.hs ((o,d)::os).length) (T.ns ((o,d)::os).length):=by
    intro v h' n' q1 q2 hr;obtain⟨T,hK⟩:=zR os _ _ _ hr
    refine⟨⟨fun i=>match i with|0=>e|i+1=>T.es i,fun i=>match i with|0=>h|i+1=>T.hs i,fun i=>match i with|0=>n|i+1=>T.ns i,
     fun i=>match i with|0=>v|i+1=>T.vs i,fun i=>match i with|0=>g|i+1=>T.gs i,rfl,rfl,rfl,fun i o' d' hi=>?_⟩,hK⟩
    cases i with
    |zero=>
     simp at hi;obtain⟨rfl,rfl⟩:=hi;refine⟨hd,hg,T.e0',fun hg=>?_,fun hg=>?_⟩
     ·obtain⟨h3,h4⟩:=q1 hg;refine⟨h3,?_⟩;show EF P e h n o.op v (T.hs 0) (T.ns 0);rw[T.hz,T.n0'];exact h4
     ·obtain⟨h3,h4,h5⟩:=q2 hg;exact⟨h3,T.hz.trans h4,T.n0'.trans h5⟩
    |succ i=>exact T.step i o' d' (by simpa using hi)
   cases g with
   |true=>
    obtain⟨ht,he⟩:=h1 rfl;obtain⟨v,h',n',q,hr⟩:=he.ef;exact main v h' n' (fun _=>⟨ht,q⟩) (fun h=>by cases h) hr
   |false=>exact main (.tup []) h n (fun h=>by cases h) (fun _=>⟨rfl,rfl,rfl⟩) (h2 rfl)
  ·exact hk.elim
section
variable{os:List (Oper×List HS)}{e:Env}{h:ab}{n:Nat}
theorem TrQ.eE(T:TrQ P ops nt e0 h0 n0 os e h n){i j:Nat}(hij:i≤j)(hj:j≤os.length):T.ns i≤T.ns j:=by
 induction j with
 |zero=>have:i=0:=by omega
        subst this;exact Nat.le_refl _
 |succ j ih=>
  by_cases hi:i=j+1
  ·subst hi;exact Nat.le_refl _
  ·have:=ih (by omega) (by omega);have hs:=(T.step j os[j].1 os[j].2 (List.getElem?_eq_getElem (by omega))).2.2.2.2.1;omega
theorem TrQ.nR(T:TrQ P ops nt e0 h0 n0 os e h n){i j:Nat}(hij:i≤j)(hj:j≤os.length){p:Nat×List AV}(hp:p∈T.hs i):p∈T.hs j:=by
 induction j with
 |zero=>have:i=0:=by omega
        subst this;exact hp
 |succ j ih=>
  by_cases hi:i=j+1
  ·subst hi;exact hp
  ·have:=ih (by omega) (by omega);have hs:=(T.step j os[j].1 os[j].2 (List.getElem?_eq_getElem (by omega))).2.2.2.1;rw[hs];exact (fD (T.Es j) (T.hs j) (T.ns j) p.1 p.2).2 (.inl this)
omit [ah] in
theorem nz(es:Nat→Env)(vs:Nat→AV)(hst:∀i o d,os[i]?=some (o,d)→es (i+1)=put (es i) o.dst (vs i))(i:Nat)(hi:i≤os.length)(t:Nat):(∃(j:Nat)(o:Oper)(d:List HS),j<i∧os[j]?=some (o,d)∧o.dst=some t∧get (es i) t=vs j)∨((∀(j:Nat)(o:Oper)(d:List HS),j<i→os[j]?=some (o,d)→o.dst≠some t)∧get (es i) t=get (es 0) t):=by
 induction i with
 |zero=>exact .inr ⟨fun j o d hj=>by omega,rfl⟩
 |succ i ih=>
  have hgi:os[i]?=some os[i]:=List.getElem?_eq_getElem (by omega);have hs:=hst i os[i].1 os[i].2 hgi;rw[hs]
  cases hd:os[i].1.dst with
  |none=>
   simp only[put]
   rcases ih (by omega) with ⟨j,o,d,h1,h2,h3,h4⟩|⟨h1,h2⟩
   ·exact .inl ⟨j,o,d,by omega,h2,h3,h4⟩
   ·refine .inr ⟨fun j o d hj ho=>?_,h2⟩;by_cases hji:j=i
    ·subst hji;rw[hgi] at ho;injection ho with ho;rw[ho] at hd;rw[hd];simp
    ·exact h1 j o d (by omega) ho
  |some d'=>
   simp only[put,get];by_cases hdt:d'=t
   ·subst hdt;simp only[if_true];exact .inl ⟨i,os[i].1,os[i].2,by omega,hgi,hd,rfl⟩
   ·simp only[hdt,if_false]
    rcases ih (by omega) with ⟨j,o,d,h1,h2,h3,h4⟩|⟨h1,h2⟩
    ·exact .inl ⟨j,o,d,by omega,h2,h3,h4⟩
    ·refine .inr ⟨fun j o d hj ho=>?_,h2⟩;by_cases hji:j=i
     ·subst hji;rw[hgi] at ho;injection ho with ho;rw[ho] at hd;rw[hd];simpa using hdt
     ·exact h1 j o d (by omega) ho
end
end
def rd(ops:Array Oper)(x t:Nat):Bool:=match ops[x]? with|some o=>(eD ops o).contains t|none=>false
def wr(ops:Array Oper)(x:Nat)(f:Nat→Bool):Bool:=match bj ops x with|some t=>f t|none=>true
def wy(ops:Array Oper)(qs ss:List Nat)(hid sp:List (List HS)):Bool:=
 ((List.range ops.size).all fun i=>match ops[i]? with
   |some o=>o.after.toList.all fun e=>!Region.binds .any e || decide (e.on<i)
   |none=>true) &&
 ((List.range ops.size).all fun i=>qs.contains i || ss.contains i)&&((qs++ss).all fun x=>decide (x<ops.size))&&decide ((qs++ss).Nodup)&&decide (hid.length=qs.length)&&decide (sp.length=ss.length) &&
 ((List.range qs.length).all fun p=>(List.range qs.length).all fun q=>wr ops (nth qs q) fun t=>!rd ops (nth qs p) t || (decide (q<p)&&reach ops 6 (nth qs p) (nth qs q)) || decide (q=p) || (decide (p<q)&&reach ops 6 (nth qs q) (nth qs p))) &&
 ((List.range qs.length).all fun p=>(List.range ss.length).all fun j=>wr ops (nth ss j) fun t=>!rd ops (nth qs p) t || reach ops 8 (nth ss j) (nth qs p)) &&
 ((List.range ss.length).all fun j=>(List.range qs.length).all fun p=>wr ops (nth qs p) fun t=>!rd ops (nth ss j) t || reach ops 8 (nth ss j) (nth qs p)) &&
 ((List.range ops.size).all fun i=>(List.range ops.size).all fun j=>decide (i=j) || wr ops i fun t=>decide (bj ops j≠some t)) &&
 ((List.range ss.length).all fun j=>(List.range j).all fun i=>reach ops 8 (nth ss j) (nth ss i)) &&
 ((List.range qs.length).all fun p=>(List.range ss.length).all fun j=>reach ops 8 (nth ss j) (nth qs p) || (nth sp j).all fun s=>(nth hid p).contains s)
structure jT(ops:Array Oper)(qs ss:List Nat)(hid sp:List (List HS)):Prop where
 down:∀(i:Nat)(o:Oper),ops[i]?=some o→∀e∈o.after,Region.binds .any e=true→e.on<i
 all:∀i,i<ops.size→(∃p,p<qs.length∧nth qs p=i)∨(∃j,j<ss.length∧nth ss j=i)
 qlt:∀p,p<qs.length→nth qs p<ops.size
 slt:∀j,j<ss.length→nth ss j<ops.size
 MJ:∀p q,p<qs.length→q<qs.length→nth qs p=nth qs q→p=q
 Cn:∀i j,i<ss.length→j<ss.length→nth ss i=nth ss j→i=j
 qne:∀p j,p<qs.length→j<ss.length→nth qs p≠nth ss j
 hl:hid.length=qs.length
 sl:sp.length=ss.length
 qq:∀p q t o,p<qs.length→q<qs.length→bj ops (nth qs q)=some t→ops[nth qs p]?=some o→t∈eD ops o→(q<p∧reach ops 6 (nth qs p) (nth qs q)=true)∨q=p∨(p<q∧reach ops 6 (nth qs q) (nth qs p)=true)
 sq:∀p j t o,p<qs.length→j<ss.length→bj ops (nth ss j)=some t→ops[nth qs p]?=some o→t∈eD ops o→reach ops 8 (nth ss j) (nth qs p)=true
 qs':∀p j t o,p<qs.length→j<ss.length→bj ops (nth qs p)=some t→ops[nth ss j]?=some o→t∈eD ops o→reach ops 8 (nth ss j) (nth qs p)=true
 once:∀i j t,i<ops.size→j<ops.size→i≠j→bj ops i=some t→bj ops j≠some t
 chain:∀i j,j<ss.length→i<j→reach ops 8 (nth ss j) (nth ss i)=true
 hidden:∀p j,p<qs.length→j<ss.length→reach ops 8 (nth ss j) (nth qs p)=true∨∀s∈nth sp j,s∈nth hid p
section
omit [ah]
theorem jw{α:Type}[Inhabited α]{l:List α}{i:Nat}(h:i<l.length):nth l i∈l:=by
 simp[nth,List.getD_eq_getElem?_getD,List.getElem?_eq_getElem h]
theorem zS{α:Type}[Inhabited α]{l:List α}{i:Nat}(h:i<l.length):l[i]?=some (nth l i):=by
 simp[nth,List.getD_eq_getElem?_getD,List.getElem?_eq_getElem h]
theorem zT{α:Type}[Inhabited α]{l:List α}{x:α}(h:x∈l):∃i,i<l.length∧nth l i=x:=by
 obtain⟨i,hi,rfl⟩:=List.getElem_of_mem h;exact⟨i,hi,by simp[nth,List.getD_eq_getElem?_getD,List.getElem?_eq_getElem hi]⟩
theorem Hh{ops:Array Oper}{qs ss:List Nat}{hid sp:List (List HS)}(h:wy ops qs ss hid sp=true):jT ops qs ss hid sp:=by
 simp only[wy,Bool.and_eq_true,decide_eq_true_eq,List.all_eq_true,List.mem_range,Bool.or_eq_true,List.contains_iff_mem] at h;obtain⟨⟨⟨⟨⟨⟨⟨⟨⟨⟨⟨h1,h2⟩,h3⟩,h4⟩,h5⟩,h6⟩,h7⟩,h8⟩,h9⟩,h10⟩,h11⟩,h12⟩:=h;have hnd:=List.nodup_append.1 h4
 have hinj:∀{l:List Nat},l.Nodup→∀p q,p<l.length→q<l.length→nth l p=nth l q→p=q:=by
  intro l hl p q hp hq he;have h1:=zS hp;have h2:=zS hq;rw[he] at h1;rw[List.getElem?_eq_getElem hp] at h1;rw[List.getElem?_eq_getElem hq] at h2;have h3:l[p]=l[q]:=(Option.some.inj h1).trans (Option.some.inj h2).symm;have h4:=List.pairwise_iff_getElem.1 hl
  rcases Nat.lt_trichotomy p q with h|h|h
  ·exact absurd h3 (h4 p q hp hq h)
  ·exact h
  ·exact absurd h3.symm (h4 q p hq hp h)
 have hrd:∀x t o,ops[x]?=some o→t∈eD ops o→rd ops x t=true:=by
  intro x t o ho ht;simp only[rd,ho,List.contains_iff_mem];exact ht
 have hwr:∀x t f,bj ops x=some t→wr ops x f=true→f t=true:=by
  intro x t f hd hw;simpa only[wr,hd] using hw
 refine⟨fun i o ho e hin hb=>?_,fun i hi=>?_,fun p hp=>?_,fun j hj=>?_,hinj hnd.1,hinj hnd.2.1,fun p j hp hj=>?_,h5,h6,fun p q t o hp hq hd ho ht=>?_,fun p j t o hp hj hd ho ht=>?_,fun p j t o hp hj hd ho ht=>?_,fun i j t hi hj hne hd=>?_,fun i j hj hi=>?_,fun p j hp hj=>?_⟩
 ·have hlt:=(Array.getElem?_eq_some_iff.1 ho).1;have:=h1 i hlt;simp only[ho,List.all_eq_true] at this;have:=this e (Array.mem_toList_iff.2 hin);simpa[hb] using this
 ·rcases h2 i hi with h|h
  ·exact .inl (zT h)
  ·exact .inr (zT h)
 ·exact h3 _ (List.mem_append.2 (.inl (jw hp)))
 ·exact h3 _ (List.mem_append.2 (.inr (jw hj)))
 ·exact hnd.2.2 _ (jw hp) _ (jw hj)
 ·have:=hwr _ _ _ hd (h7 p hp q hq);rw[hrd _ _ _ ho ht] at this;simp only[Bool.not_true,Bool.false_or,Bool.or_eq_true,Bool.and_eq_true,decide_eq_true_eq] at this
  rcases this with (h|h)|h
  ·exact .inl h
  ·exact .inr (.inl h)
  ·exact .inr (.inr h)
 ·have:=hwr _ _ _ hd (h8 p hp j hj);rw[hrd _ _ _ ho ht] at this;simpa using this
 ·have:=hwr _ _ _ hd (h9 j hj p hp);rw[hrd _ _ _ ho ht] at this;simpa using this
 ·rcases h10 i hi j hj with h|h
  ·exact absurd h hne
  ·simpa using hwr _ _ _ hd h
 ·exact h11 j hj i hi
 ·rcases h12 p hp j hj with h|h
  ·exact .inl h
  ·exact .inr h
end
section
variable{P:Program}{ops:Array Oper}{nt:Nat}{qs ss:List Nat}{hid sp:List (List HS)}{e:Env}{h:ab}{n:Nat}
def jU:List Oper→Nat→Oper
 |[],_=>⟨none,.move (.func 0),0, "",#[],none⟩
 |o::_,0=>o
 |_::r,k+1=>jU r k
def rj(ops:Array Oper)(i:Nat):Oper:=jU ops.toList i
def opL(ops:Array Oper):List Nat→List (List HS)→List (Oper×List HS)
 |i::l,d::ds=>(rj ops i,d)::opL ops l ds
 |_,_=>[]
section
omit [ah]
theorem zU:∀(l:List Oper)(i:Nat)(o:Oper),l[i]?=some o→jU l i=o
 |[],i,o,h=>by simp at h
 |x::r,0,o,h=>by simpa[jU] using h
 |x::r,i+1,o,h=>zU r i o (by simpa using h)
theorem er:∀{l:List Nat}{d:List (List HS)},d.length=l.length→(opL ops l d).length=l.length
 |[],[],_=>rfl
 |i::l,d::ds,h=>by simp[opL,er (l:=l) (d:=ds) (by simpa using h)]
 |[],_::_,h=>by simp at h
 |_::_,[],h=>by simp at h
theorem dP:∀{l:List Nat}{d:List (List HS)},d.length=l.length→∀{i:Nat}{o:Oper},i<l.length→ops[nth l i]?=some o→(opL ops l d)[i]?=some (o,nth d i)
 |[],_,_,i,o,hi,_=>by simp at hi
 |_::_,[],h,_,_,_,_=>by simp at h
 |x::l,d::ds,h,0,o,hi,ho=>by
  simp only[opL,List.getElem?_cons_zero,uO] at ho ⊢;rw[show rj ops x=o from zU _ _ _ (by rw[Array.getElem?_toList];exact ho)]
 |x::l,d::ds,h,i+1,o,hi,ho=>by
  simp only[opL,List.getElem?_cons_succ,uP] at ho ⊢;exact dP (by simpa using h) (by simpa using hi) ho
end
structure cM(P:Program)(ops:Array Oper)(nt:Nat)(qs ss:List Nat)(hid sp:List (List HS))(e:Env)(h:ab)(n:Nat)(T:TrQ P ops nt e h n (opL ops qs hid) e h n)
 (E:TrE P ops nt e h n (opL ops ss sp) (T.es qs.length) (T.hs qs.length) (T.ns qs.length)) (B:Base) (w0:Ctx fk) (listed:Array Bool) (j:Nat) (a:Act) (w:World) (m:Mm):Prop where
 base:B.n=w0.w.heap.size
 below:Bel B.n w0.w w
 defers:a.defers=marks w0.ds
 size:a.tmps.size=nt
 heap:aI B (E.hs j) m w
 ids:∀id c,(id,c)∈E.hs j→id<E.ns j
 mono:T.ns qs.length≤E.ns j
 dom:∀id,m.dom id↔id<n∨(∃p,p<qs.length∧listed.getD (nth qs p) false=true∧T.ns p≤id∧id<T.ns p+(T.Es p).length)∨(T.ns qs.length≤id∧id<E.ns j)
 done:∀p t,p<qs.length→listed.getD (nth qs p) false=true→bj ops (nth qs p)=some t→ae B (LB m (E.hs j)) m w (T.vs p) (a.tmps.getD t undef)
 n9:∀i t,i<j→bj ops (nth ss i)=some t→ae B (LB m (E.hs j)) m w (E.vs i) (a.tmps.getD t undef)
 old:∀t,(∀p,p<qs.length→listed.getD (nth qs p) false=true→bj ops (nth qs p)≠some t)→(∀i,i<j→bj ops (nth ss i)≠some t)→ae B (LB m (E.hs j)) m w (get e t) (a.tmps.getD t undef)
 lst:∀i,i<ss.length→(listed.getD (nth ss i) false=true↔i<j)
 jl:j≤ss.length
 fr:jI B w0 (LB m (E.hs j)) m w n
variable{T:TrQ P ops nt e h n (opL ops qs hid) e h n}{E:TrE P ops nt e h n (opL ops ss sp) (T.es qs.length) (T.hs qs.length) (T.ns qs.length)}{B:Base}{w0:Ctx fk}{listed:Array Bool}{j:Nat}{a:Act}{w:World}{m:Mm}
theorem cM.bel{w':World}(hp:cM P ops nt qs ss hid sp e h n T E B w0 listed j a w m)(hb:Bel w.heap.size w w'):cM P ops nt qs ss hid sp e h n T E B w0 listed j a w' m:=by
 have hr:B.n≤w.heap.size:=by have:=hp.below.size;have:=hp.base;omega
 have hm:∀x v,ae B (LB m (E.hs j)) m w x v→ae B (LB m (E.hs j)) m w' x v:=fun x v h=>h.mono (Mm.le.refl m) (fun _ _ x=>x) (fun b hl _=>hb.block b hl)
 exact⟨hp.base,hp.below.trans (hb.mono hr),hp.defers,hp.size,hp.heap.below hb,hp.ids,hp.mono,hp.dom,fun p t hi hl hd=>hm _ _ (hp.done p t hi hl hd),fun i t hi hd=>hm _ _ (hp.n9 i t hi hd),fun t h1 h2=>hm _ _ (hp.old t h1 h2),hp.lst,hp.jl,
  hp.fr.mono (Mm.le.refl m) (fun _ _ x=>x) (fun b hl _=>hb.block b hl) (Nat.le_refl _)⟩
section
omit [ah]
theorem uT(hcl:Closed ops listed){f i k:Nat}(hi:i<ops.size)(hl:listed.getD i false=true)(hr:reach ops f i k=true):listed.getD k false=true:=
 gD hcl f i k ops[i] (Array.getElem?_eq_getElem hi) (fun e hin hb=>hcl i _ (Array.getElem?_eq_getElem hi) hl e hin hb) hr
theorem fG{x:Nat}{o:Oper}(ho:ops[x]?=some o):bj ops x=o.dst:=by simp[bj,ho]
theorem nB{l:List Nat}{d:List (List HS)}(hl:d.length=l.length)(hb:∀i,i<l.length→nth l i<ops.size){i:Nat}{o:Oper}{x:List HS}(ho:(opL ops l d)[i]?=some (o,x)):i<l.length∧ops[nth l i]?=some o∧x=nth d i:=by
 have hi:i<l.length:=by have:=(List.getElem?_eq_some_iff.1 ho).1;rwa [er hl] at this
 have h1:=dP (d:=d) hl hi (Array.getElem?_eq_getElem (hb i hi))
 rw[h1] at ho;injection ho with ho;injection ho with h2 h3
 exact⟨hi,by rw[←h2];exact Array.getElem?_eq_getElem _,h3.symm⟩
end
theorem cM.Co(hp:cM P ops nt qs ss hid sp e h n T E B w0 listed j a w m)(hc:jT ops qs ss hid sp)(hcl:Closed ops listed){p:Nat}{o:Oper}(hpl:p<qs.length)(ho:ops[nth qs p]?=some o)(hun:listed.getD (nth qs p) false=false)(he:∀e∈o.after,Region.binds .any e=true→listed.getD e.on false=true){t:Nat}(ht:t∈eD ops o):ae B (LB m (E.hs j)) m w (get (T.es p) t) (a.tmps.getD t undef):=by
 rcases nz T.es T.vs (fun i o d hi=>(T.step i o d hi).2.2.1) p (by rw[er hc.hl];omega) t with ⟨q,oq,d,h1,h2,h3,h4⟩|⟨h1,h2⟩
 ·obtain⟨hq,hoq,_⟩:=nB hc.hl hc.qlt h2
  have hd:bj ops (nth qs q)=some t:=by rw[fG hoq];exact h3
  rw[h4]
  rcases hc.qq p q t o hpl hq hd ho ht with ⟨_,h⟩|h|⟨h,_⟩
  ·exact hp.done q t hq (gD hcl 6 _ _ o ho he h) hd
  ·omega
  ·omega
 ·rw[h2,T.e0'];refine hp.old t (fun q hq hl hd=>?_) (fun i hi hd=>?_)
  ·rcases hc.qq p q t o hpl hq hd ho ht with ⟨h,_⟩|h|⟨_,h⟩
   ·have hoq:=Array.getElem?_eq_getElem (hc.qlt q hq);exact h1 q _ _ h (dP hc.hl hq hoq) (by rw[←fG hoq];exact hd)
   ·subst h;rw[hun] at hl;cases hl
   ·have:=uT hcl (hc.qlt q hq) hl h;rw[hun] at this;cases this
  ·have hil:i<ss.length:=Nat.lt_of_lt_of_le hi hp.jl;have:=uT hcl (hc.slt i hil) ((hp.lst i hil).2 hi) (hc.sq p i t o hpl hil hd ho ht);rw[hun] at this;cases this
theorem cM.Cp(hp:cM P ops nt qs ss hid sp e h n T E B w0 listed j a w m)(hc:jT ops qs ss hid sp)(hcl:Closed ops listed){o:Oper}(hjl:j<ss.length)(ho:ops[nth ss j]?=some o)(he:∀e∈o.after,Region.binds .any e=true→listed.getD e.on false=true){t:Nat}(ht:t∈eD ops o):ae B (LB m (E.hs j)) m w (get (E.es j) t) (a.tmps.getD t undef):=by
 rcases nz E.es E.vs (fun i o d hi=>(E.step i o d hi).2.2.1) j (by rw[er hc.sl];omega) t with ⟨q,oq,d,h1,h2,h3,h4⟩|⟨h1,h2⟩
 ·obtain⟨hq,hoq,_⟩:=nB hc.sl hc.slt h2;rw[h4];exact hp.n9 q t h1 (by rw[fG hoq];exact h3)
 ·rw[h2,E.e0']
  have hno:∀i,i<j→bj ops (nth ss i)≠some t:=fun i hi hd=>by
   have hil:i<ss.length:=Nat.lt_of_lt_of_le hi hp.jl;have hoi:=Array.getElem?_eq_getElem (hc.slt i hil);exact h1 i _ _ hi (dP hc.sl hil hoi) (by rw[←fG hoi];exact hd)
  rcases nz T.es T.vs (fun i o d hi=>(T.step i o d hi).2.2.1) qs.length (by rw[er hc.hl];omega) t with ⟨q,oq,d,h1,h2,h3,h4⟩|⟨h1,h2⟩
  ·obtain⟨hq,hoq,_⟩:=nB hc.hl hc.qlt h2
   have hd:bj ops (nth qs q)=some t:=by rw[fG hoq];exact h3
   rw[h4];exact hp.done q t hq (gD hcl 8 _ _ o ho he (hc.qs' q j t o hq hjl hd ho ht)) hd
  ·rw[h2,T.e0'];refine hp.old t (fun q hq hl hd=>?_) hno;have hoq:=Array.getElem?_eq_getElem (hc.qlt q hq);exact h1 q _ _ hq (dP hc.hl hq hoq) (by rw[←fG hoq];exact hd)
theorem cM.frame(hp:cM P ops nt qs ss hid sp e h n T E B w0 listed j a w m)(hc:jT ops qs ss hid sp){id:Nat}{c:List AV}(hin:(id,c)∈T.hs qs.length):∀i,i≤j→(∀k,k<i→¬id∈b7 P e h n (nth sp k))→(id,c)∈E.hs i
 |0,_,_=>by rw[E.hz];exact hin
 |i+1,hi,hno=>by
  have h1:=cM.frame hp hc hin i (by omega) (fun k hk=>hno k (by omega));have hil:i<ss.length:=Nat.lt_of_lt_of_le (by omega) hp.jl;have hoi:=Array.getElem?_eq_getElem (hc.slt i hil);obtain⟨_,_,_,h2,h3⟩:=E.step i _ _ (dP hc.sl hil hoi)
  cases hg:E.gs i with
  |true=>exact (h2 hg).2.keep (h2 hg).1 h1 (hno i (by omega))
  |false=>rw[(h3 hg).2.1];exact h1
theorem cM.Cq(hp:cM P ops nt qs ss hid sp e h n T E B w0 listed j a w m)(hc:jT ops qs ss hid sp)(hcl:Closed ops listed){p:Nat}(hpl:p<qs.length)(hun:listed.getD (nth qs p) false=false){id:Nat}(hno:¬id∈b7 P e h n (nth hid p)):∀k,k<j→¬id∈b7 P e h n (nth sp k):=by
 intro k hk hin;have hkl:k<ss.length:=Nat.lt_of_lt_of_le hk hp.jl
 rcases hc.hidden p k hpl hkl with h|h
 ·have:=uT hcl (hc.slt k hkl) ((hp.lst k hkl).2 hk) h;rw[hun] at this;cases this
 ·obtain⟨s,hs,hin⟩:=List.mem_flatMap.1 hin;exact hno (List.mem_flatMap.2 ⟨s,h s hs,hin⟩)
omit [ah] in
theorem zV{i k:Nat}(hi:i<listed.size):(listed.setIfInBounds i true).getD k false=if i=k then true else listed.getD k false:=by
 by_cases h:i=k
 ·subst h;rw[if_pos rfl,Array.getD_eq_getD_getElem?,Array.getElem?_setIfInBounds];simp[hi]
 ·rw[if_neg h];exact getD_set_ne false h
theorem cM.MK(hp:cM P ops nt qs ss hid sp e h n T E B w0 listed j a w m)(hc:jT ops qs ss hid sp){p:Nat}{o:Oper}(hpl:p<qs.length)(ho:ops[nth qs p]?=some o)(hf:listed[nth qs p]?=some false){v':Value}{w':World}{m':Mm}(hdk:dOk nt o.dst)(hpo:dR B (E.hs j) m w (T.ns p) (T.Es p).length (T.vs p) v' w' m'):cM P ops nt qs ss hid sp e h n T E B w0 (listed.setIfInBounds (nth qs p) true) j (a.put o.dst v') w' m':=by
 obtain⟨p1,p2,p3,p4,p5,p6⟩:=hpo
 have hB:B.n≤w.heap.size:=by have:=hp.below.size;have:=hp.base;omega
 have hO:ah.ok w:=ah.keep w0.ok (by have:=hp.below;rw[hp.base] at this;exact this)
 have hmono:∀p v,ae B (LB m (E.hs j)) m w p v→ae B (LB m' (E.hs j)) m' w' p v:=fun p v hr=>hr.mono p1 (fun b hb hn hl=>by
  rcases p5 b hl with h1|h1
  ·exact hn h1
  ·omega) (fun b hb _=>p3.block b hb)
 have hsz:=(Array.getElem?_eq_some_iff.1 hf).1;have hdi:bj ops (nth qs p)=o.dst:=fG ho
 have hsd:dOk a.tmps.size o.dst:=by rw[hp.size];exact hdk
 have hlf:listed.getD (nth qs p) false=false:=by rw[Array.getD_eq_getD_getElem?,hf];rfl
 have a7:∀k,(listed.setIfInBounds (nth qs p) true).getD k false=if nth qs p=k then true else listed.getD k false:=fun k=>zV hsz
 have hqx:∀q,q<qs.length→(nth qs p=nth qs q↔q=p):=fun q hq=>⟨fun h=>(hc.MJ p q hpl hq h).symm,fun h=>by rw[h]⟩
 refine⟨hp.base,hp.below.trans (p3.mono hB),by rw[fC];exact hp.defers,by rw[fB];exact hp.size,p4,hp.ids,hp.mono,fun id=>?_,fun q t hq hl hd=>?_,fun i t hi hd=>?_,fun t hq hi=>?_,fun i hi=>?_,hp.jl,hp.fr.mono p1 (fun b hb hn hl=>by
  rcases p5 b hl with h1|h1
  ·exact hn h1
  ·omega) (fun b hb _=>p3.block b hb) (Nat.le_refl _)⟩
 ·rw[p2,hp.dom];constructor
  ·rintro ((h1|⟨q,h2,h3,h4⟩|h1)|h1)
   ·exact .inl h1
   ·exact .inr (.inl ⟨q,h2,by rw[a7];split<;>simp_all,h4⟩)
   ·exact .inr (.inr h1)
   ·exact .inr (.inl ⟨p,hpl,by rw[a7,if_pos rfl],h1⟩)
  ·rintro (h1|⟨q,h2,h3,h4⟩|h1)
   ·exact .inl (.inl h1)
   ·by_cases hqp:q=p
    ·subst hqp;exact .inr h4
    ·rw[a7,if_neg (fun h=>hqp ((hqx q h2).1 h))] at h3;exact .inl (.inr (.inl ⟨q,h2,h3,h4⟩))
   ·exact .inl (.inr (.inr h1))
 ·rw[jm hsd];by_cases hqp:q=p
  ·subst hqp;rw[hdi] at hd;rw[if_pos hd];exact p6
  ·have hne:nth qs p≠nth qs q:=fun h=>hqp ((hqx q hq).1 h)
   rw[a7,if_neg hne] at hl
   have:o.dst≠some t:=fun hot=>hc.once _ _ t (hc.qlt p hpl) (hc.qlt q hq) hne (by rw[hdi];exact hot) hd
   rw[if_neg this];exact hmono _ _ (hp.done q t hq hl hd)
 ·rw[jm hsd];have hil:i<ss.length:=Nat.lt_of_lt_of_le hi hp.jl
  have:o.dst≠some t:=fun hot=>hc.once _ _ t (hc.qlt p hpl) (hc.slt i hil) (hc.qne p i hpl hil) (by rw[hdi];exact hot) hd
  rw[if_neg this];exact hmono _ _ (hp.n9 i t hi hd)
 ·rw[jm hsd];have h1:=hq p hpl (by rw[a7,if_pos rfl]);rw[hdi] at h1;rw[if_neg h1];refine hmono _ _ (hp.old t (fun q hql hl=>hq q hql ?_) hi)
  rw[a7];split<;>simp_all
 ·rw[a7,if_neg (hc.qne p i hpl hi)];exact hp.lst i hi
theorem cM.ML(hp:cM P ops nt qs ss hid sp e h n T E B w0 listed j a w m)(hc:jT ops qs ss hid sp){o:Oper}(hjl:j<ss.length)(ho:ops[nth ss j]?=some o)(hf:listed[nth ss j]?=some false){v':Value}{w':World}{m':Mm}(hdk:dOk nt o.dst)(hids:∀id c,(id,c)∈E.hs (j+1)→id<E.ns (j+1))(hmon:E.ns j≤E.ns (j+1))(hpo:EPost B (E.hs j) m w (E.ns j) (E.hs (j+1)) (E.ns (j+1)) (E.vs j) v' w' m'):cM P ops nt qs ss hid sp e h n T E B w0 (listed.setIfInBounds (nth ss j) true) (j+1) (a.put o.dst v') w' m':=by
 obtain⟨p1,p2,p3,p4,p5,p6,p7⟩:=hpo
 have hmono:∀p v,ae B (LB m (E.hs j)) m w p v→ae B (LB m' (E.hs (j+1))) m' w' p v:=fun p v hr=>hr.mono p1 p5 p6
 have hsz:=(Array.getElem?_eq_some_iff.1 hf).1;have hdi:bj ops (nth ss j)=o.dst:=fG ho
 have hsd:dOk a.tmps.size o.dst:=by rw[hp.size];exact hdk
 have a7:∀k,(listed.setIfInBounds (nth ss j) true).getD k false=if nth ss j=k then true else listed.getD k false:=fun k=>zV hsz
 have hqn:∀q,q<qs.length→nth ss j≠nth qs q:=fun q hq h=>hc.qne q j hq hjl h.symm
 refine⟨hp.base,hp.below.trans p3,by rw[fC];exact hp.defers,by rw[fB];exact hp.size,p4,hids,Nat.le_trans hp.mono hmon,fun id=>?_,fun q t hq hl hd=>?_,fun i t hi hd=>?_,fun t hq hi=>?_,fun i hi=>?_,by omega,hp.fr.mono p1 p5 p6 (Nat.le_refl _)⟩
 ·rw[p2,hp.dom];have hmn:=hp.mono;constructor
  ·rintro ((h1|⟨q,h2,h3,h4⟩|h1)|h1)
   ·exact .inl h1
   ·exact .inr (.inl ⟨q,h2,by rw[a7,if_neg (hqn q h2)];exact h3,h4⟩)
   ·exact .inr (.inr ⟨h1.1,by omega⟩)
   ·exact .inr (.inr ⟨by omega,h1.2⟩)
  ·rintro (h1|⟨q,h2,h3,h4⟩|h1)
   ·exact .inl (.inl h1)
   ·rw[a7,if_neg (hqn q h2)] at h3;exact .inl (.inr (.inl ⟨q,h2,h3,h4⟩))
   ·by_cases h2:id<E.ns j
    ·exact .inl (.inr (.inr ⟨h1.1,h2⟩))
    ·exact .inr ⟨by omega,h1.2⟩
 ·rw[jm hsd];rw[a7,if_neg (hqn q hq)] at hl
  have:o.dst≠some t:=fun hot=>hc.once _ _ t (hc.slt j hjl) (hc.qlt q hq) (hqn q hq) (by rw[hdi];exact hot) hd
  rw[if_neg this];exact hmono _ _ (hp.done q t hq hl hd)
 ·rw[jm hsd];by_cases hij:i=j
  ·subst hij;rw[hdi] at hd;rw[if_pos hd];exact p7
  ·have hil:i<ss.length:=by omega
   have hne:nth ss j≠nth ss i:=fun h=>hij (hc.Cn j i hjl hil h).symm
   have:o.dst≠some t:=fun hot=>hc.once _ _ t (hc.slt j hjl) (hc.slt i hil) hne (by rw[hdi];exact hot) hd
   rw[if_neg this];exact hmono _ _ (hp.n9 i t (by omega) hd)
 ·rw[jm hsd];have h1:=hi j (by omega);rw[hdi] at h1;rw[if_neg h1];exact hmono _ _ (hp.old t (fun q hql hl=>hq q hql (by rw[a7,if_neg (hqn q hql)];exact hl)) (fun i hi'=>hi i (by omega)))
 ·rw[a7];split
  ·rename_i heq;have:=hc.Cn j i hjl hi heq;simp;omega
  ·rename_i hne;rw[hp.lst i hi]
   have:i≠j:=by rintro rfl;exact hne rfl
   omega
theorem Hi(hc:jT ops qs ss hid sp){K:Exit→St→Prop}(hK:K .normal ⟨E.es ss.length,E.hs ss.length,E.ns ss.length,nt⟩):∀(f:Nat)(listed:Array Bool)(j:Nat)(a:Act)(w:World)(m:Mm),listed.size=ops.size→Closed ops listed→open_ listed≤f→cM P ops nt qs ss hid sp e h n T E B w0 listed j a w m→ew w0.r P .any ops (fun e a w=>∃st' m',K e st'∧Sim B w0 st' a w m') f listed a w:=by
 have last:∀(listed:Array Bool)(j:Nat)(a:Act)(w:World)(m:Mm),(∀i,i<ops.size→listed.getD i false=true)→cM P ops nt qs ss hid sp e h n T E B w0 listed j a w m→∃st' m',K .normal st'∧Sim B w0 st' a w m':=by
  intro listed j a w m hall hp
  have hj:j=ss.length:=by
   have:=hp.jl
   rcases Nat.lt_or_ge j ss.length with h1|h1
   ·have:=(hp.lst j h1).1 (hall _ (hc.slt j h1));omega
   ·omega
  subst hj;refine⟨_,m,hK,hp.base,hp.below,hp.defers,hp.size,fun t=>?_,hp.heap,fun id=>?_,hp.ids,hp.fr.mono (Mm.le.refl m) (fun _ _ h=>h) (fun _ _ _=>rfl) (by have h1:=T.eE (i:=0) (j:=qs.length) (by omega) (by rw[er hc.hl];omega);rw[T.n0'] at h1;exact Nat.le_trans h1 hp.mono)⟩
  ·show ae _ _ _ _ (get (E.es ss.length) t) _
   rcases nz E.es E.vs (fun i o d hi=>(E.step i o d hi).2.2.1) ss.length (by rw[er hc.sl];omega) t with ⟨q,oq,d,h1,h2,h3,h4⟩|⟨h1,h2⟩
   ·obtain⟨hq,hoq,_⟩:=nB hc.sl hc.slt h2;rw[h4];exact hp.n9 q t h1 (by rw[fG hoq];exact h3)
   ·rw[h2,E.e0']
    have hno:∀i,i<ss.length→bj ops (nth ss i)≠some t:=fun i hi hd=>by
     have hoi:=Array.getElem?_eq_getElem (hc.slt i hi);exact h1 i _ _ hi (dP hc.sl hi hoi) (by rw[←fG hoi];exact hd)
    rcases nz T.es T.vs (fun i o d hi=>(T.step i o d hi).2.2.1) qs.length (by rw[er hc.hl];omega) t with ⟨q,oq,d,h1,h2,h3,h4⟩|⟨h1,h2⟩
    ·obtain⟨hq,hoq,_⟩:=nB hc.hl hc.qlt h2;rw[h4];exact hp.done q t hq (hall _ (hc.qlt q hq)) (by rw[fG hoq];exact h3)
    ·rw[h2,T.e0'];refine hp.old t (fun q hq hl hd=>?_) hno;have hoq:=Array.getElem?_eq_getElem (hc.qlt q hq);exact h1 q _ _ hq (dP hc.hl hq hoq) (by rw[←fG hoq];exact hd)
  ·rw[hp.dom];show _↔id<E.ns ss.length
   have hsteps:∀i,i≤qs.length→(id<T.ns i↔id<n∨∃j,j<i∧T.ns j≤id∧id<T.ns j+(T.Es j).length):=by
    intro i
    induction i with
    |zero=>intro _;rw[T.n0'];constructor
           ·exact .inl
           ·rintro (h|⟨j,h,_⟩)
            ·exact h
            ·omega
    |succ i ih=>
     intro hi;have hoi:=Array.getElem?_eq_getElem (hc.qlt i (by omega));have hst:=(T.step i _ _ (dP hc.hl (by omega) hoi)).2.2.2.2.1;rw[hst];constructor
     ·intro h1
      rcases Nat.lt_or_ge id (T.ns i) with h2|h2
      ·rcases (ih (by omega)).1 h2 with h3|⟨j,h3,h4⟩
       ·exact .inl h3
       ·exact .inr ⟨j,by omega,h4⟩
      ·exact .inr ⟨i,by omega,h2,h1⟩
     ·rintro (h1|⟨j,h1,h2,h3⟩)
      ·have:=(ih (by omega)).2 (.inl h1);omega
      ·by_cases hji:j=i
       ·subst hji;exact h3
       ·have:=(ih (by omega)).2 (.inr ⟨j,by omega,h2,h3⟩);omega
   have h1:=hsteps qs.length (Nat.le_refl _);have h2:=hp.mono;constructor
   ·rintro (h3|⟨p,h3,_,h4⟩|h3)
    ·have:=h1.2 (.inl h3);omega
    ·have:=h1.2 (.inr ⟨p,h3,h4⟩);omega
    ·exact h3.2
   ·intro h3
    rcases Nat.lt_or_ge id (T.ns qs.length) with h4|h4
    ·rcases h1.1 h4 with h5|⟨p,h5,h6⟩
     ·exact .inl h5
     ·exact .inr (.inl ⟨p,h5,hall _ (hc.qlt p h5),h6⟩)
    ·exact .inr (.inr ⟨h4,h3⟩)
 have noready:∀(listed:Array Bool),listed.size=ops.size→(∀i,i<ops.size→listed.getD i false=true)→Region.ready .any ops listed=[]:=by
  intro listed hsz hall
  cases hr:Region.ready .any ops listed with
  |nil=>rfl
  |cons x xs=>
   obtain⟨o,ho,hf,_⟩:=iA hsz (i:=x) (by rw[hr];simp);have:=hall x (Array.getElem?_eq_some_iff.1 ho).1;rw[Array.getD_eq_getD_getElem?,hf] at this;cases this
 intro f
 induction f with
 |zero=>
  intro listed j a w m hsz hcl hop hp
  have hall:∀i,i<ops.size→listed.getD i false=true:=fun i hi=>j6 (Nat.le_zero.1 hop) (by omega)
  exact⟨noready listed hsz hall,last listed j a w m hall hp⟩
 |succ f ih=>
  intro listed j a w m hsz hcl hop hp;refine⟨fun hnil=>?_,fun x hx=>?_⟩
  ·refine last listed j a w m (fun i hi=>?_) hp
   cases hq:listed.getD i false with
   |true=>rfl
   |false=>exact absurd hnil (lB hsz hc.down i hi hq)
  ·obtain⟨o,ho,hf,he⟩:=iA hsz hx;have hxs:=(Array.getElem?_eq_some_iff.1 ho).1
   have hlf:listed.getD x false=false:=by rw[Array.getD_eq_getD_getElem?,hf];rfl
   unfold fH;rw[ho];intro w e1;replace hp:=hp.bel (EnvD.ext e1)
   have hB:B.n≤w.heap.size:=by have:=hp.below.size;have:=hp.base;omega
   have hO:ah.ok w:=ah.keep w0.ok (by have:=hp.below;rw[hp.base] at this;exact this)
   have hop':open_ (listed.setIfInBounds x true)≤f:=by have:=j5 hf;omega
   rcases hc.all x hxs with ⟨p,hpl,rfl⟩|⟨i,hil,rfl⟩
   ·obtain⟨hdk,hw,_,_,_,hq1,hq2⟩:=T.step p o _ (dP hc.hl hpl ho)
    have hnext:∀v' w' m',dR B (E.hs j) m w (T.ns p) (T.Es p).length (T.vs p) v' w' m'→ew w0.r P .any ops (fun e a w=>∃st' m',K e st'∧Sim B w0 st' a w m') f (listed.setIfInBounds (nth qs p) true) (a.put o.dst v') w':=by
     intro v' w' m' hpost;exact ih _ j _ w' m' (by simpa using hsz) (hcl.set ho he) hop' (hp.MK hc hpl ho hf hdk hpost)
    have hlen:=er (ops:=ops) hc.hl;simp only[sR hw (fun t ht=>hp.Co hc hcl hpl ho hlf he ht)]
    cases hg:T.gs p with
    |true=>
     simp only[if_true];obtain⟨hq3,hq4⟩:=hq1 hg;refine eO (Bq hq3) (hq3.sound o hO hp.heap hB (fun id cs hl=>?_) (fun q cs hl=>?_) (fun q hq hd=>?_) (fun y hy=>?_) _ _ (fun v' w' m' hpost=>hnext v' w' m' hpost))
     ·obtain⟨h1,h2⟩:=uS hl;exact hp.frame hc (T.nR (i:=p) (by omega) (by omega) h1) j (Nat.le_refl _) (hp.Cq hc hcl hpl hlf h2)
     ·have hql:=(List.getElem?_eq_some_iff.1 hl).1;refine hp.frame hc (T.nR (i:=p+1) (by omega) (by omega) ?_) j (Nat.le_refl _) (hp.Cq hc hcl hpl hlf (zP hq4 hql));rw[(T.step p o _ (dP hc.hl hpl ho)).2.2.2.1];exact (fD _ _ _ _ _).2 (.inr ⟨q,hl,rfl⟩)
     ·have hnx:n≤T.ns p:=by have:=T.eE (i:=0) (j:=p) (by omega) (by omega);rw[T.n0'] at this;exact this
      have hsx:=(T.step p o _ (dP hc.hl hpl ho)).2.2.2.2.1;have hmx:=T.eE (i:=p+1) (j:=qs.length) (by omega) (by omega)
      rcases (hp.dom _).1 hd with h1|⟨k,hk,hl,h2,h3⟩|h1
      ·omega
      ·have hkx:k≠p:=by
        rintro rfl
        rw[hlf] at hl;cases hl
       have hsk:=(T.step k _ _ (dP hc.hl hk (Array.getElem?_eq_getElem (hc.qlt k hk)))).2.2.2.2.1
       rcases Nat.lt_or_ge k p with h4|h4
       ·have:=T.eE (i:=k+1) (j:=p) (by omega) (by omega);omega
       ·have:=T.eE (i:=p+1) (j:=k) (by omega) (by omega);omega
      ·omega
     ·refine gA y (fun t e=>?_);subst e;exact hp.Co hc hcl hpl ho hlf he (sQ hy)
    |false=>
     simp only[Bool.false_eq_true,if_false];obtain⟨h1,h2⟩:=hq2 hg;refine hnext undef w m ?_;rw[h1,h2];exact⟨Mm.le.refl m,fun i=>⟨.inl,fun h=>h.elim id fun h=>by simp at h;omega⟩,Bel.refl _ _,hp.heap,fun b hb=>.inl hb,.tup rfl (fun j p v hp=>by simp at hp)⟩
   ·have hij:i=j:=by
     have h1:¬i<j:=fun h=>by
      have:=(hp.lst i hil).2 h;rw[hlf] at this;cases this
     rcases Nat.lt_or_ge j i with h2|h2
     ·have h3:=gD hcl 8 _ _ o ho he (hc.chain j i hil h2);have:=(hp.lst j (by omega)).1 h3;omega
     ·omega
    subst hij;obtain⟨hdk,hw,_,hq1,hq2⟩:=E.step i o _ (dP hc.sl hil ho)
    have hnext:∀v' w' m',(∀id c,(id,c)∈E.hs (i+1)→id<E.ns (i+1))→E.ns i≤E.ns (i+1)→EPost B (E.hs i) m w (E.ns i) (E.hs (i+1)) (E.ns (i+1)) (E.vs i) v' w' m'→ew w0.r P .any ops (fun e a w=>∃st' m',K e st'∧Sim B w0 st' a w m') f (listed.setIfInBounds (nth ss i) true) (a.put o.dst v') w':=by
     intro v' w' m' h1 h2 hpost;exact ih _ (i+1) _ w' m' (by simpa using hsz) (hcl.set ho he) hop' (hp.ML hc hil ho hf hdk h1 h2 hpost)
    simp only[sR hw (fun t ht=>hp.Cp hc hcl hil ho he ht)]
    cases hg:E.gs i with
    |true=>
     simp only[if_true];refine eO (oZ (hq1 hg).2) (xD o (hq1 hg).2 hO hp.heap hB (fun k hk hd=>?_) hp.ids (fun y hy=>?_) _ _ (fun v v' h' n' w' m' hkk hpo hn hid=>?_))
     ·have hmx:=hp.mono
      have hn0:n≤T.ns qs.length:=by have:=T.eE (i:=0) (j:=qs.length) (by omega) (by rw[er hc.hl];omega);rw[T.n0'] at this;exact this
      rcases (hp.dom _).1 hd with h1|⟨q,hq,hl,h2,h3⟩|h1
      ·omega
      ·have hsk:=(T.step q _ _ (dP hc.hl hq (Array.getElem?_eq_getElem (hc.qlt q hq)))).2.2.2.2.1;have:=T.eE (i:=q+1) (j:=qs.length) (by omega) (by rw[er hc.hl];omega);omega
      ·omega
     ·refine gA y (fun t e=>?_);subst e;exact hp.Cp hc hcl hil ho he (sQ hy)
     ·obtain⟨rfl,rfl,rfl⟩:=hkk;exact hnext v' w' m' hid hn hpo
    |false=>
     simp only[Bool.false_eq_true,if_false];obtain⟨h1,h2,h3⟩:=hq2 hg;refine hnext undef w m (by rw[h2,h3];exact hp.ids) (by rw[h3];exact Nat.le_refl _) ?_;rw[h1,h2,h3];exact⟨Mm.le.refl m,gC,Bel.refl _ _,hp.heap,fun b _ h=>h,fun b _ _=>rfl,.tup rfl (fun j p v hp=>by simp at hp)⟩
theorem qo{K:Exit→St→Prop}(qs ss:List Nat)(hid sp:List (List HS)){id:Nat}(hm:P.follows .mixedOrders=true)(hchk:wy ops qs ss hid sp=true)(hk:ea P ops nt e h n (opL ops qs hid) e h n fun e' h' n'=>fT P ops nt e h n (opL ops ss sp) e' h' n' fun e'' h'' n''=>K .normal ⟨e'',h'',n'',nt⟩):aG fk P (.region id ops true) ⟨e,h,n,nt⟩ K:=by
 intro B w0 a w m hs;have hc:=Hh hchk;obtain⟨T,hK⟩:=zQ _ _ _ _ hk;rw[er hc.hl] at hK;obtain⟨E,hK⟩:=zR _ _ _ _ hK;rw[er hc.sl] at hK
 refine r4 hm fun w e1=>?_
 replace hs:=hs.move e1
 have hs':Sim B w0 ⟨e,h,n,nt⟩ a { w with drawn:=w.drawn+1 } m:=by
  have hb:Bel w.heap.size w { w with drawn:=w.drawn+1 }:=(Bel.refl _ _).drew;have hB:=hs.room;exact⟨hs.base,hs.below.trans (hb.mono hB),hs.defers,hs.size,fun t=>(hs.env t).mono (Mm.le.refl m) (fun _ _ h=>h) (fun b hb' _=>hb.block b hb'),hs.heap.below hb,hs.dom,hs.ids,hs.fr.mono (Mm.le.refl m) (fun _ _ h=>h) (fun b hb' _=>hb.block b hb') (Nat.le_refl _)⟩
 have hquiet:∀i,i≤qs.length→aI B (T.hs i) m { w with drawn:=w.drawn+1 }∧LB m (T.hs i)=LB m h∧(∀id c,(id,c)∈T.hs i→id<T.ns i):=by
  intro i
  induction i with
  |zero=>intro _;rw[T.hz,T.n0'];exact⟨hs'.heap,rfl,hs'.ids⟩
  |succ i ih=>
   intro hi;obtain⟨h1,h2,h3⟩:=ih (by omega);have hst:=T.step i _ _ (dP hc.hl (by omega) (Array.getElem?_eq_getElem (hc.qlt i (by omega))))
   have hn:n≤T.ns i:=by have:=T.eE (i:=0) (j:=i) (by omega) (by rw[er hc.hl];omega);rw[T.n0'] at this;exact this
   obtain⟨h4,h5⟩:=oY (T.Es i) (T.hs i) (T.ns i) h1 (fun j hj hdj=>by have:=(hs'.dom j).1 hdj;simp only at this;omega) h3;rw[hst.2.2.2.1];refine⟨h4,h5.trans h2,fun id c hin=>?_⟩;rw[hst.2.2.2.2.1]
   rcases (fD _ _ _ _ _).1 hin with h6|⟨q,h6,rfl⟩
   ·have:=h3 id c h6;omega
   ·have:=(List.getElem?_eq_some_iff.1 h6).1;omega
 obtain⟨h1,h2,h3⟩:=hquiet qs.length (Nat.le_refl _)
 have hf:∀i,(Array.replicate ops.size false).getD i false=false:=by
  intro i;rw[Array.getD_eq_getD_getElem?,Array.getElem?_replicate]
  split<;>rfl
 refine Hi hc hK ops.size _ 0 a _ m (by simp) (fun i o ho hl=>by rw[hf] at hl;cases hl) ?_ ⟨hs'.base,hs'.below,hs'.defers,hs'.size,by rw[E.hz];exact h1,by rw[E.hz,E.n0'];exact h3,by rw[E.n0'];exact Nat.le_refl _,fun id=>?_,
  (fun p t hp hl=>by rw[hf] at hl;cases hl),(fun i t hi=>by omega),fun t _ _=>?_,fun i _=>?_,Nat.zero_le _,by rw[E.hz,h2];exact hs'.fr⟩
 ·unfold open_;refine Nat.le_trans List.countP_le_length ?_;simp
 ·rw[hs'.dom,E.n0'];constructor
  ·exact .inl
  ·rintro (h|⟨i,_,hl,_⟩|h)
   ·exact h
   ·rw[hf] at hl;cases hl
   ·omega
 ·rw[E.hz,h2];exact hs'.env t
 ·rw[hf];constructor
  ·intro h;cases h
  ·intro h;omega
end
section
variable{P:Program}{ops:Array Oper}{nt:Nat}{e0:Env}{h0:ab}{n0:Nat}
@[congr] theorem RH{os:List (Oper×List HS)}{e e':Env}{h h':ab}{n n':Nat}{K:Env→ab→Nat→Prop}(h1:e=e')(h2:h=h')(h3:n=n'):ea P ops nt e0 h0 n0 os e h n K=ea P ops nt e0 h0 n0 os e' h' n' K:=by rw[h1,h2,h3]
@[congr] theorem RJ{os:List (Oper×List HS)}{e e':Env}{h h':ab}{n n':Nat}{K:Env→ab→Nat→Prop}(h1:e=e')(h2:h=h')(h3:n=n'):fT P ops nt e0 h0 n0 os e h n K=fT P ops nt e0 h0 n0 os e' h' n' K:=by rw[h1,h2,h3]
section
omit [ah]
@[simp] theorem RK(e:Env)(h:ab)(n:Nat):b7 P e h n []=[]:=rfl
@[simp] theorem RO(e:Env)(h:ab)(n k:Nat)(l:List HS):b7 P e h n (.new k::l)=kZ P e h n (.new k)::b7 P e h n l:=rfl
@[simp] theorem RP(e:Env)(h:ab)(n t:Nat)(l:List HS):b7 P e h n (.slot t::l)=kZ P e h n (.slot t)::b7 P e h n l:=rfl
@[simp] theorem RQ(e:Env)(h:ab)(n t s f:Nat)(l:List HS):b7 P e h n (.fld t s f::l)=kZ P e h n (.fld t s f)::b7 P e h n l:=rfl
@[simp] theorem RR(e:Env)(h:ab)(n:Nat)(l:List HS):b7 P e h n (.all::l)=List.range n++b7 P e h n l:=rfl
@[simp] theorem RS(e:Env)(h:ab)(n k:Nat):kZ P e h n (.new k)=n+k:=rfl
@[simp] theorem RU(e:Env)(h:ab)(n t:Nat):kZ P e h n (.slot t)=kY (get e t):=rfl
@[simp] theorem RV(e:Env)(h:ab)(n t s f:Nat):kZ P e h n (.fld t s f)=idF h (get e t) (fOf P s f):=rfl
@[simp] theorem RX(a b c:Nat):kY (.ptr a b c)=a:=rfl
@[simp] theorem RY(a b c d e:Nat):kY (.msl a b c d e)=a:=rfl
@[simp] theorem RZ(o f:Bool)(p:PV):kY (.w o f p)=1000000007:=rfl
end
attribute [simp] idF
section
omit [ah]
theorem zW:∀h:ab,dm [] h=h
 |[]=>rfl
 |(k,v)::r=>by simp[dm,zW r]
@[simp] theorem R3(D:List Nat):dm D []=[]:=rfl
theorem zX(D:List Nat)(k:Nat)(v:List AV)(r:ab):dm D ((k,v)::r)=if k∈D then dm D r else (k,v)::dm D r:=rfl
@[simp] theorem R4{D:List Nat}{k:Nat}(v:List AV)(r:ab)(h:k∈D):dm D ((k,v)::r)=dm D r:=by rw[zX,if_pos h]
@[simp] theorem R5{D:List Nat}{k:Nat}(v:List AV)(r:ab)(h:¬k∈D):dm D ((k,v)::r)=(k,v)::dm D r:=by rw[zX,if_neg h]
@[simp] theorem R6(D:List Nat)(n:Nat):gq D n []=True:=rfl
@[simp] theorem R7(D:List Nat)(n:Nat)(c:List AV)(E:List (List AV)):gq D n (c::E)=(¬n∈D∧gq D (n+1) E):=rfl
theorem zY:∀(n:Nat)(E:List (List AV)),gq [] n E=True
 |_,[]=>rfl
 |n,_::E=>by simp[gq,zY (n+1) E]
@[simp] theorem R8(a b c:Nat)(D:List Nat):re (.ptr a b c) D=(a∈D):=rfl
end
attribute [simp] mD
section
omit [ah]
@[simp] theorem R9(env:Env)(t:TypeId)(ad x:Operand)(D:List Nat):touch env (.store t ad x) D=re (ev env ad) D:=rfl
@[simp] theorem Sa(env:Env)(args:Array Operand)(tys:Array TypeId)(D:List Nat):touch env (.call ⟨.builtin .append,args,tys⟩) D=mD env args.toList D:=rfl
@[simp] theorem Sb(env:Env)(f:Operand)(args:Array Operand)(tys:Array TypeId)(D:List Nat):touch env (.call ⟨.value f,args,tys⟩) D=True:=rfl
@[simp] theorem Sc(env:Env)(args:Array Operand)(tys:Array TypeId)(D:List Nat):touch env (.call ⟨.builtin .len,args,tys⟩) D=True:=rfl
@[simp] theorem Sd(env:Env)(x:Operand)(D:List Nat):touch env (.assign x) D=True:=rfl
@[simp] theorem Se(env:Env)(x:Operand)(D:List Nat):touch env (.move x) D=True:=rfl
@[simp] theorem Sf(env:Env)(o:BinOp)(t:TypeId)(x y:Operand)(u:TypeId)(D:List Nat):touch env (.binOp o t x y u) D=True:=rfl
@[simp] theorem Sg(env:Env)(t:TypeId)(x:Operand)(D:List Nat):touch env (.load t x) D=True:=rfl
@[simp] theorem Sj(env:Env)(t:TypeId)(D:List Nat):touch env (.alloc t) D=True:=rfl
@[simp] theorem Sk(env:Env)(t:TypeId)(x:Operand)(D:List Nat):touch env (.box t x) D=True:=rfl
@[simp] theorem Sm(env:Env)(t:TypeId)(x:Operand)(f:Nat)(D:List Nat):touch env (.fieldAddr t x f) D=True:=rfl
@[simp] theorem Sn(env:Env)(t:TypeId)(x i:Operand)(D:List Nat):touch env (.indexAddr t x i) D=True:=rfl
@[simp] theorem So(env:Env)(x:Operand)(i:Nat)(D:List Nat):touch env (.extract x i) D=True:=rfl
@[simp] theorem Sq(env:Env)(a b:TypeId)(x:Operand)(D:List Nat):touch env (.convert a b x) D=True:=rfl
@[simp] theorem Sr(env:Env)(t:TypeId)(x:Operand)(l u m:Option Operand)(D:List Nat):touch env (.slice t x l u m) D=True:=rfl
@[simp] theorem Ss(env:Env)(t:TypeId)(p:Array (Nat×Operand))(D:List Nat):touch env (.build t p) D=True:=rfl
@[simp] theorem Su(env:Env)(t:TypeId)(x:Operand)(f:Nat)(D:List Nat):touch env (.field t x f) D=True:=rfl
@[simp] theorem Sv(env:Env)(x:Operand)(D:List Nat):touch env (.nilCheck x) D=True:=rfl
@[simp] theorem Sw(env:Env)(c x y:Operand)(D:List Nat):touch env (.pick c x y) D=True:=rfl
@[simp] theorem Sx(i:Nat)(l:List Nat)(d:List HS)(ds:List (List HS)):opL ops (i::l) (d::ds)=(rj ops i,d)::opL ops l ds:=rfl
@[simp] theorem Sy:opL ops [] []=[]:=rfl
@[simp] theorem Sz(l:List Oper)(i:Nat):rj l.toArray i=jU l i:=rfl
@[simp] theorem SB(o:Oper)(r:List Oper):jU (o::r) 0=o:=rfl
@[simp] theorem SC(o:Oper)(r:List Oper)(k:Nat):jU (o::r) (k+1)=jU r k:=rfl
end
variable{env:Env}{h:ab}{n:Nat}
@[simp ↓] theorem SD(K:Env→ab→Nat→Prop):ea P ops nt e0 h0 n0 [] env h n K=K env h n:=rfl
@[simp ↓] theorem SE(K:Env→ab→Nat→Prop):fT P ops nt e0 h0 n0 [] env h n K=K env h n:=rfl
section
variable{dst:Option Tmp}{op:Op}{ty:TypeId}{pos:String}{after:Array Edge}{j:Nat}{want:Bool}{d:HS}{ds:List HS}{os:List (Oper×List HS)}{K:Env→ab→Nat→Prop}
@[simp ↓] theorem SF:ea P ops nt e0 h0 n0 ((⟨dst,op,ty,pos,after,none⟩,[])::os) env h n K=(dOk nt dst∧aL P env h n op fun v E=>ea P ops nt e0 h0 n0 os (put env dst v) (aM h n E) (n+E.length) K):=by
 simp[ea,cg,zW,zY]
@[simp ↓] theorem SG:ea P ops nt e0 h0 n0 ((⟨dst,op,ty,pos,after,none⟩,d::ds)::os) env h n K=(dOk nt dst∧aL P env (dm (b7 P e0 h0 n0 (d::ds)) h) n op fun v E=>gq (b7 P e0 h0 n0 (d::ds)) n E∧ea P ops nt e0 h0 n0 os (put env dst v) (aM h n E) (n+E.length) K):=by
 simp[ea,cg]
@[simp ↓] theorem SH{ds:List HS}:fT P ops nt e0 h0 n0 ((⟨dst,op,ty,pos,after,none⟩,ds)::os) env h n K=(dOk nt dst∧touch env op (b7 P e0 h0 n0 ds)∧aN P env h n op fun v h' n'=>fT P ops nt e0 h0 n0 os (put env dst v) h' n' K):=by
 simp[fT,cg]
end
end
def pk(c:Option (List AV))(k:Nat)(r:ab):ab:=match c with|some c=>(k,c)::r|none=>r
omit [ah] in
@[simp] theorem SI(c:List AV)(k:Nat)(r:ab):pk (some c) k r=(k,c)::r:=rfl
def dH(h:ab):List Nat→ab
 |[]=>[]
 |k::ks=>pk (aK h k) k (dH h ks)
omit [ah] in
@[simp] theorem SJ(h:ab):dH h []=[]:=rfl
omit [ah] in
@[simp] theorem SK(h:ab)(k:Nat)(ks:List Nat):dH h (k::ks)=pk (aK h k) k (dH h ks):=rfl
theorem cT{P:Program}{K:Exit→St→Prop}{c:Code}{id:Nat}{env:Env}{h:ab}{n nt:Nat}{α β:Type}(J:α→Prop)(ks:List Nat)(mods:α→Env)(hks:List Nat)(hm:α→ab)(μ:α→Nat)(F:β→Prop)(fks:List Nat)(fmods:β→Env)(fhks:List Nat)(fhm:β→ab)(x0:α)(hJ:J x0)(h0:mC env n (mods x0++cG env ks))(h1:kW h n (hm x0++dH h hks))(round:∀x,J x→aG fk P c ⟨mods x++cG env ks,hm x++dH h hks,n,nt⟩ (fL fk J (fun x=>⟨mods x++cG env ks,hm x++dH h hks,n,nt⟩) μ x (jd fk id F (fun y=>⟨fmods y++cG env fks,fhm y++dH h fhks,n,nt⟩) K)))(after:∀y,F y→K .normal ⟨fmods y++cG env fks,fhm y++dH h fhks,n,nt⟩):aG fk P (.block id (.loop c)) ⟨env,h,n,nt⟩ K:=
 uR J ks mods (fun x=>hm x++dH h hks) μ F fks fmods (fun y=>fhm y++dH h fhks) x0 hJ h0 h1 round after
end Go.Fi
