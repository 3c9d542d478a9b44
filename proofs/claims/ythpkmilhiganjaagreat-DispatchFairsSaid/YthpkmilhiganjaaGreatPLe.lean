/- Lemmas. -/
import Derived.Test.YthpkmilhiganjaaGreatPLd
set_option linter.all false
set_option maxHeartbeats 32000000
set_option maxRecDepth 100000
namespace Go.Fi
open Go Go.RowKit
variable[bE]
variable{fk:Fk}
inductive HS where
 |new (k:Nat)
 |slot (t:Nat)
 |fld (t:Nat) (s:TypeId) (f:Nat)
 |all
 deriving DecidableEq,Inhabited
def qK:AV->Nat
 |.ptr id _ _=>id
 |.msl id _ _ _ _=>id
 |.mp id=>id
 |_=>1000000007
def idF(h:bz)(v:AV)(o:Option (Nat×Nat×Bool)):Nat:=
 match v,o with
 |.ptr id _ off,some (o,_,_)=>match bY h id with
  |some c=>qK (jF c (off+o))
  |none=>1000000007
 |_,_=>1000000007
def qL(P:Program)(e:Env)(h:bz)(n:Nat):HS->Nat
 |.new k=>n+k
 |.slot t=>qK (get e t)
 |.fld t s f=>idF h (get e t) (fOf P s f)
 |.all=>1000000007
def Tc(P:Program)(e:Env)(h:bz)(n:Nat):HS->List Nat
 |.all=>List.range n
 |s=>[qL P e h n s]
def fP(P:Program)(e:Env)(h:bz)(n:Nat)(l:List HS):List Nat:=l.flatMap (Tc P e h n)
def hY(D:List Nat):bz->bz
 |[]=>[]
 |(k,v)::r=>if k∈D then hY D r else (k,v)::hY D r
def mG(D:List Nat):Nat->List (List AV)->Prop
 |_,[]=>True
 |n,_::E=>¬n∈D/\mG D (n+1) E
omit [bE] in
theorem Bb{D:List Nat}:∀{h:bz}{id:Nat}{c:List AV},bY (hY D h) id=some c->(id,c)∈h/\¬id∈D
 |[],id,c,e=>by cases e
 |(k,v)::r,id,c,e=>by
  simp only[hY] at e;split at e
  .obtain⟨h1,h2⟩:=Bb e;simp_all
  .rename_i hk;simp only[bY] at e;split at e
   .simp_all
   .obtain⟨h1,h2⟩:=Bb e;simp_all
omit [bE] in
theorem Gp{D:List Nat}:∀{E:List (List AV)}{n k:Nat},mG D n E->k<E.length->¬n+k∈D
 |[],n,k,_,hk=>by simp at hk
 |_::E,n,0,h,_=>h.1
 |_::E,n,k+1,h,hk=>by
  have:=Gp (k:=k) h.2 ak
  rwa [show n+1+k=n+(k+1) by omega] at this
def su(env:Env)(args:List Operand)(D:List Nat):Prop:=
 match args with
 |x::_=>match ev env x with
  |.msl id _ _ _ _=>id∈D
  |_=>True
 |[]=>True
def xE(v:AV)(D:List Nat):Prop:=
 match v with
 |.ptr id _ _=>id∈D
 |_=>False
def xF(v:AV)(D:List Nat):Prop:=
 match v with
 |.mp id=>id∈D
 |_=>False
def touch(env:Env)(op:Op)(D:List Nat):Prop:=
 match op with
 |.store _ ad _=>xE (ev env ad) D
 |.call { callee:=.builtin .append,args:=args,argTypes:=_ }=>su env args.toList D
 |.call { callee:=.builtin .copy,args:=args,argTypes:=_ }=>su env args.toList D
 |.mapUpdate _ mo _ _=>xF (ev env mo) D
 |_=>True
def EF(P:Program)(env:Env)(h:bz)(n:Nat)(op:Op)(v:AV)(h':bz)(n':Nat):Prop:=df P env h n op λv1 h1 n1=>v1=v/\h1=h'/\n1=n'
section
variable{P:Program}{env:Env}{h:bz}{n:Nat}
theorem QF.q{op:Op}{v:AV}{E:List (List AV)}{K:AV->List (List AV)->Prop}(hq:QF P env h n op v E)(hk:K v E):de P env h n op K:=by
 rcases hq with ⟨c,h0,hc⟩|⟨f,args,tys,g,bT,pvs,res,fr,rfl,hf,hp,⟨hr,cm,rfl,rfl⟩|⟨E0,v0,hr,rfl,rfl⟩⟩
 .unfold de;split
  .simp[aOp] at h0
  grind
 .simp only[de,hf,rO,hp];exact .inl ⟨res,fr,hr,cm,hk⟩
 .simp only[de,hf,rO,hp];exact .inr ⟨E0,v0,hr,hk⟩
theorem df.ef{op:Op}{K:AV->bz->Nat->Prop}(he:df P env h n op K):∃v h' n',EF P env h n op v h' n'/\K v h' n':=by
 have quiet:∀op,de P env h n op (λv E=>K v (ck h n E) (n+E.length))->∃v h' n',de P env h n op (λv1 E=>v1=v/\ck h n E=h'/\n+E.length=n')/\K v h' n':=by
  intro op hq;obtain⟨v,E,hq,hk⟩:=hq.qf;exact⟨v,_,_,hq.q ⟨rfl,rfl,rfl⟩,hk⟩
 unfold df at he;unfold EF df;split at he
 .unfold nZ at he ⊢;split at he
  .split at he
   .rename_i e;simp only[e];exact⟨_,_,_,⟨he.1,rfl,rfl,rfl⟩,he.2⟩
   .exact he.elim
  .exact he.elim
 .unfold nY at he ⊢;split at he
  .split at he
   .split at he
    .split at he
     .split at he
      .rename_i e;simp only[e];exact⟨_,_,_,⟨he.1,rfl,rfl,rfl⟩,he.2⟩
      .exact he.elim
     .rename_i own k cells es
      cases ag:(own&&decide (k=0)&&cells.isEmpty) with
      |true=>
       rw[ag] at he;simp only[cond_true] at he ⊢;exact⟨_,_,_,⟨he.1,rfl,rfl,rfl⟩,he.2⟩
      |false=>
       rw[ag] at he;simp only[cond_false] at he ⊢;split at he
       .exact⟨_,_,_,⟨he.1,rfl,rfl,rfl⟩,he.2⟩
       .exact he.elim
     .exact he.elim
    .exact he.elim
   .exact he.elim
  .exact he.elim
 .unfold n9 at he ⊢;split at he
  .rename_i e;simp only[e];exact⟨_,_,_,⟨he.1,rfl,rfl,rfl⟩,he.2⟩
  .exact he.elim
 .unfold qy at he ⊢;split at he
  .exact⟨_,_,_,⟨he.1,rfl,rfl,rfl⟩,he.2⟩
  .rename_i aw;obtain⟨v,h',n',h1,h2⟩:=quiet _ he;exact⟨v,h',n',h1,h2⟩
 .exact⟨_,_,_,⟨he.1,rfl,rfl,rfl⟩,he.2⟩
 .unfold oe at he ⊢;split at he
  .split at he
   .rename_i e1 e2 e3 e4;simp only[e1,e2,e3,e4];exact⟨_,_,_,⟨he.1,rfl,rfl,rfl⟩,he.2⟩
   .exact he.elim
  .exact he.elim
 simp_all
omit [bE] in
theorem tU{id i:Nat}{x c:List AV}(aw:i≠id):∀{h:bz},(i,c)∈h->(i,c)∈dm h id x
 |[],hin=>by cases hin
 |(k,v)::r,hin=>by
  simp only[dm];split
  .simp_all
  .rcases dU.1 hin with e|e
   .rw[e];simp
   .exact eY _ (tU aw e)
theorem EF.keep{op:Op}{v:AV}{h':bz}{n':Nat}{D:List Nat}(he:EF P env h n op v h' n')(ht:touch env op D){i:Nat}{c:List AV}(hin:(i,c)∈h)(hD:¬i∈D):(i,c)∈h':=by
 have quiet:∀op,de P env h n op (λv1 E=>v1=v/\ck h n E=h'/\n+E.length=n')->(i,c)∈h':=by
  intro op hq;obtain⟨_,E,_,_,hk,_⟩:=hq.qf;rw[<-hk];exact (kY E h n i c).2 (.inl hin)
 unfold EF df at he;split at he
 .unfold nZ at he;split at he
  .rename_i cg;split at he
   .obtain⟨_,_,h2,_⟩:=he;rw[<-h2];simp only[touch,xE,cg] at ht;exact tU (λe=>hD (by rw[e];exact ht)) hin
   .exact he.elim
  .exact he.elim
 .unfold nY at he;split at he
  .rename_i ha bb;split at he
   .split at he
    .split at he
     .rename_i es;split at he
      .obtain⟨_,_,h2,_⟩:=he;rw[<-h2];simp only[touch,ha,su,es] at ht;exact tU (λe=>hD (by rw[e];exact ht)) hin
      .exact he.elim
     .rename_i own k cells es
      cases ag:(own&&decide (k=0)&&cells.isEmpty) with
      |true=>
       rw[ag] at he;simp only[cond_true] at he;obtain⟨_,_,h2,_⟩:=he;rw[<-h2];exact eY _ hin
      |false=>
       rw[ag] at he;simp only[cond_false] at he;split at he
       .obtain⟨_,_,h2,_⟩:=he;rw[<-h2];exact hin
       .exact he.elim
     .exact he.elim
    .exact he.elim
   .exact he.elim
  .exact he.elim
 .rename_i args tys;unfold n9 rP at he
  match ha:args.toList,bb:tys.toList with
  |[d,x],t::ts=>
   rw[ha,bb] at he;simp only[jr,xZ] at he
   cases hr:pf P h t (ev env d) (ev env x) with
   |none=>rw[hr] at he;exact he.elim
   |some y=>
    obtain⟨c1,v1,h1⟩:=y;rw[hr] at he;obtain⟨_,_,h2,_⟩:=he;unfold pf at hr;split at hr
    .rename_i hd;split at hr
     .cases hr;rw[<-h2];simp only[touch,ha,su,hd] at ht;exact tU (λe=>hD (by rw[e];exact ht)) hin
     .cases hr
    .cases hr
  |[],_=>rw[ha] at he;exact he.elim
  |[_],_=>rw[ha] at he;exact he.elim
  |_::_::_::_,_=>rw[ha] at he;exact he.elim
  |[_,_],[]=>rw[ha,bb] at he;exact he.elim
 .unfold qy at he;split at he
  .obtain⟨_,_,h2,_⟩:=he;rw[<-h2];exact hin
  .exact quiet _ he
 .obtain⟨_,_,h2,_⟩:=he;rw[<-h2];exact eY _ hin
 .unfold oe at he;split at he
  .rename_i hm;split at he
   .obtain⟨_,_,h2,_⟩:=he;rw[<-h2];simp only[touch,xF,hm] at ht;exact tU (λe=>hD (by rw[e];exact ht)) hin
   .exact he.elim
  .exact he.elim
 grind
end
section
variable{P:Program}{ops:Array Oper}{nt:Nat}{e0:Env}{h0:bz}{n0:Nat}
def jh(P:Program)(ops:Array Oper)(nt:Nat)(e0:Env)(h0:bz)(n0:Nat):List (Oper×List HS)->Env->bz->Nat->(Env->bz->Nat->Prop)->Prop
 |[],e,h,n,K=>K e h n
 |(o,d)::os,e,h,n,K=>
  match gd ops e o with
  |some g=>dOk nt o.dst/\(g=true->de P e (hY (fP P e0 h0 n0 d) h) n o.op λv E=>mG (fP P e0 h0 n0 d) n E/\jh P ops nt e0 h0 n0 os (put e o.dst v) (ck h n E) (n+E.length) K) /\
    (g=false->jh P ops nt e0 h0 n0 os (put e o.dst (.tup [])) h n K)
  |none=>False
def lM(P:Program)(ops:Array Oper)(nt:Nat)(e0:Env)(h0:bz)(n0:Nat):List (Oper×List HS)->Env->bz->Nat->(Env->bz->Nat->Prop)->Prop
 |[],e,h,n,K=>K e h n
 |(o,d)::os,e,h,n,K=>
  match gd ops e o with
  |some g=>dOk nt o.dst/\(g=true->touch e o.op (fP P e0 h0 n0 d)/\df P e h n o.op λv h' n'=>lM P ops nt e0 h0 n0 os (put e o.dst v) h' n' K) /\
    (g=false->lM P ops nt e0 h0 n0 os (put e o.dst (.tup [])) h n K)
  |none=>False
structure TrQ(P:Program)(ops:Array Oper)(nt:Nat)(e0:Env)(h0:bz)(n0:Nat)(os:List (Oper×List HS))(e:Env)(h:bz)(n:Nat) where
 es:Nat->Env
 hs:Nat->bz
 ns:Nat->Nat
 vs:Nat->AV
 Es:Nat->List (List AV)
 gs:Nat->Bool
 e0':es 0=e
 hz:hs 0=h
 n0':ns 0=n
 step:∀i o d,os[i]?=some (o,d)->dOk nt o.dst/\gd ops (es i) o=some (gs i)/\es (i+1)=put (es i) o.dst (vs i)/\hs (i+1)=ck (hs i) (ns i) (Es i)/\ns (i+1)=ns i+(Es i).length /\
  (gs i=true->QF P (es i) (hY (fP P e0 h0 n0 d) (hs i)) (ns i) o.op (vs i) (Es i)/\mG (fP P e0 h0 n0 d) (ns i) (Es i))/\(gs i=false->vs i=.tup []/\Es i=[])
theorem Gq{K:Env->bz->Nat->Prop}:∀(os:List (Oper×List HS))(e:Env)(h:bz)(n:Nat),jh P ops nt e0 h0 n0 os e h n K->∃T:TrQ P ops nt e0 h0 n0 os e h n,K (T.es os.length) (T.hs os.length) (T.ns os.length)
 |[],e,h,n,hk=>⟨⟨λ_=>e,λ_=>h,λ_=>n,λ_=>.tup [],λ_=>[],λ_=>true,rfl,rfl,rfl,λi o d hi=>by simp at hi⟩,hk⟩
 |(o,d)::os,e,h,n,hk=>by
  simp only[jh] at hk;split at hk
  .rename_i g hg;obtain⟨hd,h1,h2⟩:=hk
   have main:∀(v:AV)(E:List (List AV)),(g=true->QF P e (hY (fP P e0 h0 n0 d) h) n o.op v E/\mG (fP P e0 h0 n0 d) n E)->(g=false->v=.tup []/\E=[])->jh P ops nt e0 h0 n0 os (put e o.dst v) (ck h n E) (n+E.length) K ->
    ∃T:TrQ P ops nt e0 h0 n0 ((o,d)::os) e h n,K (T.es ((o,d)::os).length) (T.hs ((o,d)::os).length) (T.ns ((o,d)::os).length):=by
    intro v E q1 q2 hr;obtain⟨T,hK⟩:=Gq os _ _ _ hr
    refine⟨⟨λi=>match i with|0=>e|i+1=>T.es i,λi=>match i with|0=>h|i+1=>T.hs i,λi=>match i with|0=>n|i+1=>T.ns i,
     λi=>match i with|0=>v|i+1=>T.vs i,λi=>match i with|0=>E|i+1=>T.Es i,λi=>match i with|0=>g|i+1=>T.gs i,rfl,rfl,rfl,λi o' d' hi=>?_⟩,hK⟩
    cases i with
    |zero=>
     simp at hi;obtain⟨rfl,rfl⟩:=hi;exact⟨hd,hg,T.e0',T.hz,T.n0',q1,q2⟩
    |succ i=>exact T.step i o' d' aM
   cases g with
   |true=>
    obtain⟨v,E,q,hn,hr⟩:=(h1 rfl).qf;exact main v E (λ_=>⟨q,hn⟩) nofun hr
   |false=>exact main (.tup []) [] nofun (λ_=>⟨rfl,rfl⟩) (h2 rfl)
  trivial
structure TrE(P:Program)(ops:Array Oper)(nt:Nat)(e0:Env)(h0:bz)(n0:Nat)(os:List (Oper×List HS))(e:Env)(h:bz)(n:Nat) where
 es:Nat->Env
 hs:Nat->bz
 ns:Nat->Nat
 vs:Nat->AV
 gs:Nat->Bool
 e0':es 0=e
 hz:hs 0=h
 n0':ns 0=n
 step:∀i o d,os[i]?=some (o,d)->dOk nt o.dst/\gd ops (es i) o=some (gs i)/\es (i+1)=put (es i) o.dst (vs i) /\
  (gs i=true->touch (es i) o.op (fP P e0 h0 n0 d)/\EF P (es i) (hs i) (ns i) o.op (vs i) (hs (i+1)) (ns (i+1)))/\(gs i=false->vs i=.tup []/\hs (i+1)=hs i/\ns (i+1)=ns i)
theorem Gr{K:Env->bz->Nat->Prop}:∀(os:List (Oper×List HS))(e:Env)(h:bz)(n:Nat),lM P ops nt e0 h0 n0 os e h n K->∃T:TrE P ops nt e0 h0 n0 os e h n,K (T.es os.length) (T.hs os.length) (T.ns os.length)
 |[],e,h,n,hk=>⟨⟨λ_=>e,λ_=>h,λ_=>n,λ_=>.tup [],λ_=>true,rfl,rfl,rfl,λi o d hi=>by simp at hi⟩,hk⟩
 |(o,d)::os,e,h,n,hk=>by
  simp only[lM] at hk;split at hk
  .rename_i g hg;obtain⟨hd,h1,h2⟩:=hk
   have main:∀(v:AV)(h':bz)(n':Nat),(g=true->touch e o.op (fP P e0 h0 n0 d)/\EF P e h n o.op v h' n')->(g=false->v=.tup []/\h'=h/\n'=n)->lM P ops nt e0 h0 n0 os (put e o.dst v) h' n' K ->
    ∃T:TrE P ops nt e0 h0 n0 ((o,d)::os) e h n,K (T.es ((o,d)::os).length) (T.hs ((o,d)::os).length) (T.ns ((o,d)::os).length):=by
    intro v h' n' q1 q2 hr;obtain⟨T,hK⟩:=Gr os _ _ _ hr
    refine⟨⟨λi=>match i with|0=>e|i+1=>T.es i,λi=>match i with|0=>h|i+1=>T.hs i,λi=>match i with|0=>n|i+1=>T.ns i,
     λi=>match i with|0=>v|i+1=>T.vs i,λi=>match i with|0=>g|i+1=>T.gs i,rfl,rfl,rfl,λi o' d' hi=>?_⟩,hK⟩
    cases i with
    |zero=>
     simp at hi;obtain⟨rfl,rfl⟩:=hi;refine⟨hd,hg,T.e0',λhg=>?_,λhg=>?_⟩
     .obtain⟨h3,h4⟩:=q1 hg;refine⟨h3,?_⟩;show EF P e h n o.op v (T.hs 0) (T.ns 0);rw[T.hz,T.n0'];exact h4
     .obtain⟨h3,h4,h5⟩:=q2 hg;exact⟨h3,T.hz.trans h4,T.n0'.trans h5⟩
    |succ i=>exact T.step i o' d' aM
   cases g with
   |true=>
    obtain⟨ht,he⟩:=h1 rfl;obtain⟨v,h',n',q,hr⟩:=he.ef;exact main v h' n' (λ_=>⟨ht,q⟩) nofun hr
   |false=>exact main (.tup []) h n nofun (λ_=>⟨rfl,rfl,rfl⟩) (h2 rfl)
  trivial
section
variable{os:List (Oper×List HS)}{e:Env}{h:bz}{n:Nat}
theorem TrQ.jK(T:TrQ P ops nt e0 h0 n0 os e h n){i j:Nat}(bi:i<=j)(hj:j<=os.length):T.ns i<=T.ns j:=by
 induction j with
 |zero=>have:i=0:=by omega
        simp_all
 |succ j ih=>
  by_cases hi:i=j+1
  .simp_all
  .have:=ih ab ab;have hs:=(T.step j os[j].1 os[j].2 (dO ab)).2.2.2.2.1;omega
theorem TrQ.uy(T:TrQ P ops nt e0 h0 n0 os e h n){i j:Nat}(bi:i<=j)(hj:j<=os.length){p:Nat×List AV}(hp:p∈T.hs i):p∈T.hs j:=by
 induction j with
 |zero=>have:i=0:=by omega
        simp_all
 |succ j ih=>
  by_cases hi:i=j+1
  .simp_all
  .have:=ih ab ab;have hs:=(T.step j os[j].1 os[j].2 (dO ab)).2.2.2.1;rw[hs];exact (kY (T.Es j) (T.hs j) (T.ns j) p.1 p.2).2 (.inl this)
omit [bE] in
theorem tV(es:Nat->Env)(vs:Nat->AV)(bg:∀i o d,os[i]?=some (o,d)->es (i+1)=put (es i) o.dst (vs i))(i:Nat)(hi:i<=os.length)(t:Nat):(∃(j:Nat)(o:Oper)(d:List HS),j<i/\os[j]?=some (o,d)/\o.dst=some t/\get (es i) t=vs j)\/((∀(j:Nat)(o:Oper)(d:List HS),j<i->os[j]?=some (o,d)->o.dst≠some t)/\get (es i) t=get (es 0) t):=by
 induction i with
 |zero=>simp
 |succ i ih=>
  have co:os[i]?=some os[i]:=dO ab;have hs:=bg i os[i].1 os[i].2 co;rw[hs]
  cases hd:os[i].1.dst with
  |none=>
   simp only[put]
   grind
  |some d'=>
   simp only[put,get]
   grind
end
end
def rd(ops:Array Oper)(x t:Nat):Bool:=match ops[x]? with|some o=>(jJ ops o).contains t|none=>false
def wr(ops:Array Oper)(x:Nat)(f:Nat->Bool):Bool:=match dV ops x with|some t=>f t|none=>true
def CC(ops:Array Oper)(qs ss:List Nat)(hh sp:List (List HS)):Bool:=
 ((List.range ops.size).all λi=>match ops[i]? with
   |some o=>o.after.toList.all λe=>!Region.binds .any e || decide (e.on<i)
   |none=>true) &&
 ((List.range ops.size).all λi=>qs.contains i || ss.contains i)&&((qs++ss).all λx=>decide (x<ops.size))&&decide ((qs++ss).Nodup)&&decide (hh.length=qs.length)&&decide (sp.length=ss.length) &&
 ((List.range qs.length).all λp=>(List.range qs.length).all λq=>wr ops (nth qs q) λt=>!rd ops (nth qs p) t || (decide (q<p)&&reach ops 6 (nth qs p) (nth qs q)) || decide (q=p) || (decide (p<q)&&reach ops 6 (nth qs q) (nth qs p))) &&
 ((List.range qs.length).all λp=>(List.range ss.length).all λj=>wr ops (nth ss j) λt=>!rd ops (nth qs p) t || reach ops 8 (nth ss j) (nth qs p)) &&
 ((List.range ss.length).all λj=>(List.range qs.length).all λp=>wr ops (nth qs p) λt=>!rd ops (nth ss j) t || reach ops 8 (nth ss j) (nth qs p)) &&
 ((List.range ops.size).all λi=>(List.range ops.size).all λj=>decide (i=j) || wr ops i λt=>decide (dV ops j≠some t)) &&
 ((List.range ss.length).all λj=>(List.range j).all λi=>reach ops 8 (nth ss j) (nth ss i)) &&
 ((List.range qs.length).all λp=>(List.range ss.length).all λj=>reach ops 8 (nth ss j) (nth qs p) || (nth sp j).all λs=>(nth hh p).contains s)
structure pF(ops:Array Oper)(qs ss:List Nat)(hh sp:List (List HS)):Prop where
 down:∀(i:Nat)(o:Oper),ops[i]?=some o->∀e∈o.after,Region.binds .any e=true->e.on<i
 all:∀i,i<ops.size->(∃p,p<qs.length/\nth qs p=i)\/(∃j,j<ss.length/\nth ss j=i)
 qlt:∀p,p<qs.length->nth qs p<ops.size
 slt:∀j,j<ss.length->nth ss j<ops.size
 Td:∀p q,p<qs.length->q<qs.length->nth qs p=nth qs q->p=q
 IV:∀i j,i<ss.length->j<ss.length->nth ss i=nth ss j->i=j
 qne:∀p j,p<qs.length->j<ss.length->nth qs p≠nth ss j
 hl:hh.length=qs.length
 sl:sp.length=ss.length
 qq:∀p q t o,p<qs.length->q<qs.length->dV ops (nth qs q)=some t->ops[nth qs p]?=some o->t∈jJ ops o->(q<p/\reach ops 6 (nth qs p) (nth qs q)=true)\/q=p\/(p<q/\reach ops 6 (nth qs q) (nth qs p)=true)
 sq:∀p j t o,p<qs.length->j<ss.length->dV ops (nth ss j)=some t->ops[nth qs p]?=some o->t∈jJ ops o->reach ops 8 (nth ss j) (nth qs p)=true
 qs':∀p j t o,p<qs.length->j<ss.length->dV ops (nth qs p)=some t->ops[nth ss j]?=some o->t∈jJ ops o->reach ops 8 (nth ss j) (nth qs p)=true
 once:∀i j t,i<ops.size->j<ops.size->i≠j->dV ops i=some t->dV ops j≠some t
 chain:∀i j,j<ss.length->i<j->reach ops 8 (nth ss j) (nth ss i)=true
 hidden:∀p j,p<qs.length->j<ss.length->reach ops 8 (nth ss j) (nth qs p)=true\/∀s∈nth sp j,s∈nth hh p
section
omit [bE]
theorem mZ{α:Type}[Inhabited α]{l:List α}{i:Nat}(h:i<l.length):nth l i∈l:=by
 simp[nth,dT,dO h]
theorem Gs{α:Type}[Inhabited α]{l:List α}{i:Nat}(h:i<l.length):l[i]?=some (nth l i):=by
 simp[nth,dT,dO h]
theorem Gt{α:Type}[Inhabited α]{l:List α}{x:α}(h:x∈l):∃i,i<l.length/\nth l i=x:=by
 obtain⟨i,hi,rfl⟩:=kD h;exact⟨i,hi,by simp[nth,dT,dO hi]⟩
theorem Oy{ops:Array Oper}{qs ss:List Nat}{hh sp:List (List HS)}(h:CC ops qs ss hh sp=true):pF ops qs ss hh sp:=by
 simp only[CC,fe,decide_eq_true_eq,gm,sU,sT,List.contains_iff_mem] at h;obtain⟨⟨⟨⟨⟨⟨⟨⟨⟨⟨⟨h1,h2⟩,h3⟩,h4⟩,h5⟩,h6⟩,h7⟩,h8⟩,h9⟩,c9⟩,cf⟩,d3⟩:=h;have bv:=List.nodup_append.1 h4
 have jI:∀{l:List Nat},l.Nodup->∀p q,p<l.length->q<l.length->nth l p=nth l q->p=q:=by
  intro l hl p q hp hq he;have h1:=Gs hp;have h2:=Gs hq;rw[he] at h1;rw[dO hp] at h1;rw[dO hq] at h2;have h3:l[p]=l[q]:=(fK h1).trans (fK h2).symm;have h4:=sQ.1 hl
  rcases Nat.lt_trichotomy p q with h|h|h
  .exact absurd h3 (h4 p q hp hq h)
  .exact h
  .exact absurd h3.symm (h4 q p hq hp h)
 have c4:∀x t o,ops[x]?=some o->t∈jJ ops o->rd ops x t=true:=by
  intro x t o ho ht;simp only[rd,ho,List.contains_iff_mem];exact ht
 have bo:∀x t f,dV ops x=some t->wr ops x f=true->f t=true:=by
  intro x t f hd hw;simpa only[wr,hd] using hw
 refine⟨λi o ho e hin hb=>?_,λi hi=>?_,λp hp=>?_,λj hj=>?_,jI bv.1,jI bv.2.1,λp j hp hj=>?_,h5,h6,λp q t o hp hq hd ho ht=>?_,λp j t o hp hj hd ho ht=>?_,λp j t o hp hj hd ho ht=>?_,λi j t hi hj aw hd=>?_,λi j hj hi=>?_,λp j hp hj=>?_⟩
 .have cp:=(cT.1 ho).1;have:=h1 i cp;simp only[ho,gm] at this;have:=this e (qU.2 hin);simpa[hb] using this
 .rcases h2 i hi with h|h
  .exact .inl (Gt h)
  .exact .inr (Gt h)
 .exact h3 _ (js.2 (.inl (mZ hp)))
 .exact h3 _ (js.2 (.inr (mZ hj)))
 .exact bv.2.2 _ (mZ hp) _ (mZ hj)
 .have:=bo _ _ _ hd (h7 p hp q hq);rw[c4 _ _ _ ho ht] at this;simp only[ig,jw,sT,fe,decide_eq_true_eq] at this
  rcases this with (h|h)|h
  .exact .inl h
  .exact .inr (.inl h)
  .exact .inr (.inr h)
 .have:=bo _ _ _ hd (h8 p hp j hj);rw[c4 _ _ _ ho ht] at this;simpa using this
 .have:=bo _ _ _ hd (h9 j hj p hp);rw[c4 _ _ _ ho ht] at this;simpa using this
 .rcases c9 i hi j hj with h|h
  .exact absurd h aw
  .simpa using bo _ _ _ hd h
 .exact cf j hj i hi
 simp_all
end
section
variable{P:Program}{ops:Array Oper}{nt:Nat}{qs ss:List Nat}{hh sp:List (List HS)}{e:Env}{h:bz}{n:Nat}
def pG:List Oper->Nat->Oper
 |[],_=>⟨none,.move (.func 0),0, "",#[],none⟩
 |o::_,0=>o
 |_::r,k+1=>pG r k
def xG(ops:Array Oper)(i:Nat):Oper:=pG ops.toList i
def opL(ops:Array Oper):List Nat->List (List HS)->List (Oper×List HS)
 |i::l,d::ds=>(xG ops i,d)::opL ops l ds
 |_,_=>[]
section
omit [bE]
theorem Gu:∀(l:List Oper)(i:Nat)(o:Oper),l[i]?=some o->pG l i=o
 |[],i,o,h=>by simp at h
 |x::r,0,o,h=>by simpa[pG] using h
 |x::r,i+1,o,h=>Gu r i o av
theorem jA:∀{l:List Nat}{d:List (List HS)},d.length=l.length->(opL ops l d).length=l.length
 |[],[],_=>rfl
 |i::l,d::ds,h=>by simp[opL,jA (l:=l) (d:=ds) av]
 |[],_::_,h=>by simp at h
 |_::_,[],h=>by simp at h
theorem iM:∀{l:List Nat}{d:List (List HS)},d.length=l.length->∀{i:Nat}{o:Oper},i<l.length->ops[nth l i]?=some o->(opL ops l d)[i]?=some (o,nth d i)
 |[],_,_,i,o,hi,_=>by simp at hi
 |_::_,[],h,_,_,_,_=>by simp at h
 |x::l,d::ds,h,0,o,hi,ho=>by
  simp only[opL,CQ,Gl] at ho ⊢;rw[show xG ops x=o from Gu _ _ _ (by rw[jo];exact ho)]
 |x::l,d::ds,h,i+1,o,hi,ho=>by
  simp only[opL,sG,A8] at ho ⊢;exact iM av ak ho
end
structure gD(P:Program)(ops:Array Oper)(nt:Nat)(qs ss:List Nat)(hh sp:List (List HS))(e:Env)(h:bz)(n:Nat)(T:TrQ P ops nt e h n (opL ops qs hh) e h n)
 (E:TrE P ops nt e h n (opL ops ss sp) (T.es qs.length) (T.hs qs.length) (T.ns qs.length)) (B:Base) (w0:Ctx fk) (listed:Array Bool) (j:Nat) (a:Act) (w:World) (m:Mm):Prop where
 base:B.n=w0.w.heap.size
 below:Bel B.n w0.w w
 defers:a.defers=marks w0.ds
 size:a.tmps.size=nt
 heap:cQ B (E.hs j) m w
 ids:∀id c,(id,c)∈E.hs j->id<E.ns j
 mono:T.ns qs.length<=E.ns j
 dom:∀id,m.dom id↔id<n\/(∃p,p<qs.length/\listed.getD (nth qs p) false=true/\T.ns p<=id/\id<T.ns p+(T.Es p).length)\/(T.ns qs.length<=id/\id<E.ns j)
 done:∀p t,p<qs.length->listed.getD (nth qs p) false=true->dV ops (nth qs p)=some t->bG B (LB m (E.hs j)) m w (T.vs p) (a.tmps.getD t undef)
 uJ:∀i t,i<j->dV ops (nth ss i)=some t->bG B (LB m (E.hs j)) m w (E.vs i) (a.tmps.getD t undef)
 old:∀t,(∀p,p<qs.length->listed.getD (nth qs p) false=true->dV ops (nth qs p)≠some t)->(∀i,i<j->dV ops (nth ss i)≠some t)->bG B (LB m (E.hs j)) m w (get e t) (a.tmps.getD t undef)
 lst:∀i,i<ss.length->(listed.getD (nth ss i) false=true↔i<j)
 jl:j<=ss.length
 fr:pg B w0 (LB m (E.hs j)) m w n
variable{T:TrQ P ops nt e h n (opL ops qs hh) e h n}{E:TrE P ops nt e h n (opL ops ss sp) (T.es qs.length) (T.hs qs.length) (T.ns qs.length)}{B:Base}{w0:Ctx fk}{listed:Array Bool}{j:Nat}{a:Act}{w:World}{m:Mm}
theorem gD.bel{w':World}(hp:gD P ops nt qs ss hh sp e h n T E B w0 listed j a w m)(hb:Bel w.heap.size w w'):gD P ops nt qs ss hh sp e h n T E B w0 listed j a w' m:=by
 have hr:B.n<=w.heap.size:=by have:=hp.below.size;have:=hp.base;omega
 have hm:∀x v,bG B (LB m (E.hs j)) m w x v->bG B (LB m (E.hs j)) m w' x v:=λx v h=>h.mono (Mm.le.refl m) (λ_ _ x=>x) (λb hl _=>hb.block b hl)
 exact⟨hp.base,hp.below.trans (hb.mono hr),hp.defers,hp.size,hp.heap.below hb,hp.ids,hp.mono,hp.dom,λp t hi hl hd=>hm _ _ (hp.done p t hi hl hd),λi t hi hd=>hm _ _ (hp.uJ i t hi hd),λt h1 h2=>hm _ _ (hp.old t h1 h2),hp.lst,hp.jl,
  hp.fr.mono (Mm.le.refl m) (λ_ _ x=>x) (λb hl _=>hb.block b hl) (bU _)⟩
section
omit [bE]
theorem Bc(a6:Closed ops listed){f i k:Nat}(hi:i<ops.size)(hl:listed.getD i false=true)(hr:reach ops f i k=true):listed.getD k false=true:=
 mV a6 f i k ops[i] (dE hi) (λe hin hb=>a6 i _ (dE hi) hl e hin hb) hr
theorem k9{x:Nat}{o:Oper}(ho:ops[x]?=some o):dV ops x=o.dst:=by simp[dV,ho]
theorem tW{l:List Nat}{d:List (List HS)}(hl:d.length=l.length)(hb:∀i,i<l.length->nth l i<ops.size){i:Nat}{o:Oper}{x:List HS}(ho:(opL ops l d)[i]?=some (o,x)):i<l.length/\ops[nth l i]?=some o/\x=nth d i:=by
 have hi:i<l.length:=by have:=(fg.1 ho).1;rwa [jA hl] at this
 have h1:=iM (d:=d) hl hi (dE (hb i hi));rw[h1] at ho;simp_all
end
theorem gD.IX(hp:gD P ops nt qs ss hh sp e h n T E B w0 listed j a w m)(hc:pF ops qs ss hh sp)(a6:Closed ops listed){p:Nat}{o:Oper}(a9:p<qs.length)(ho:ops[nth qs p]?=some o)(bn:listed.getD (nth qs p) false=false)(he:∀e∈o.after,Region.binds .any e=true->listed.getD e.on false=true){t:Nat}(ht:t∈jJ ops o):bG B (LB m (E.hs j)) m w (get (T.es p) t) (a.tmps.getD t undef):=by
 rcases tV T.es T.vs (λi o d hi=>(T.step i o d hi).2.2.1) p (by rw[jA hc.hl];omega) t with ⟨q,oq,d,h1,h2,h3,h4⟩|⟨h1,h2⟩
 .obtain⟨hq,a',_⟩:=tW hc.hl hc.qlt h2
  have hd:dV ops (nth qs q)=some t:=by rw[k9 a'];exact h3
  rw[h4]
  rcases hc.qq p q t o a9 hq hd ho ht with ⟨_,h⟩|h|⟨h,_⟩
  .exact hp.done q t hq (mV a6 6 _ _ o ho he h) hd
  .omega
  .omega
 .rw[h2,T.e0'];refine hp.old t (λq hq hl hd=>?_) (λi hi hd=>?_)
  .rcases hc.qq p q t o a9 hq hd ho ht with ⟨h,_⟩|h|⟨_,h⟩
   .have a':=dE (hc.qlt q hq);exact h1 q _ _ h (iM hc.hl hq a') (by rw[<-k9 a'];exact hd)
   .simp_all
   .have:=Bc a6 (hc.qlt q hq) hl h;rw[bn] at this;cases this
  .have a5:i<ss.length:=lO hi hp.jl;have:=Bc a6 (hc.slt i a5) ((hp.lst i a5).2 hi) (hc.sq p i t o a9 a5 hd ho ht);rw[bn] at this;cases this
theorem gD.IY(hp:gD P ops nt qs ss hh sp e h n T E B w0 listed j a w m)(hc:pF ops qs ss hh sp)(a6:Closed ops listed){o:Oper}(b8:j<ss.length)(ho:ops[nth ss j]?=some o)(he:∀e∈o.after,Region.binds .any e=true->listed.getD e.on false=true){t:Nat}(ht:t∈jJ ops o):bG B (LB m (E.hs j)) m w (get (E.es j) t) (a.tmps.getD t undef):=by
 rcases tV E.es E.vs (λi o d hi=>(E.step i o d hi).2.2.1) j (by rw[jA hc.sl];omega) t with ⟨q,oq,d,h1,h2,h3,h4⟩|⟨h1,h2⟩
 .obtain⟨hq,a',_⟩:=tW hc.sl hc.slt h2;rw[h4];exact hp.uJ q t h1 (by rw[k9 a'];exact h3)
 .rw[h2,E.e0']
  have b5:∀i,i<j->dV ops (nth ss i)≠some t:=λi hi hd=>by
   have a5:i<ss.length:=lO hi hp.jl;have b4:=dE (hc.slt i a5);exact h1 i _ _ hi (iM hc.sl a5 b4) (by rw[<-k9 b4];exact hd)
  rcases tV T.es T.vs (λi o d hi=>(T.step i o d hi).2.2.1) qs.length (by rw[jA hc.hl];omega) t with ⟨q,oq,d,h1,h2,h3,h4⟩|⟨h1,h2⟩
  .obtain⟨hq,a',_⟩:=tW hc.hl hc.qlt h2
   have hd:dV ops (nth qs q)=some t:=by rw[k9 a'];exact h3
   rw[h4];exact hp.done q t hq (mV a6 8 _ _ o ho he (hc.qs' q j t o hq b8 hd ho ht)) hd
  .rw[h2,T.e0'];refine hp.old t (λq hq hl hd=>?_) b5;have a':=dE (hc.qlt q hq);exact h1 q _ _ hq (iM hc.hl hq a') (by rw[<-k9 a'];exact hd)
theorem gD.frame(hp:gD P ops nt qs ss hh sp e h n T E B w0 listed j a w m)(hc:pF ops qs ss hh sp){id:Nat}{c:List AV}(hin:(id,c)∈T.hs qs.length):∀i,i<=j->(∀k,k<i->¬id∈fP P e h n (nth sp k))->(id,c)∈E.hs i
 |0,_,_=>by rw[E.hz];exact hin
 |i+1,hi,b5=>by
  have h1:=gD.frame hp hc hin i ab (λk hk=>b5 k ab);have a5:i<ss.length:=lO ab hp.jl;have b4:=dE (hc.slt i a5);obtain⟨_,_,_,h2,h3⟩:=E.step i _ _ (iM hc.sl a5 b4)
  cases hg:E.gs i with
  |true=>exact (h2 hg).2.keep (h2 hg).1 h1 (b5 i ab)
  |false=>rw[(h3 hg).2.1];exact h1
theorem gD.IZ(hp:gD P ops nt qs ss hh sp e h n T E B w0 listed j a w m)(hc:pF ops qs ss hh sp)(a6:Closed ops listed){p:Nat}(a9:p<qs.length)(bn:listed.getD (nth qs p) false=false){id:Nat}(b5:¬id∈fP P e h n (nth hh p)):∀k,k<j->¬id∈fP P e h n (nth sp k):=by
 intro k hk hin;have bt:k<ss.length:=lO hk hp.jl
 rcases hc.hidden p k a9 bt with h|h
 .have:=Bc a6 (hc.slt k bt) ((hp.lst k bt).2 hk) h;rw[bn] at this;cases this
 .obtain⟨s,hs,hin⟩:=yc.1 hin;exact b5 (yc.2 ⟨s,h s hs,hin⟩)
omit [bE] in
theorem Gv{i k:Nat}(hi:i<listed.size):(listed.setIfInBounds i true).getD k false=if i=k then true else listed.getD k false:=by
 split<;>simp_all
theorem gD.Te(hp:gD P ops nt qs ss hh sp e h n T E B w0 listed j a w m)(hc:pF ops qs ss hh sp){p:Nat}{o:Oper}(a9:p<qs.length)(ho:ops[nth qs p]?=some o)(hf:listed[nth qs p]?=some false){v':Value}{w':World}{m':Mm}(b7:dOk nt o.dst)(bl:iP B (E.hs j) m w (T.ns p) (T.Es p).length (T.vs p) v' w' m'):gD P ops nt qs ss hh sp e h n T E B w0 (listed.setIfInBounds (nth qs p) true) j (a.put o.dst v') w' m':=by
 obtain⟨p1,p2,p3,p4,p5,p6⟩:=bl
 have hB:B.n<=w.heap.size:=by have:=hp.below.size;have:=hp.base;omega
 have hO:bE.ok w:=bE.keep w0.ok aF
 have a4:∀p v,bG B (LB m (E.hs j)) m w p v->bG B (LB m' (E.hs j)) m' w' p v:=λp v hr=>hr.mono p1 (λb hb hn hl=>by
  grind) (λb hb _=>p3.block b hb)
 have ay:=(cT.1 hf).1;have b6:dV ops (nth qs p)=o.dst:=k9 ho
 have bh:dOk a.tmps.size o.dst:=by rw[hp.size];exact b7
 have bc:listed.getD (nth qs p) false=false:=by rw[dC,hf];rfl
 have dm:∀k,(listed.setIfInBounds (nth qs p) true).getD k false=if nth qs p=k then true else listed.getD k false:=λk=>Gv ay
 have cw:∀q,q<qs.length->(nth qs p=nth qs q↔q=p):=λq hq=>⟨λh=>(hc.Td p q a9 hq h).symm,λh=>by rw[h]⟩
 refine⟨hp.base,hp.below.trans (p3.mono hB),by rw[kX];exact hp.defers,by rw[kU];exact hp.size,p4,hp.ids,hp.mono,λid=>?_,λq t hq hl hd=>?_,λi t hi hd=>?_,λt hq hi=>?_,λi hi=>?_,hp.jl,hp.fr.mono p1 (λb hb hn hl=>by
  grind) (λb hb _=>p3.block b hb) (bU _)⟩
 .rw[p2,hp.dom]
  grind
 .rw[oN bh];by_cases cv:q=p
  .simp_all
  .have aw:nth qs p≠nth qs q:=λh=>cv ((cw q hq).1 h)
   rw[dm,bN aw] at hl
   have:o.dst≠some t:=λb9=>hc.once _ _ t (hc.qlt p a9) (hc.qlt q hq) aw (by rw[b6];exact b9) hd
   rw[bN this];exact a4 _ _ (hp.done q t hq hl hd)
 .rw[oN bh];have a5:i<ss.length:=lO hi hp.jl
  have:o.dst≠some t:=λb9=>hc.once _ _ t (hc.qlt p a9) (hc.slt i a5) (hc.qne p i a9 a5) (by rw[b6];exact b9) hd
  rw[bN this];exact a4 _ _ (hp.uJ i t hi hd)
 .rw[oN bh];have h1:=hq p a9 (by rw[dm,cu rfl]);rw[b6] at h1;rw[bN h1];refine a4 _ _ (hp.old t (λq bf hl=>hq q bf ?_) hi)
  rw[dm];split<;>simp_all
 .rw[dm,bN (hc.qne p i a9 hi)];exact hp.lst i hi
theorem gD.Tf(hp:gD P ops nt qs ss hh sp e h n T E B w0 listed j a w m)(hc:pF ops qs ss hh sp){o:Oper}(b8:j<ss.length)(ho:ops[nth ss j]?=some o)(hf:listed[nth ss j]?=some false){v':Value}{w':World}{m':Mm}(b7:dOk nt o.dst)(br:∀id c,(id,c)∈E.hs (j+1)->id<E.ns (j+1))(bu:E.ns j<=E.ns (j+1))(bl:EPost B (E.hs j) m w (E.ns j) (E.hs (j+1)) (E.ns (j+1)) (E.vs j) v' w' m'):gD P ops nt qs ss hh sp e h n T E B w0 (listed.setIfInBounds (nth ss j) true) (j+1) (a.put o.dst v') w' m':=by
 obtain⟨p1,p2,p3,p4,p5,p6,p7⟩:=bl
 have a4:∀p v,bG B (LB m (E.hs j)) m w p v->bG B (LB m' (E.hs (j+1))) m' w' p v:=λp v hr=>hr.mono p1 p5 p6
 have ay:=(cT.1 hf).1;have b6:dV ops (nth ss j)=o.dst:=k9 ho
 have bh:dOk a.tmps.size o.dst:=by rw[hp.size];exact b7
 have dm:∀k,(listed.setIfInBounds (nth ss j) true).getD k false=if nth ss j=k then true else listed.getD k false:=λk=>Gv ay
 have c3:∀q,q<qs.length->nth ss j≠nth qs q:=λq hq h=>hc.qne q j hq b8 h.symm
 refine⟨hp.base,hp.below.trans p3,by rw[kX];exact hp.defers,by rw[kU];exact hp.size,p4,br,dN hp.mono bu,λid=>?_,λq t hq hl hd=>?_,λi t hi hd=>?_,λt hq hi=>?_,λi hi=>?_,ab,hp.fr.mono p1 p5 p6 (bU _)⟩
 .rw[p2,hp.dom];have d7:=hp.mono
  grind
 .rw[oN bh];rw[dm,bN (c3 q hq)] at hl
  have:o.dst≠some t:=λb9=>hc.once _ _ t (hc.slt j b8) (hc.qlt q hq) (c3 q hq) (by rw[b6];exact b9) hd
  rw[bN this];exact a4 _ _ (hp.done q t hq hl hd)
 .rw[oN bh];by_cases bi:i=j
  .simp_all
  .have a5:i<ss.length:=ab
   have aw:nth ss j≠nth ss i:=λh=>bi (hc.IV j i b8 a5 h).symm
   have:o.dst≠some t:=λb9=>hc.once _ _ t (hc.slt j b8) (hc.slt i a5) aw (by rw[b6];exact b9) hd
   rw[bN this];exact a4 _ _ (hp.uJ i t ab hd)
 .rw[oN bh];have h1:=hi j ab;rw[b6] at h1;rw[bN h1];exact a4 _ _ (hp.old t (λq bf hl=>hq q bf (by rw[dm,bN (c3 q bf)];exact hl)) (λi d4=>hi i ab))
 .rw[dm];split
  .rename_i heq;have:=hc.IV j i b8 hi heq;simp;omega
  .rename_i aw;rw[hp.lst i hi]
   have:i≠j:=ak
   omega
theorem Oz(hc:pF ops qs ss hh sp){K:Exit->St->Prop}(hK:K .normal ⟨E.es ss.length,E.hs ss.length,E.ns ss.length,nt⟩):∀(f:Nat)(listed:Array Bool)(j:Nat)(a:Act)(w:World)(m:Mm),listed.size=ops.size->Closed ops listed->open_ listed<=f->gD P ops nt qs ss hh sp e h n T E B w0 listed j a w m->jD w0.r P .any ops (λe a w=>∃st' m',K e st'/\Sim B w0 st' a w m') f listed a w:=by
 have last:∀(listed:Array Bool)(j:Nat)(a:Act)(w:World)(m:Mm),(∀i,i<ops.size->listed.getD i false=true)->gD P ops nt qs ss hh sp e h n T E B w0 listed j a w m->∃st' m',K .normal st'/\Sim B w0 st' a w m':=by
  intro listed j a w m aa hp
  have hj:j=ss.length:=by
   have:=hp.jl
   rcases eX j ss.length with h1|h1
   .have:=(hp.lst j h1).1 (aa _ (hc.slt j h1));omega
   .omega
  subst hj;refine⟨_,m,hK,hp.base,hp.below,hp.defers,hp.size,λt=>?_,hp.heap,λid=>?_,hp.ids,hp.fr.mono (Mm.le.refl m) (λ_ _ h=>h) (λ_ _ _=>rfl) (by have h1:=T.jK (i:=0) (j:=qs.length) ab (by rw[jA hc.hl];omega);rw[T.n0'] at h1;exact dN h1 hp.mono)⟩
  .show bG _ _ _ _ (get (E.es ss.length) t) _
   rcases tV E.es E.vs (λi o d hi=>(E.step i o d hi).2.2.1) ss.length (by rw[jA hc.sl];omega) t with ⟨q,oq,d,h1,h2,h3,h4⟩|⟨h1,h2⟩
   .obtain⟨hq,a',_⟩:=tW hc.sl hc.slt h2;rw[h4];exact hp.uJ q t h1 (by rw[k9 a'];exact h3)
   .rw[h2,E.e0']
    have b5:∀i,i<ss.length->dV ops (nth ss i)≠some t:=λi hi hd=>by
     have b4:=dE (hc.slt i hi);exact h1 i _ _ hi (iM hc.sl hi b4) (by rw[<-k9 b4];exact hd)
    rcases tV T.es T.vs (λi o d hi=>(T.step i o d hi).2.2.1) qs.length (by rw[jA hc.hl];omega) t with ⟨q,oq,d,h1,h2,h3,h4⟩|⟨h1,h2⟩
    .obtain⟨hq,a',_⟩:=tW hc.hl hc.qlt h2;rw[h4];exact hp.done q t hq (aa _ (hc.qlt q hq)) (by rw[k9 a'];exact h3)
    .rw[h2,T.e0'];refine hp.old t (λq hq hl hd=>?_) b5;have a':=dE (hc.qlt q hq);exact h1 q _ _ hq (iM hc.hl hq a') (by rw[<-k9 a'];exact hd)
  .rw[hp.dom];show _↔id<E.ns ss.length
   have ba:∀i,i<=qs.length->(id<T.ns i↔id<n\/∃j,j<i/\T.ns j<=id/\id<T.ns j+(T.Es j).length):=by
    intro i
    induction i with
    |zero=>intro _;rw[T.n0'];simp
    |succ i ih=>
     intro hi;have b4:=dE (hc.qlt i ab);have bg:=(T.step i _ _ (iM hc.hl ab b4)).2.2.2.2.1;rw[bg]
     grind
   have h1:=ba qs.length (bU _);have h2:=hp.mono;constructor
   .grind
   .intro h3
    rcases eX id (T.ns qs.length) with h4|h4
    .rcases h1.1 h4 with h5|⟨p,h5,h6⟩
     .exact .inl h5
     .exact .inr (.inl ⟨p,h5,aa _ (hc.qlt p h5),h6⟩)
    omega
 have noready:∀(listed:Array Bool),listed.size=ops.size->(∀i,i<ops.size->listed.getD i false=true)->Region.ready .any ops listed=[]:=by
  intro listed ay aa
  cases hr:Region.ready .any ops listed with
  |nil=>rfl
  |cons x xs=>
   obtain⟨o,ho,hf,_⟩:=nL ay (i:=x) (by rw[hr];simp);have:=aa x (cT.1 ho).1;rw[dC,hf] at this;cases this
 intro f
 induction f with
 |zero=>
  intro listed j a w m ay a6 c5 hp
  have aa:∀i,i<ops.size->listed.getD i false=true:=λi hi=>pY (x9.1 c5) ab
  exact⟨noready listed ay aa,last listed j a w m aa hp⟩
 |succ f ih=>
  intro listed j a w m ay a6 c5 hp;refine⟨λbw=>?_,λx hx=>?_⟩
  .refine last listed j a w m (λi hi=>?_) hp
   cases hq:listed.getD i false with
   |true=>rfl
   |false=>exact absurd bw (qZ ay hc.down i hi hq)
  .obtain⟨o,ho,hf,he⟩:=nL ay hx;have cy:=(cT.1 ho).1
   have bc:listed.getD x false=false:=by rw[dC,hf];rfl
   unfold lg;rw[ho];intro w e1;replace hp:=hp.bel (EnvD.ext e1)
   have hB:B.n<=w.heap.size:=by have:=hp.below.size;have:=hp.base;omega
   have hO:bE.ok w:=bE.keep w0.ok aF
   have bj:open_ (listed.setIfInBounds x true)<=f:=by have:=pX hf;omega
   rcases hc.all x cy with ⟨p,a9,rfl⟩|⟨i,a5,rfl⟩
   .obtain⟨b7,hw,_,_,_,bm,c2⟩:=T.step p o _ (iM hc.hl a9 ho)
    have aq:∀v' w' m',iP B (E.hs j) m w (T.ns p) (T.Es p).length (T.vs p) v' w' m'->jD w0.r P .any ops (λe a w=>∃st' m',K e st'/\Sim B w0 st' a w m') f (listed.setIfInBounds (nth qs p) true) (a.put o.dst v') w':=by
     intro v' w' m' ao;exact ih _ j _ w' m' ak (a6.set ho he) bj (hp.Te hc a9 ho hf b7 ao)
    have hlen:=jA (ops:=ops) hc.hl;simp only[zo hw (λt ht=>hp.IX hc a6 a9 ho bc he ht)]
    cases hg:T.gs p with
    |true=>
     simp only[cz];obtain⟨c6,ct⟩:=bm hg;refine jS (H0 c6) (c6.sound o hO hp.heap hB (λid cs hl=>?_) (λq cs hl=>?_) (λq hq hd=>?_) (λy hy=>?_) _ _ (λv' w' m' ao=>aq v' w' m' ao))
     .obtain⟨h1,h2⟩:=Bb hl;exact hp.frame hc (T.uy (i:=p) ab ab h1) j (bU _) (hp.IZ hc a6 a9 bc h2)
     .have bf:=(fg.1 hl).1;refine hp.frame hc (T.uy (i:=p+1) ab ab ?_) j (bU _) (hp.IZ hc a6 a9 bc (Gp ct bf));rw[(T.step p o _ (iM hc.hl a9 ho)).2.2.2.1];exact (kY _ _ _ _ _).2 (.inr ⟨q,hl,rfl⟩)
     .have d9:n<=T.ns p:=by have:=T.jK (i:=0) (j:=p) ab ab;rw[T.n0'] at this;exact this
      have da:=(T.step p o _ (iM hc.hl a9 ho)).2.2.2.2.1;have cq:=T.jK (i:=p+1) (j:=qs.length) ab ab
      rcases (hp.dom _).1 hd with h1|⟨k,hk,hl,h2,h3⟩|h1
      .omega
      .have d6:k≠p:=by
        grind
       have cx:=(T.step k _ _ (iM hc.hl hk (dE (hc.qlt k hk)))).2.2.2.2.1
       rcases eX k p with h4|h4
       .have:=T.jK (i:=k+1) (j:=p) ab ab;omega
       .have:=T.jK (i:=p+1) (j:=k) ab ab;omega
      .omega
     .refine mR y (λt e=>?_);subst e;exact hp.IX hc a6 a9 ho bc he (zn hy)
    |false=>
     simp only[dB,cP];obtain⟨h1,h2⟩:=c2 hg;refine aq undef w m ?_;rw[h1,h2];exact⟨Mm.le.refl m,λi=>⟨.inl,λh=>h.elim id λh=>ak⟩,Bel.refl _ _,hp.heap,λb hb=>.inl hb,.tup rfl (λj p v hp=>by simp at hp)⟩
   .have bi:i=j:=by
     have h1:¬i<j:=λh=>by
      have:=(hp.lst i a5).2 h;rw[bc] at this;cases this
     rcases eX j i with h2|h2
     .have h3:=mV a6 8 _ _ o ho he (hc.chain j i a5 h2);have:=(hp.lst j ab).1 h3;omega
     .omega
    subst bi;obtain⟨b7,hw,_,bm,c2⟩:=E.step i o _ (iM hc.sl a5 ho)
    have aq:∀v' w' m',(∀id c,(id,c)∈E.hs (i+1)->id<E.ns (i+1))->E.ns i<=E.ns (i+1)->EPost B (E.hs i) m w (E.ns i) (E.hs (i+1)) (E.ns (i+1)) (E.vs i) v' w' m'->jD w0.r P .any ops (λe a w=>∃st' m',K e st'/\Sim B w0 st' a w m') f (listed.setIfInBounds (nth ss i) true) (a.put o.dst v') w':=by
     intro v' w' m' h1 h2 ao;exact ih _ (i+1) _ w' m' ak (a6.set ho he) bj (hp.Tf hc a5 ho hf b7 h1 h2 ao)
    simp only[zo hw (λt ht=>hp.IY hc a6 a5 ho he ht)]
    cases hg:E.gs i with
    |true=>
     simp only[cz];refine jS (vE (bm hg).2) (Ek o (bm hg).2 hO hp.heap hB (λk hk hd=>?_) hp.ids (λy hy=>?_) _ _ (λv v' h' n' w' m' d5 bl hn hh=>?_))
     .have cq:=hp.mono
      have d8:n<=T.ns qs.length:=by have:=T.jK (i:=0) (j:=qs.length) ab (by rw[jA hc.hl];omega);rw[T.n0'] at this;exact this
      rcases (hp.dom _).1 hd with h1|⟨q,hq,hl,h2,h3⟩|h1
      .omega
      .have cx:=(T.step q _ _ (iM hc.hl hq (dE (hc.qlt q hq)))).2.2.2.2.1;have:=T.jK (i:=q+1) (j:=qs.length) ab (by rw[jA hc.hl];omega);omega
      .omega
     .refine mR y (λt e=>?_);subst e;exact hp.IY hc a6 a5 ho he (zn hy)
     grind
    |false=>
     simp only[dB,cP];obtain⟨h1,h2,h3⟩:=c2 hg;refine aq undef w m (by rw[h2,h3];exact hp.ids) (by rw[h3];simp) ?_;rw[h1,h2,h3];exact⟨Mm.le.refl m,mU,Bel.refl _ _,hp.heap,λb _ h=>h,λb _ _=>rfl,.tup rfl (λj p v hp=>by simp at hp)⟩
theorem tX{K:Exit->St->Prop}(qs ss:List Nat)(hh sp:List (List HS)){id:Nat}(hm:P.follows .mixedOrders=true)(bq:CC ops qs ss hh sp=true)(hk:jh P ops nt e h n (opL ops qs hh) e h n λe' h' n'=>lM P ops nt e h n (opL ops ss sp) e' h' n' λc7 c8 d2=>K .normal ⟨c7,c8,d2,nt⟩):cK fk P (.region id ops true) ⟨e,h,n,nt⟩ K:=by
 intro B w0 a w m hs;have hc:=Oy bq;obtain⟨T,hK⟩:=Gq _ _ _ _ hk;rw[jA hc.hl] at hK;obtain⟨E,hK⟩:=Gr _ _ _ _ hK;rw[jA hc.sl] at hK
 refine yC hm λw e1=>?_
 replace hs:=hs.move e1
 have ax:Sim B w0 ⟨e,h,n,nt⟩ a { w with drawn:=w.drawn+1 } m:=by
  have hb:Bel w.heap.size w { w with drawn:=w.drawn+1 }:=(Bel.refl _ _).drew;have hB:=hs.room;exact⟨hs.base,hs.below.trans (hb.mono hB),hs.defers,hs.size,λt=>(hs.env t).mono (Mm.le.refl m) (λ_ _ h=>h) (λb bp _=>hb.block b bp),hs.heap.below hb,hs.dom,hs.ids,hs.fr.mono (Mm.le.refl m) (λ_ _ h=>h) (λb bp _=>hb.block b bp) (bU _)⟩
 have b':∀i,i<=qs.length->cQ B (T.hs i) m { w with drawn:=w.drawn+1 }/\LB m (T.hs i)=LB m h/\(∀id c,(id,c)∈T.hs i->id<T.ns i):=by
  intro i
  induction i with
  |zero=>intro _;rw[T.hz,T.n0'];exact⟨ax.heap,rfl,ax.ids⟩
  |succ i ih=>
   intro hi;obtain⟨h1,h2,h3⟩:=ih ab;have bg:=T.step i _ _ (iM hc.hl ab (dE (hc.qlt i ab)))
   have hn:n<=T.ns i:=by have:=T.jK (i:=0) (j:=i) ab (by rw[jA hc.hl];omega);rw[T.n0'] at this;exact this
   obtain⟨h4,h5⟩:=vD (T.Es i) (T.hs i) (T.ns i) h1 (λj hj cl=>by have:=(ax.dom j).1 cl;simp only at this;omega) h3;rw[bg.2.2.2.1];refine⟨h4,h5.trans h2,λid c hin=>?_⟩;rw[bg.2.2.2.2.1]
   rcases (kY _ _ _ _ _).1 hin with h6|⟨q,h6,rfl⟩
   .have:=h3 id c h6;omega
   .have:=(fg.1 h6).1;omega
 obtain⟨h1,h2,h3⟩:=b' qs.length (bU _)
 have hf:∀i,(Array.replicate ops.size false).getD i false=false:=by
  intro i;rw[dC,ya]
  split<;>rfl
 refine Oz hc hK ops.size _ 0 a _ m ae (λi o ho hl=>by rw[hf] at hl;cases hl) ?_ ⟨ax.base,ax.below,ax.defers,ax.size,by rw[E.hz];exact h1,by rw[E.hz,E.n0'];exact h3,by rw[E.n0'];exact bU _,λid=>?_,
  (λp t hp hl=>by rw[hf] at hl;cases hl),(λi t hi=>ab),λt _ _=>?_,λi _=>?_,cG _,by rw[E.hz,h2];exact ax.fr⟩
 .unfold open_;refine dN List.countP_le_length ?_;simp
 .rw[ax.dom,E.n0'];constructor
  .exact .inl
  .rintro (h|⟨i,_,hl,_⟩|h)
   .exact h
   .rw[hf] at hl;cases hl
   .omega
 .rw[E.hz,h2];exact ax.env t
 simp_all
end
section
variable{P:Program}{ops:Array Oper}{nt:Nat}{e0:Env}{h0:bz}{n0:Nat}
@[congr] theorem Ya{os:List (Oper×List HS)}{e e':Env}{h h':bz}{n n':Nat}{K:Env->bz->Nat->Prop}(h1:e=e')(h2:h=h')(h3:n=n'):jh P ops nt e0 h0 n0 os e h n K=jh P ops nt e0 h0 n0 os e' h' n' K:=by rw[h1,h2,h3]
@[congr] theorem Yb{os:List (Oper×List HS)}{e e':Env}{h h':bz}{n n':Nat}{K:Env->bz->Nat->Prop}(h1:e=e')(h2:h=h')(h3:n=n'):lM P ops nt e0 h0 n0 os e h n K=lM P ops nt e0 h0 n0 os e' h' n' K:=by rw[h1,h2,h3]
section
omit [bE]
@[simp]theorem Yc(e:Env)(h:bz)(n:Nat):fP P e h n []=[]:=rfl
@[simp]theorem Yd(e:Env)(h:bz)(n k:Nat)(l:List HS):fP P e h n (.new k::l)=qL P e h n (.new k)::fP P e h n l:=rfl
@[simp]theorem Ye(e:Env)(h:bz)(n t:Nat)(l:List HS):fP P e h n (.slot t::l)=qL P e h n (.slot t)::fP P e h n l:=rfl
@[simp]theorem Yf(e:Env)(h:bz)(n t s f:Nat)(l:List HS):fP P e h n (.fld t s f::l)=qL P e h n (.fld t s f)::fP P e h n l:=rfl
@[simp]theorem Yg(e:Env)(h:bz)(n:Nat)(l:List HS):fP P e h n (.all::l)=List.range n++fP P e h n l:=rfl
@[simp]theorem Yh(e:Env)(h:bz)(n k:Nat):qL P e h n (.new k)=n+k:=rfl
@[simp]theorem Yi(e:Env)(h:bz)(n t:Nat):qL P e h n (.slot t)=qK (get e t):=rfl
@[simp]theorem Yj(e:Env)(h:bz)(n t s f:Nat):qL P e h n (.fld t s f)=idF h (get e t) (fOf P s f):=rfl
@[simp]theorem Yk(a b c:Nat):qK (.ptr a b c)=a:=rfl
@[simp]theorem Yl(a b c d e:Nat):qK (.msl a b c d e)=a:=rfl
@[simp]theorem Ym(o f:Bool)(p:PV):qK (.w o f p)=1000000007:=rfl
end
attribute [simp] idF
section
omit [bE]
theorem Gw:∀h:bz,hY [] h=h
 |[]=>rfl
 |(k,v)::r=>by simp[hY,Gw r]
@[simp]theorem Yn(D:List Nat):hY D []=[]:=rfl
theorem Gx(D:List Nat)(k:Nat)(v:List AV)(r:bz):hY D ((k,v)::r)=if k∈D then hY D r else (k,v)::hY D r:=rfl
@[simp]theorem Yo{D:List Nat}{k:Nat}(v:List AV)(r:bz)(h:k∈D):hY D ((k,v)::r)=hY D r:=by rw[Gx,cu h]
@[simp]theorem Yp{D:List Nat}{k:Nat}(v:List AV)(r:bz)(h:¬k∈D):hY D ((k,v)::r)=(k,v)::hY D r:=by rw[Gx,bN h]
@[simp]theorem Yq(D:List Nat)(n:Nat):mG D n []=True:=rfl
@[simp]theorem Yr(D:List Nat)(n:Nat)(c:List AV)(E:List (List AV)):mG D n (c::E)=(¬n∈D/\mG D (n+1) E):=rfl
theorem Gy:∀(n:Nat)(E:List (List AV)),mG [] n E=True
 |_,[]=>rfl
 |n,_::E=>by simp[mG,Gy (n+1) E]
@[simp]theorem Ys(a b c:Nat)(D:List Nat):xE (.ptr a b c) D=(a∈D):=rfl
end
attribute [simp] su
section
omit [bE]
@[simp]theorem Yt(env:Env)(t:TypeId)(ad x:Operand)(D:List Nat):touch env (.store t ad x) D=xE (ev env ad) D:=rfl
@[simp]theorem Yu(env:Env)(args:Array Operand)(tys:Array TypeId)(D:List Nat):touch env (.call ⟨.builtin .append,args,tys⟩) D=su env args.toList D:=rfl
@[simp]theorem Yv(env:Env)(f:Operand)(args:Array Operand)(tys:Array TypeId)(D:List Nat):touch env (.call ⟨.value f,args,tys⟩) D=True:=rfl
@[simp]theorem Yw(env:Env)(args:Array Operand)(tys:Array TypeId)(D:List Nat):touch env (.call ⟨.builtin .len,args,tys⟩) D=True:=rfl
@[simp]theorem Yx(env:Env)(x:Operand)(D:List Nat):touch env (.assign x) D=True:=rfl
@[simp]theorem Yy(env:Env)(x:Operand)(D:List Nat):touch env (.move x) D=True:=rfl
@[simp]theorem Yz(env:Env)(o:BinOp)(t:TypeId)(x y:Operand)(u:TypeId)(D:List Nat):touch env (.binOp o t x y u) D=True:=rfl
@[simp]theorem YA(env:Env)(t:TypeId)(x:Operand)(D:List Nat):touch env (.load t x) D=True:=rfl
@[simp]theorem YB(env:Env)(t:TypeId)(D:List Nat):touch env (.alloc t) D=True:=rfl
@[simp]theorem YC(env:Env)(t:TypeId)(x:Operand)(D:List Nat):touch env (.box t x) D=True:=rfl
@[simp]theorem YD(env:Env)(t:TypeId)(x:Operand)(f:Nat)(D:List Nat):touch env (.fieldAddr t x f) D=True:=rfl
@[simp]theorem YE(env:Env)(t:TypeId)(x i:Operand)(D:List Nat):touch env (.indexAddr t x i) D=True:=rfl
@[simp]theorem YF(env:Env)(x:Operand)(i:Nat)(D:List Nat):touch env (.extract x i) D=True:=rfl
@[simp]theorem YG(env:Env)(a b:TypeId)(x:Operand)(D:List Nat):touch env (.convert a b x) D=True:=rfl
@[simp]theorem YH(env:Env)(t:TypeId)(x:Operand)(l u m:Option Operand)(D:List Nat):touch env (.slice t x l u m) D=True:=rfl
@[simp]theorem YI(env:Env)(t:TypeId)(p:Array (Nat×Operand))(D:List Nat):touch env (.build t p) D=True:=rfl
@[simp]theorem YJ(env:Env)(t:TypeId)(x:Operand)(f:Nat)(D:List Nat):touch env (.field t x f) D=True:=rfl
@[simp]theorem YK(env:Env)(x:Operand)(D:List Nat):touch env (.nilCheck x) D=True:=rfl
@[simp]theorem YL(env:Env)(c x y:Operand)(D:List Nat):touch env (.pick c x y) D=True:=rfl
@[simp]theorem YM(i:Nat)(l:List Nat)(d:List HS)(ds:List (List HS)):opL ops (i::l) (d::ds)=(xG ops i,d)::opL ops l ds:=rfl
@[simp]theorem YN:opL ops [] []=[]:=rfl
@[simp]theorem YO(l:List Oper)(i:Nat):xG l.toArray i=pG l i:=rfl
@[simp]theorem YP(o:Oper)(r:List Oper):pG (o::r) 0=o:=rfl
@[simp]theorem YQ(o:Oper)(r:List Oper)(k:Nat):pG (o::r) (k+1)=pG r k:=rfl
end
variable{env:Env}{h:bz}{n:Nat}
@[simp ↓]theorem YR(K:Env->bz->Nat->Prop):jh P ops nt e0 h0 n0 [] env h n K=K env h n:=rfl
@[simp ↓]theorem YS(K:Env->bz->Nat->Prop):lM P ops nt e0 h0 n0 [] env h n K=K env h n:=rfl
section
variable{dst:Option Tmp}{op:Op}{ty:TypeId}{pos:String}{after:Array Edge}{j:Nat}{want:Bool}{d:HS}{ds:List HS}{os:List (Oper×List HS)}{K:Env->bz->Nat->Prop}
@[simp ↓]theorem YT:jh P ops nt e0 h0 n0 ((⟨dst,op,ty,pos,after,none⟩,[])::os) env h n K=(dOk nt dst/\de P env h n op λv E=>jh P ops nt e0 h0 n0 os (put env dst v) (ck h n E) (n+E.length) K):=by
 simp[jh,gd,Gw,Gy]
@[simp ↓]theorem YU:jh P ops nt e0 h0 n0 ((⟨dst,op,ty,pos,after,none⟩,d::ds)::os) env h n K=(dOk nt dst/\de P env (hY (fP P e0 h0 n0 (d::ds)) h) n op λv E=>mG (fP P e0 h0 n0 (d::ds)) n E/\jh P ops nt e0 h0 n0 os (put env dst v) (ck h n E) (n+E.length) K):=by
 simp[jh,gd]
@[simp ↓]theorem YV{ds:List HS}:lM P ops nt e0 h0 n0 ((⟨dst,op,ty,pos,after,none⟩,ds)::os) env h n K=(dOk nt dst/\touch env op (fP P e0 h0 n0 ds)/\df P env h n op λv h' n'=>lM P ops nt e0 h0 n0 os (put env dst v) h' n' K):=by
 simp[lM,gd]
end
end
def pk(c:Option (List AV))(k:Nat)(r:bz):bz:=match c with|some c=>(k,c)::r|none=>r
omit [bE] in
@[simp]theorem YX(c:List AV)(k:Nat)(r:bz):pk (some c) k r=(k,c)::r:=rfl
def fX(h:bz):List Nat->bz
 |[]=>[]
 |k::ks=>pk (bY h k) k (fX h ks)
omit [bE] in
@[simp]theorem YY(h:bz):fX h []=[]:=rfl
omit [bE] in
@[simp]theorem YZ(h:bz)(k:Nat)(ks:List Nat):fX h (k::ks)=pk (bY h k) k (fX h ks):=rfl
theorem fH{P:Program}{K:Exit->St->Prop}{c:Code}{id:Nat}{env:Env}{h:bz}{n nt:Nat}{α β:Type}(J:α->Prop)(ks:List Nat)(mods:α->Env)(bk:List Nat)(hm:α->bz)(μ:α->Nat)(F:β->Prop)(fks:List Nat)(fmods:β->Env)(fhks:List Nat)(fhm:β->bz)(x0:α)(hJ:J x0)(h0:sr env n (mods x0++fE env ks))(h1:qH h n (hm x0++fX h bk))(round:∀x,J x->cK fk P c ⟨mods x++fE env ks,hm x++fX h bk,n,nt⟩ (j5 fk J (λx=>⟨mods x++fE env ks,hm x++fX h bk,n,nt⟩) μ x (mD fk id F (λy=>⟨fmods y++fE env fks,fhm y++fX h fhks,n,nt⟩) K)))(after:∀y,F y->K .normal ⟨fmods y++fE env fks,fhm y++fX h fhks,n,nt⟩):cK fk P (.block id (.loop c)) ⟨env,h,n,nt⟩ K:=
 wV J ks mods (λx=>hm x++fX h bk) μ F fks fmods (λy=>fhm y++fX h fhks) x0 hJ h0 h1 round after
end Go.Fi
