/- Lemmas. -/
import Derived.Test.YthpkmilhiganjaaGreatPLd
set_option linter.all false
set_option maxHeartbeats 32000000
set_option maxRecDepth 100000
namespace Go.Fi
open Go Go.RowKit
variable[ak]
variable{fk:Fk}
inductive HS where
 |new (k:Nat)
 |slot (t:Nat)
 |fld (t:Nat) (s:TypeId) (f:Nat)
 |all
 deriving DecidableEq,Inhabited
def pY:AV->Nat
 |.ptr id _ _=>id
 |.msl id _ _ _ _=>id
 |.mp id=>id
 |_=>1000000007
def idF(h:ae)(v:AV)(o:Option (Nat×Nat×Bool)):Nat:=
 match v,o with
 |.ptr id _ off,some (o,_,_)=>match aU h id with
  |some c=>pY (kZ c (off+o))
  |none=>1000000007
 |_,_=>1000000007
def pZ(P:Program)(e:Env)(h:ae)(n:Nat):HS->Nat
 |.new k=>n+k
 |.slot t=>pY (get e t)
 |.fld t s f=>idF h (get e t) (fOf P s f)
 |.all=>1000000007
def RD(P:Program)(e:Env)(h:ae)(n:Nat):HS->List Nat
 |.all=>List.range n
 |s=>[pZ P e h n s]
def fj(P:Program)(e:Env)(h:ae)(n:Nat)(l:List HS):List Nat:=l.flatMap (RD P e h n)
def gC(D:List Nat):ae->ae
 |[]=>[]
 |(k,v)::r=>if k∈D then gC D r else (k,v)::gC D r
def lC(D:List Nat):Nat->List (List AV)->Prop
 |_,[]=>True
 |n,_::E=>¬n∈D/\lC D (n+1) E
omit [ak] in
theorem Az{D:List Nat}:∀{h:ae}{id:Nat}{c:List AV},aU (gC D h) id=some c->(id,c)∈h/\¬id∈D
 |[],id,c,e=>by cases e
 |(k,v)::r,id,c,e=>by
  simp only[gC] at e;split at e
  .obtain⟨h1,h2⟩:=Az e;simp_all
  .rename_i hk;simp only[aU] at e;split at e
   .simp_all
   .obtain⟨h1,h2⟩:=Az e;simp_all
omit [ak] in
theorem FK{D:List Nat}:∀{E:List (List AV)}{n k:Nat},lC D n E->k<E.length->¬n+k∈D
 |[],n,k,_,hk=>by simp at hk
 |_::E,n,0,h,_=>h.1
 |_::E,n,k+1,h,hk=>by
  have:=FK (k:=k) h.2 (by grind)
  rwa [show n+1+k=n+(k+1) by omega] at this
def rC(env:Env)(args:List Operand)(D:List Nat):Prop:=
 match args with
 |x::_=>match ev env x with
  |.msl id _ _ _ _=>id∈D
  |_=>True
 |[]=>True
def wS(v:AV)(D:List Nat):Prop:=
 match v with
 |.ptr id _ _=>id∈D
 |_=>False
def wT(v:AV)(D:List Nat):Prop:=
 match v with
 |.mp id=>id∈D
 |_=>False
def touch(env:Env)(op:Op)(D:List Nat):Prop:=
 match op with
 |.store _ ad _=>wS (ev env ad) D
 |.call { callee:=.builtin .append,args:=args,argTypes:=_ }=>rC env args.toList D
 |.call { callee:=.builtin .copy,args:=args,argTypes:=_ }=>rC env args.toList D
 |.mapUpdate _ mo _ _=>wT (ev env mo) D
 |_=>True
def EF(P:Program)(env:Env)(h:ae)(n:Nat)(op:Op)(v:AV)(h':ae)(n':Nat):Prop:=bn P env h n op λv1 h1 n1=>v1=v/\h1=h'/\n1=n'
section
variable{P:Program}{env:Env}{h:ae}{n:Nat}
theorem QF.q{op:Op}{v:AV}{E:List (List AV)}{K:AV->List (List AV)->Prop}(hq:QF P env h n op v E)(hk:K v E):bj P env h n op K:=by
 rcases hq with ⟨c,h0,hc⟩|⟨f,args,tys,g,aF,pvs,res,fr,rfl,hf,hp,⟨hr,cl,rfl,rfl⟩|⟨E0,v0,hr,rfl,rfl⟩⟩
 .unfold bj;split
  .simp[aOp] at h0
  grind
 .simp only[bj,hf,qO,hp];exact .inl ⟨res,fr,hr,cl,hk⟩
 .simp only[bj,hf,qO,hp];exact .inr ⟨E0,v0,hr,hk⟩
theorem bn.ef{op:Op}{K:AV->ae->Nat->Prop}(he:bn P env h n op K):∃v h' n',EF P env h n op v h' n'/\K v h' n':=by
 have quiet:∀op,bj P env h n op (λv E=>K v (aX h n E) (n+E.length))->∃v h' n',bj P env h n op (λv1 E=>v1=v/\aX h n E=h'/\n+E.length=n')/\K v h' n':=by
  intro op hq;obtain⟨v,E,hq,hk⟩:=hq.qf;exact⟨v,_,_,hq.q ⟨rfl,rfl,rfl⟩,hk⟩
 unfold bn at he;unfold EF bn;split at he
 .unfold na at he ⊢;split at he
  .split at he
   .rename_i e;simp only[e];exact⟨_,_,_,⟨he.1,rfl,rfl,rfl⟩,he.2⟩
   .exact he.elim
  .exact he.elim
 .unfold m9 at he ⊢;split at he
  .split at he
   .split at he
    .split at he
     .split at he
      .rename_i e;simp only[e];exact⟨_,_,_,⟨he.1,rfl,rfl,rfl⟩,he.2⟩
      .exact he.elim
     .rename_i own k cells es
      cases ag:(own&&decide (k=0)&&cells.isEmpty) with
      |true=>
       rw[ag] at he;simp only[cond_true] at he ⊢;exact⟨_,_,_,⟨he.1,rfl,rfl,rfl⟩,he.2⟩
      |false=>
       rw[ag] at he;simp only[cond_false] at he ⊢;split at he
       .exact⟨_,_,_,⟨he.1,rfl,rfl,rfl⟩,he.2⟩
       .exact he.elim
     .exact he.elim
    .exact he.elim
   .exact he.elim
  .exact he.elim
 .unfold ng at he ⊢;split at he
  .rename_i e;simp only[e];exact⟨_,_,_,⟨he.1,rfl,rfl,rfl⟩,he.2⟩
  .exact he.elim
 .unfold pK at he ⊢;split at he
  .exact⟨_,_,_,⟨he.1,rfl,rfl,rfl⟩,he.2⟩
  .rename_i aq;obtain⟨v,h',n',h1,h2⟩:=quiet _ he;exact⟨v,h',n',h1,h2⟩
 .exact⟨_,_,_,⟨he.1,rfl,rfl,rfl⟩,he.2⟩
 .unfold nh at he ⊢;split at he
  .split at he
   .rename_i e1 e2 e3 e4;simp only[e1,e2,e3,e4];exact⟨_,_,_,⟨he.1,rfl,rfl,rfl⟩,he.2⟩
   .exact he.elim
  .exact he.elim
 simp_all
omit [ak] in
theorem sL{id i:Nat}{x c:List AV}(aq:i≠id):∀{h:ae},(i,c)∈h->(i,c)∈bu h id x
 |[],hin=>by cases hin
 |(k,v)::r,hin=>by
  simp only[bu];split
  .simp_all
  .rcases db.1 hin with e|e
   .rw[e];simp
   .exact dQ _ (sL aq e)
theorem EF.keep{op:Op}{v:AV}{h':ae}{n':Nat}{D:List Nat}(he:EF P env h n op v h' n')(ht:touch env op D){i:Nat}{c:List AV}(hin:(i,c)∈h)(hD:¬i∈D):(i,c)∈h':=by
 have quiet:∀op,bj P env h n op (λv1 E=>v1=v/\aX h n E=h'/\n+E.length=n')->(i,c)∈h':=by
  intro op hq;obtain⟨_,E,_,_,hk,_⟩:=hq.qf;rw[<-hk];exact (jN E h n i c).2 (.inl hin)
 unfold EF bn at he;split at he
 .unfold na at he;split at he
  .rename_i cj;split at he
   .obtain⟨_,_,h2,_⟩:=he;rw[<-h2];simp only[touch,wS,cj] at ht;exact sL (λe=>hD (by rw[e];exact ht)) hin
   .exact he.elim
  .exact he.elim
 .unfold m9 at he;split at he
  .rename_i ha bh;split at he
   .split at he
    .split at he
     .rename_i es;split at he
      .obtain⟨_,_,h2,_⟩:=he;rw[<-h2];simp only[touch,ha,rC,es] at ht;exact sL (λe=>hD (by rw[e];exact ht)) hin
      .exact he.elim
     .rename_i own k cells es
      cases ag:(own&&decide (k=0)&&cells.isEmpty) with
      |true=>
       rw[ag] at he;simp only[cond_true] at he;obtain⟨_,_,h2,_⟩:=he;rw[<-h2];exact dQ _ hin
      |false=>
       rw[ag] at he;simp only[cond_false] at he;split at he
       .obtain⟨_,_,h2,_⟩:=he;rw[<-h2];exact hin
       .exact he.elim
     .exact he.elim
    .exact he.elim
   .exact he.elim
  .exact he.elim
 .rename_i args tys;unfold ng qP at he
  match ha:args.toList,bh:tys.toList with
  |[d,x],t::ts=>
   rw[ha,bh] at he;simp only[nN,xr] at he
   cases hr:oE P h t (ev env d) (ev env x) with
   |none=>rw[hr] at he;exact he.elim
   |some y=>
    obtain⟨c1,v1,h1⟩:=y;rw[hr] at he;obtain⟨_,_,h2,_⟩:=he;unfold oE at hr;split at hr
    .rename_i hd;split at hr
     .cases hr;rw[<-h2];simp only[touch,ha,rC,hd] at ht;exact sL (λe=>hD (by rw[e];exact ht)) hin
     .cases hr
    .cases hr
  |[],_=>rw[ha] at he;exact he.elim
  |[_],_=>rw[ha] at he;exact he.elim
  |_::_::_::_,_=>rw[ha] at he;exact he.elim
  |[_,_],[]=>rw[ha,bh] at he;exact he.elim
 .unfold pK at he;split at he
  .obtain⟨_,_,h2,_⟩:=he;rw[<-h2];exact hin
  .exact quiet _ he
 .obtain⟨_,_,h2,_⟩:=he;rw[<-h2];exact dQ _ hin
 .unfold nh at he;split at he
  .rename_i hm;split at he
   .obtain⟨_,_,h2,_⟩:=he;rw[<-h2];simp only[touch,wT,hm] at ht;exact sL (λe=>hD (by rw[e];exact ht)) hin
   .exact he.elim
  .exact he.elim
 grind
end
section
variable{P:Program}{ops:Array Oper}{nt:Nat}{e0:Env}{h0:ae}{n0:Nat}
def iN(P:Program)(ops:Array Oper)(nt:Nat)(e0:Env)(h0:ae)(n0:Nat):List (Oper×List HS)->Env->ae->Nat->(Env->ae->Nat->Prop)->Prop
 |[],e,h,n,K=>K e h n
 |(o,d)::os,e,h,n,K=>
  match fE ops e o with
  |some g=>dOk nt o.dst/\(g=true->bj P e (gC (fj P e0 h0 n0 d) h) n o.op λv E=>lC (fj P e0 h0 n0 d) n E/\iN P ops nt e0 h0 n0 os (put e o.dst v) (aX h n E) (n+E.length) K) /\
    (g=false->iN P ops nt e0 h0 n0 os (put e o.dst (.tup [])) h n K)
  |none=>False
def j8(P:Program)(ops:Array Oper)(nt:Nat)(e0:Env)(h0:ae)(n0:Nat):List (Oper×List HS)->Env->ae->Nat->(Env->ae->Nat->Prop)->Prop
 |[],e,h,n,K=>K e h n
 |(o,d)::os,e,h,n,K=>
  match fE ops e o with
  |some g=>dOk nt o.dst/\(g=true->touch e o.op (fj P e0 h0 n0 d)/\bn P e h n o.op λv h' n'=>j8 P ops nt e0 h0 n0 os (put e o.dst v) h' n' K) /\
    (g=false->j8 P ops nt e0 h0 n0 os (put e o.dst (.tup [])) h n K)
  |none=>False
structure TrQ(P:Program)(ops:Array Oper)(nt:Nat)(e0:Env)(h0:ae)(n0:Nat)(os:List (Oper×List HS))(e:Env)(h:ae)(n:Nat) where
 es:Nat->Env
 hs:Nat->ae
 ns:Nat->Nat
 vs:Nat->AV
 Es:Nat->List (List AV)
 gs:Nat->Bool
 e0':es 0=e
 hz:hs 0=h
 n0':ns 0=n
 step:∀i o d,os[i]?=some (o,d)->dOk nt o.dst/\fE ops (es i) o=some (gs i)/\es (i+1)=put (es i) o.dst (vs i)/\hs (i+1)=aX (hs i) (ns i) (Es i)/\ns (i+1)=ns i+(Es i).length /\
  (gs i=true->QF P (es i) (gC (fj P e0 h0 n0 d) (hs i)) (ns i) o.op (vs i) (Es i)/\lC (fj P e0 h0 n0 d) (ns i) (Es i))/\(gs i=false->vs i=.tup []/\Es i=[])
theorem FM{K:Env->ae->Nat->Prop}:∀(os:List (Oper×List HS))(e:Env)(h:ae)(n:Nat),iN P ops nt e0 h0 n0 os e h n K->∃T:TrQ P ops nt e0 h0 n0 os e h n,K (T.es os.length) (T.hs os.length) (T.ns os.length)
 |[],e,h,n,hk=>⟨⟨λ_=>e,λ_=>h,λ_=>n,λ_=>.tup [],λ_=>[],λ_=>true,rfl,rfl,rfl,λi o d hi=>by simp at hi⟩,hk⟩
 |(o,d)::os,e,h,n,hk=>by
  simp only[iN] at hk;split at hk
  .rename_i g hg;obtain⟨hd,h1,h2⟩:=hk
   have main:∀(v:AV)(E:List (List AV)),(g=true->QF P e (gC (fj P e0 h0 n0 d) h) n o.op v E/\lC (fj P e0 h0 n0 d) n E)->(g=false->v=.tup []/\E=[])->iN P ops nt e0 h0 n0 os (put e o.dst v) (aX h n E) (n+E.length) K ->
    ∃T:TrQ P ops nt e0 h0 n0 ((o,d)::os) e h n,K (T.es ((o,d)::os).length) (T.hs ((o,d)::os).length) (T.ns ((o,d)::os).length):=by
    intro v E q1 q2 hr;obtain⟨T,hK⟩:=FM os _ _ _ hr
    refine⟨⟨λi=>match i with|0=>e|i+1=>T.es i,λi=>match i with|0=>h|i+1=>T.hs i,λi=>match i with|0=>n|i+1=>T.ns i,
     λi=>match i with|0=>v|i+1=>T.vs i,λi=>match i with|0=>E|i+1=>T.Es i,λi=>match i with|0=>g|i+1=>T.gs i,rfl,rfl,rfl,λi o' d' hi=>?_⟩,hK⟩
    cases i with
    |zero=>
     simp at hi;obtain⟨rfl,rfl⟩:=hi;exact⟨hd,hg,T.e0',T.hz,T.n0',q1,q2⟩
    |succ i=>exact T.step i o' d' (by simpa using hi)
   cases g with
   |true=>
    obtain⟨v,E,q,hn,hr⟩:=(h1 rfl).qf;exact main v E (λ_=>⟨q,hn⟩) nofun hr
   |false=>exact main (.tup []) [] nofun (λ_=>⟨rfl,rfl⟩) (h2 rfl)
  trivial
structure TrE(P:Program)(ops:Array Oper)(nt:Nat)(e0:Env)(h0:ae)(n0:Nat)(os:List (Oper×List HS))(e:Env)(h:ae)(n:Nat) where
 es:Nat->Env
 hs:Nat->ae
 ns:Nat->Nat
 vs:Nat->AV
 gs:Nat->Bool
 e0':es 0=e
 hz:hs 0=h
 n0':ns 0=n
 step:∀i o d,os[i]?=some (o,d)->dOk nt o.dst/\fE ops (es i) o=some (gs i)/\es (i+1)=put (es i) o.dst (vs i) /\
  (gs i=true->touch (es i) o.op (fj P e0 h0 n0 d)/\EF P (es i) (hs i) (ns i) o.op (vs i) (hs (i+1)) (ns (i+1)))/\(gs i=false->vs i=.tup []/\hs (i+1)=hs i/\ns (i+1)=ns i)
theorem FN{K:Env->ae->Nat->Prop}:∀(os:List (Oper×List HS))(e:Env)(h:ae)(n:Nat),j8 P ops nt e0 h0 n0 os e h n K->∃T:TrE P ops nt e0 h0 n0 os e h n,K (T.es os.length) (T.hs os.length) (T.ns os.length)
 |[],e,h,n,hk=>⟨⟨λ_=>e,λ_=>h,λ_=>n,λ_=>.tup [],λ_=>true,rfl,rfl,rfl,λi o d hi=>by simp at hi⟩,hk⟩
 |(o,d)::os,e,h,n,hk=>by
  simp only[j8] at hk;split at hk
  .rename_i g hg;obtain⟨hd,h1,h2⟩:=hk
   have main:∀(v:AV)(h':ae)(n':Nat),(g=true->touch e o.op (fj P e0 h0 n0 d)/\EF P e h n o.op v h' n')->(g=false->v=.tup []/\h'=h/\n'=n)->j8 P ops nt e0 h0 n0 os (put e o.dst v) h' n' K ->
    ∃T:TrE P ops nt e0 h0 n0 ((o,d)::os) e h n,K (T.es ((o,d)::os).length) (T.hs ((o,d)::os).length) (T.ns ((o,d)::os).length):=by
    intro v h' n' q1 q2 hr;obtain⟨T,hK⟩:=FN os _ _ _ hr
    refine⟨⟨λi=>match i with|0=>e|i+1=>T.es i,λi=>match i with|0=>h|i+1=>T.hs i,λi=>match i with|0=>n|i+1=>T.ns i,
     λi=>match i with|0=>v|i+1=>T.vs i,λi=>match i with|0=>g|i+1=>T.gs i,rfl,rfl,rfl,λi o' d' hi=>?_⟩,hK⟩
    cases i with
    |zero=>
     simp at hi;obtain⟨rfl,rfl⟩:=hi;refine⟨hd,hg,T.e0',λhg=>?_,λhg=>?_⟩
     .obtain⟨h3,h4⟩:=q1 hg;refine⟨h3,?_⟩;show EF P e h n o.op v (T.hs 0) (T.ns 0);rw[T.hz,T.n0'];exact h4
     .obtain⟨h3,h4,h5⟩:=q2 hg;exact⟨h3,T.hz.trans h4,T.n0'.trans h5⟩
    |succ i=>exact T.step i o' d' (by simpa using hi)
   cases g with
   |true=>
    obtain⟨ht,he⟩:=h1 rfl;obtain⟨v,h',n',q,hr⟩:=he.ef;exact main v h' n' (λ_=>⟨ht,q⟩) nofun hr
   |false=>exact main (.tup []) h n nofun (λ_=>⟨rfl,rfl,rfl⟩) (h2 rfl)
  trivial
section
variable{os:List (Oper×List HS)}{e:Env}{h:ae}{n:Nat}
theorem TrQ.jd(T:TrQ P ops nt e0 h0 n0 os e h n){i j:Nat}(bd:i<=j)(hj:j<=os.length):T.ns i<=T.ns j:=by
 induction j with
 |zero=>have:i=0:=by omega
        simp_all
 |succ j ih=>
  by_cases hi:i=j+1
  .simp_all
  .have:=ih (by omega) (by omega);have hs:=(T.step j os[j].1 os[j].2 (cG (by omega))).2.2.2.2.1;omega
theorem TrQ.tB(T:TrQ P ops nt e0 h0 n0 os e h n){i j:Nat}(bd:i<=j)(hj:j<=os.length){p:Nat×List AV}(hp:p∈T.hs i):p∈T.hs j:=by
 induction j with
 |zero=>have:i=0:=by omega
        simp_all
 |succ j ih=>
  by_cases hi:i=j+1
  .simp_all
  .have:=ih (by omega) (by omega);have hs:=(T.step j os[j].1 os[j].2 (cG (by omega))).2.2.2.1;rw[hs];exact (jN (T.Es j) (T.hs j) (T.ns j) p.1 p.2).2 (.inl this)
omit [ak] in
theorem sN(es:Nat->Env)(vs:Nat->AV)(bc:∀i o d,os[i]?=some (o,d)->es (i+1)=put (es i) o.dst (vs i))(i:Nat)(hi:i<=os.length)(t:Nat):(∃(j:Nat)(o:Oper)(d:List HS),j<i/\os[j]?=some (o,d)/\o.dst=some t/\get (es i) t=vs j)\/((∀(j:Nat)(o:Oper)(d:List HS),j<i->os[j]?=some (o,d)->o.dst≠some t)/\get (es i) t=get (es 0) t):=by
 induction i with
 |zero=>simp
 |succ i ih=>
  have cm:os[i]?=some os[i]:=cG (by omega);have hs:=bc i os[i].1 os[i].2 cm;rw[hs]
  cases hd:os[i].1.dst with
  |none=>
   simp only[put]
   grind
  |some d'=>
   simp only[put,get]
   grind
end
end
def rd(ops:Array Oper)(x t:Nat):Bool:=match ops[x]? with|some o=>(jc ops o).contains t|none=>false
def wr(ops:Array Oper)(x:Nat)(f:Nat->Bool):Bool:=match cO ops x with|some t=>f t|none=>true
def B9(ops:Array Oper)(qs ss:List Nat)(hh sp:List (List HS)):Bool:=
 ((List.range ops.size).all λi=>match ops[i]? with
   |some o=>o.after.toList.all λe=>!Region.binds .any e || decide (e.on<i)
   |none=>true) &&
 ((List.range ops.size).all λi=>qs.contains i || ss.contains i)&&((qs++ss).all λx=>decide (x<ops.size))&&decide ((qs++ss).Nodup)&&decide (hh.length=qs.length)&&decide (sp.length=ss.length) &&
 ((List.range qs.length).all λp=>(List.range qs.length).all λq=>wr ops (nth qs q) λt=>!rd ops (nth qs p) t || (decide (q<p)&&reach ops 6 (nth qs p) (nth qs q)) || decide (q=p) || (decide (p<q)&&reach ops 6 (nth qs q) (nth qs p))) &&
 ((List.range qs.length).all λp=>(List.range ss.length).all λj=>wr ops (nth ss j) λt=>!rd ops (nth qs p) t || reach ops 8 (nth ss j) (nth qs p)) &&
 ((List.range ss.length).all λj=>(List.range qs.length).all λp=>wr ops (nth qs p) λt=>!rd ops (nth ss j) t || reach ops 8 (nth ss j) (nth qs p)) &&
 ((List.range ops.size).all λi=>(List.range ops.size).all λj=>decide (i=j) || wr ops i λt=>decide (cO ops j≠some t)) &&
 ((List.range ss.length).all λj=>(List.range j).all λi=>reach ops 8 (nth ss j) (nth ss i)) &&
 ((List.range qs.length).all λp=>(List.range ss.length).all λj=>reach ops 8 (nth ss j) (nth qs p) || (nth sp j).all λs=>(nth hh p).contains s)
structure oQ(ops:Array Oper)(qs ss:List Nat)(hh sp:List (List HS)):Prop where
 down:∀(i:Nat)(o:Oper),ops[i]?=some o->∀e∈o.after,Region.binds .any e=true->e.on<i
 all:∀i,i<ops.size->(∃p,p<qs.length/\nth qs p=i)\/(∃j,j<ss.length/\nth ss j=i)
 qlt:∀p,p<qs.length->nth qs p<ops.size
 slt:∀j,j<ss.length->nth ss j<ops.size
 RF:∀p q,p<qs.length->q<qs.length->nth qs p=nth qs q->p=q
 HQ:∀i j,i<ss.length->j<ss.length->nth ss i=nth ss j->i=j
 qne:∀p j,p<qs.length->j<ss.length->nth qs p≠nth ss j
 hl:hh.length=qs.length
 sl:sp.length=ss.length
 qq:∀p q t o,p<qs.length->q<qs.length->cO ops (nth qs q)=some t->ops[nth qs p]?=some o->t∈jc ops o->(q<p/\reach ops 6 (nth qs p) (nth qs q)=true)\/q=p\/(p<q/\reach ops 6 (nth qs q) (nth qs p)=true)
 sq:∀p j t o,p<qs.length->j<ss.length->cO ops (nth ss j)=some t->ops[nth qs p]?=some o->t∈jc ops o->reach ops 8 (nth ss j) (nth qs p)=true
 qs':∀p j t o,p<qs.length->j<ss.length->cO ops (nth qs p)=some t->ops[nth ss j]?=some o->t∈jc ops o->reach ops 8 (nth ss j) (nth qs p)=true
 once:∀i j t,i<ops.size->j<ops.size->i≠j->cO ops i=some t->cO ops j≠some t
 chain:∀i j,j<ss.length->i<j->reach ops 8 (nth ss j) (nth ss i)=true
 hidden:∀p j,p<qs.length->j<ss.length->reach ops 8 (nth ss j) (nth qs p)=true\/∀s∈nth sp j,s∈nth hh p
section
omit [ak]
theorem kI{α:Type}[Inhabited α]{l:List α}{i:Nat}(h:i<l.length):nth l i∈l:=by
 simp[nth,da,cG h]
theorem FO{α:Type}[Inhabited α]{l:List α}{i:Nat}(h:i<l.length):l[i]?=some (nth l i):=by
 simp[nth,da,cG h]
theorem FP{α:Type}[Inhabited α]{l:List α}{x:α}(h:x∈l):∃i,i<l.length/\nth l i=x:=by
 obtain⟨i,hi,rfl⟩:=lI h;exact⟨i,hi,by simp[nth,da,cG hi]⟩
theorem Np{ops:Array Oper}{qs ss:List Nat}{hh sp:List (List HS)}(h:B9 ops qs ss hh sp=true):oQ ops qs ss hh sp:=by
 simp only[B9,di,decide_eq_true_eq,fR,qn,rX,List.contains_iff_mem] at h;obtain⟨⟨⟨⟨⟨⟨⟨⟨⟨⟨⟨h1,h2⟩,h3⟩,h4⟩,h5⟩,h6⟩,h7⟩,h8⟩,h9⟩,cf⟩,cg⟩,d2⟩:=h;have bz:=List.nodup_append.1 h4
 have dO:∀{l:List Nat},l.Nodup->∀p q,p<l.length->q<l.length->nth l p=nth l q->p=q:=by
  intro l hl p q hp hq he;have h1:=FO hp;have h2:=FO hq;rw[he] at h1;rw[cG hp] at h1;rw[cG hq] at h2;have h3:l[p]=l[q]:=(eJ h1).trans (eJ h2).symm;have h4:=rV.1 hl
  rcases Nat.lt_trichotomy p q with h|h|h
  .exact absurd h3 (h4 p q hp hq h)
  .exact h
  .exact absurd h3.symm (h4 q p hq hp h)
 have c5:∀x t o,ops[x]?=some o->t∈jc ops o->rd ops x t=true:=by
  intro x t o ho ht;simp only[rd,ho,List.contains_iff_mem];exact ht
 have bm:∀x t f,cO ops x=some t->wr ops x f=true->f t=true:=by
  intro x t f hd hw;simpa only[wr,hd] using hw
 refine⟨λi o ho e hin hb=>?_,λi hi=>?_,λp hp=>?_,λj hj=>?_,dO bz.1,dO bz.2.1,λp j hp hj=>?_,h5,h6,λp q t o hp hq hd ho ht=>?_,λp j t o hp hj hd ho ht=>?_,λp j t o hp hj hd ho ht=>?_,λi j t hi hj aq hd=>?_,λi j hj hi=>?_,λp j hp hj=>?_⟩
 .have co:=(a8.1 ho).1;have:=h1 i co;simp only[ho,fR] at this;have:=this e (qm.2 hin);simpa[hb] using this
 .rcases h2 i hi with h|h
  .exact .inl (FP h)
  .exact .inr (FP h)
 .exact h3 _ (iF.2 (.inl (kI hp)))
 .exact h3 _ (iF.2 (.inr (kI hj)))
 .exact bz.2.2 _ (kI hp) _ (kI hj)
 .have:=bm _ _ _ hd (h7 p hp q hq);rw[c5 _ _ _ ho ht] at this;simp only[fZ,iT,rX,di,decide_eq_true_eq] at this
  rcases this with (h|h)|h
  .exact .inl h
  .exact .inr (.inl h)
  .exact .inr (.inr h)
 .have:=bm _ _ _ hd (h8 p hp j hj);rw[c5 _ _ _ ho ht] at this;simpa using this
 .have:=bm _ _ _ hd (h9 j hj p hp);rw[c5 _ _ _ ho ht] at this;simpa using this
 .rcases cf i hi j hj with h|h
  .exact absurd h aq
  .simpa using bm _ _ _ hd h
 .exact cg j hj i hi
 simp_all
end
section
variable{P:Program}{ops:Array Oper}{nt:Nat}{qs ss:List Nat}{hh sp:List (List HS)}{e:Env}{h:ae}{n:Nat}
def oR:List Oper->Nat->Oper
 |[],_=>⟨none,.move (.func 0),0, "",#[],none⟩
 |o::_,0=>o
 |_::r,k+1=>oR r k
def wU(ops:Array Oper)(i:Nat):Oper:=oR ops.toList i
def opL(ops:Array Oper):List Nat->List (List HS)->List (Oper×List HS)
 |i::l,d::ds=>(wU ops i,d)::opL ops l ds
 |_,_=>[]
section
omit [ak]
theorem FQ:∀(l:List Oper)(i:Nat)(o:Oper),l[i]?=some o->oR l i=o
 |[],i,o,h=>by simp at h
 |x::r,0,o,h=>by simpa[oR] using h
 |x::r,i+1,o,h=>FQ r i o (by simpa using h)
theorem iW:∀{l:List Nat}{d:List (List HS)},d.length=l.length->(opL ops l d).length=l.length
 |[],[],_=>rfl
 |i::l,d::ds,h=>by simp[opL,iW (l:=l) (d:=ds) (by simpa using h)]
 |[],_::_,h=>by simp at h
 |_::_,[],h=>by simp at h
theorem il:∀{l:List Nat}{d:List (List HS)},d.length=l.length->∀{i:Nat}{o:Oper},i<l.length->ops[nth l i]?=some o->(opL ops l d)[i]?=some (o,nth d i)
 |[],_,_,i,o,hi,_=>by simp at hi
 |_::_,[],h,_,_,_,_=>by simp at h
 |x::l,d::ds,h,0,o,hi,ho=>by
  simp only[opL,xk,FG] at ho ⊢;rw[show wU ops x=o from FQ _ _ _ (by rw[iQ];exact ho)]
 |x::l,d::ds,h,i+1,o,hi,ho=>by
  simp only[opL,tX,Ay] at ho ⊢;exact il (by simpa using h) (by grind) ho
end
structure fX(P:Program)(ops:Array Oper)(nt:Nat)(qs ss:List Nat)(hh sp:List (List HS))(e:Env)(h:ae)(n:Nat)(T:TrQ P ops nt e h n (opL ops qs hh) e h n)
 (E:TrE P ops nt e h n (opL ops ss sp) (T.es qs.length) (T.hs qs.length) (T.ns qs.length)) (B:Base) (w0:Ctx fk) (listed:Array Bool) (j:Nat) (a:Act) (w:World) (m:Mm):Prop where
 base:B.n=w0.w.heap.size
 below:Bel B.n w0.w w
 defers:a.defers=marks w0.ds
 size:a.tmps.size=nt
 heap:aY B (E.hs j) m w
 ids:∀id c,(id,c)∈E.hs j->id<E.ns j
 mono:T.ns qs.length<=E.ns j
 dom:∀id,m.dom id↔id<n\/(∃p,p<qs.length/\listed.getD (nth qs p) false=true/\T.ns p<=id/\id<T.ns p+(T.Es p).length)\/(T.ns qs.length<=id/\id<E.ns j)
 done:∀p t,p<qs.length->listed.getD (nth qs p) false=true->cO ops (nth qs p)=some t->al B (LB m (E.hs j)) m w (T.vs p) (a.tmps.getD t undef)
 tN:∀i t,i<j->cO ops (nth ss i)=some t->al B (LB m (E.hs j)) m w (E.vs i) (a.tmps.getD t undef)
 old:∀t,(∀p,p<qs.length->listed.getD (nth qs p) false=true->cO ops (nth qs p)≠some t)->(∀i,i<j->cO ops (nth ss i)≠some t)->al B (LB m (E.hs j)) m w (get e t) (a.tmps.getD t undef)
 lst:∀i,i<ss.length->(listed.getD (nth ss i) false=true↔i<j)
 jl:j<=ss.length
 fr:oF B w0 (LB m (E.hs j)) m w n
variable{T:TrQ P ops nt e h n (opL ops qs hh) e h n}{E:TrE P ops nt e h n (opL ops ss sp) (T.es qs.length) (T.hs qs.length) (T.ns qs.length)}{B:Base}{w0:Ctx fk}{listed:Array Bool}{j:Nat}{a:Act}{w:World}{m:Mm}
theorem fX.bel{w':World}(hp:fX P ops nt qs ss hh sp e h n T E B w0 listed j a w m)(hb:Bel w.heap.size w w'):fX P ops nt qs ss hh sp e h n T E B w0 listed j a w' m:=by
 have hr:B.n<=w.heap.size:=by have:=hp.below.size;have:=hp.base;omega
 have hm:∀x v,al B (LB m (E.hs j)) m w x v->al B (LB m (E.hs j)) m w' x v:=λx v h=>h.mono (Mm.le.refl m) (λ_ _ x=>x) (λb hl _=>hb.block b hl)
 exact⟨hp.base,hp.below.trans (hb.mono hr),hp.defers,hp.size,hp.heap.below hb,hp.ids,hp.mono,hp.dom,λp t hi hl hd=>hm _ _ (hp.done p t hi hl hd),λi t hi hd=>hm _ _ (hp.tN i t hi hd),λt h1 h2=>hm _ _ (hp.old t h1 h2),hp.lst,hp.jl,
  hp.fr.mono (Mm.le.refl m) (λ_ _ x=>x) (λb hl _=>hb.block b hl) (aD _)⟩
section
omit [ak]
theorem AA(a6:Closed ops listed){f i k:Nat}(hi:i<ops.size)(hl:listed.getD i false=true)(hr:reach ops f i k=true):listed.getD k false=true:=
 lP a6 f i k ops[i] (bS hi) (λe hin hb=>a6 i _ (bS hi) hl e hin hb) hr
theorem jQ{x:Nat}{o:Oper}(ho:ops[x]?=some o):cO ops x=o.dst:=by simp[cO,ho]
theorem sP{l:List Nat}{d:List (List HS)}(hl:d.length=l.length)(hb:∀i,i<l.length->nth l i<ops.size){i:Nat}{o:Oper}{x:List HS}(ho:(opL ops l d)[i]?=some (o,x)):i<l.length/\ops[nth l i]?=some o/\x=nth d i:=by
 have hi:i<l.length:=by have:=(dP.1 ho).1;rwa [iW hl] at this
 have h1:=il (d:=d) hl hi (bS (hb i hi));rw[h1] at ho;simp_all
end
theorem fX.HT(hp:fX P ops nt qs ss hh sp e h n T E B w0 listed j a w m)(hc:oQ ops qs ss hh sp)(a6:Closed ops listed){p:Nat}{o:Oper}(a':p<qs.length)(ho:ops[nth qs p]?=some o)(bl:listed.getD (nth qs p) false=false)(he:∀e∈o.after,Region.binds .any e=true->listed.getD e.on false=true){t:Nat}(ht:t∈jc ops o):al B (LB m (E.hs j)) m w (get (T.es p) t) (a.tmps.getD t undef):=by
 rcases sN T.es T.vs (λi o d hi=>(T.step i o d hi).2.2.1) p (by rw[iW hc.hl];omega) t with ⟨q,oq,d,h1,h2,h3,h4⟩|⟨h1,h2⟩
 .obtain⟨hq,aa,_⟩:=sP hc.hl hc.qlt h2
  have hd:cO ops (nth qs q)=some t:=by rw[jQ aa];exact h3
  rw[h4]
  rcases hc.qq p q t o a' hq hd ho ht with ⟨_,h⟩|h|⟨h,_⟩
  .exact hp.done q t hq (lP a6 6 _ _ o ho he h) hd
  .omega
  .omega
 .rw[h2,T.e0'];refine hp.old t (λq hq hl hd=>?_) (λi hi hd=>?_)
  .rcases hc.qq p q t o a' hq hd ho ht with ⟨h,_⟩|h|⟨_,h⟩
   .have aa:=bS (hc.qlt q hq);exact h1 q _ _ h (il hc.hl hq aa) (by rw[<-jQ aa];exact hd)
   .simp_all
   .have:=AA a6 (hc.qlt q hq) hl h;rw[bl] at this;cases this
  .have a5:i<ss.length:=kh hi hp.jl;have:=AA a6 (hc.slt i a5) ((hp.lst i a5).2 hi) (hc.sq p i t o a' a5 hd ho ht);rw[bl] at this;cases this
theorem fX.HU(hp:fX P ops nt qs ss hh sp e h n T E B w0 listed j a w m)(hc:oQ ops qs ss hh sp)(a6:Closed ops listed){o:Oper}(b4:j<ss.length)(ho:ops[nth ss j]?=some o)(he:∀e∈o.after,Region.binds .any e=true->listed.getD e.on false=true){t:Nat}(ht:t∈jc ops o):al B (LB m (E.hs j)) m w (get (E.es j) t) (a.tmps.getD t undef):=by
 rcases sN E.es E.vs (λi o d hi=>(E.step i o d hi).2.2.1) j (by rw[iW hc.sl];omega) t with ⟨q,oq,d,h1,h2,h3,h4⟩|⟨h1,h2⟩
 .obtain⟨hq,aa,_⟩:=sP hc.sl hc.slt h2;rw[h4];exact hp.tN q t h1 (by rw[jQ aa];exact h3)
 .rw[h2,E.e0']
  have aw:∀i,i<j->cO ops (nth ss i)≠some t:=λi hi hd=>by
   have a5:i<ss.length:=kh hi hp.jl;have av:=bS (hc.slt i a5);exact h1 i _ _ hi (il hc.sl a5 av) (by rw[<-jQ av];exact hd)
  rcases sN T.es T.vs (λi o d hi=>(T.step i o d hi).2.2.1) qs.length (by rw[iW hc.hl];omega) t with ⟨q,oq,d,h1,h2,h3,h4⟩|⟨h1,h2⟩
  .obtain⟨hq,aa,_⟩:=sP hc.hl hc.qlt h2
   have hd:cO ops (nth qs q)=some t:=by rw[jQ aa];exact h3
   rw[h4];exact hp.done q t hq (lP a6 8 _ _ o ho he (hc.qs' q j t o hq b4 hd ho ht)) hd
  .rw[h2,T.e0'];refine hp.old t (λq hq hl hd=>?_) aw;have aa:=bS (hc.qlt q hq);exact h1 q _ _ hq (il hc.hl hq aa) (by rw[<-jQ aa];exact hd)
theorem fX.frame(hp:fX P ops nt qs ss hh sp e h n T E B w0 listed j a w m)(hc:oQ ops qs ss hh sp){id:Nat}{c:List AV}(hin:(id,c)∈T.hs qs.length):∀i,i<=j->(∀k,k<i->¬id∈fj P e h n (nth sp k))->(id,c)∈E.hs i
 |0,_,_=>by rw[E.hz];exact hin
 |i+1,hi,aw=>by
  have h1:=fX.frame hp hc hin i (by omega) (λk hk=>aw k (by omega));have a5:i<ss.length:=kh (by omega) hp.jl;have av:=bS (hc.slt i a5);obtain⟨_,_,_,h2,h3⟩:=E.step i _ _ (il hc.sl a5 av)
  cases hg:E.gs i with
  |true=>exact (h2 hg).2.keep (h2 hg).1 h1 (aw i (by omega))
  |false=>rw[(h3 hg).2.1];exact h1
theorem fX.HV(hp:fX P ops nt qs ss hh sp e h n T E B w0 listed j a w m)(hc:oQ ops qs ss hh sp)(a6:Closed ops listed){p:Nat}(a':p<qs.length)(bl:listed.getD (nth qs p) false=false){id:Nat}(aw:¬id∈fj P e h n (nth hh p)):∀k,k<j->¬id∈fj P e h n (nth sp k):=by
 intro k hk hin;have br:k<ss.length:=kh hk hp.jl
 rcases hc.hidden p k a' br with h|h
 .have:=AA a6 (hc.slt k br) ((hp.lst k br).2 hk) h;rw[bl] at this;cases this
 .obtain⟨s,hs,hin⟩:=xB.1 hin;exact aw (xB.2 ⟨s,h s hs,hin⟩)
omit [ak] in
theorem FR{i k:Nat}(hi:i<listed.size):(listed.setIfInBounds i true).getD k false=if i=k then true else listed.getD k false:=by
 split<;>simp_all
theorem fX.RG(hp:fX P ops nt qs ss hh sp e h n T E B w0 listed j a w m)(hc:oQ ops qs ss hh sp){p:Nat}{o:Oper}(a':p<qs.length)(ho:ops[nth qs p]?=some o)(hf:listed[nth qs p]?=some false){v':Value}{w':World}{m':Mm}(ay:dOk nt o.dst)(bi:ir B (E.hs j) m w (T.ns p) (T.Es p).length (T.vs p) v' w' m'):fX P ops nt qs ss hh sp e h n T E B w0 (listed.setIfInBounds (nth qs p) true) j (a.put o.dst v') w' m':=by
 obtain⟨p1,p2,p3,p4,p5,p6⟩:=bi
 have hB:B.n<=w.heap.size:=by have:=hp.below.size;have:=hp.base;omega
 have hO:ak.ok w:=ak.keep w0.ok (by have:=hp.below;rw[hp.base] at this;exact this)
 have a4:∀p v,al B (LB m (E.hs j)) m w p v->al B (LB m' (E.hs j)) m' w' p v:=λp v hr=>hr.mono p1 (λb hb hn hl=>by
  grind) (λb hb _=>p3.block b hb)
 have au:=(a8.1 hf).1;have ax:cO ops (nth qs p)=o.dst:=jQ ho
 have b9:dOk a.tmps.size o.dst:=by rw[hp.size];exact ay
 have ba:listed.getD (nth qs p) false=false:=by rw[bQ,hf];rfl
 have bu:∀k,(listed.setIfInBounds (nth qs p) true).getD k false=if nth qs p=k then true else listed.getD k false:=λk=>FR au
 have cv:∀q,q<qs.length->(nth qs p=nth qs q↔q=p):=λq hq=>⟨λh=>(hc.RF p q a' hq h).symm,λh=>by rw[h]⟩
 refine⟨hp.base,hp.below.trans (p3.mono hB),by rw[jM];exact hp.defers,by rw[jL];exact hp.size,p4,hp.ids,hp.mono,λid=>?_,λq t hq hl hd=>?_,λi t hi hd=>?_,λt hq hi=>?_,λi hi=>?_,hp.jl,hp.fr.mono p1 (λb hb hn hl=>by
  grind) (λb hb _=>p3.block b hb) (aD _)⟩
 .rw[p2,hp.dom]
  grind
 .rw[nT b9];by_cases ct:q=p
  .simp_all
  .have aq:nth qs p≠nth qs q:=λh=>ct ((cv q hq).1 h)
   rw[bu,ai aq] at hl
   have:o.dst≠some t:=λb5=>hc.once _ _ t (hc.qlt p a') (hc.qlt q hq) aq (by rw[ax];exact b5) hd
   rw[ai this];exact a4 _ _ (hp.done q t hq hl hd)
 .rw[nT b9];have a5:i<ss.length:=kh hi hp.jl
  have:o.dst≠some t:=λb5=>hc.once _ _ t (hc.qlt p a') (hc.slt i a5) (hc.qne p i a' a5) (by rw[ax];exact b5) hd
  rw[ai this];exact a4 _ _ (hp.tN i t hi hd)
 .rw[nT b9];have h1:=hq p a' (by rw[bu,az rfl]);rw[ax] at h1;rw[ai h1];refine a4 _ _ (hp.old t (λq bb hl=>hq q bb ?_) hi)
  rw[bu];split<;>simp_all
 .rw[bu,ai (hc.qne p i a' hi)];exact hp.lst i hi
theorem fX.RH(hp:fX P ops nt qs ss hh sp e h n T E B w0 listed j a w m)(hc:oQ ops qs ss hh sp){o:Oper}(b4:j<ss.length)(ho:ops[nth ss j]?=some o)(hf:listed[nth ss j]?=some false){v':Value}{w':World}{m':Mm}(ay:dOk nt o.dst)(bq:∀id c,(id,c)∈E.hs (j+1)->id<E.ns (j+1))(bv:E.ns j<=E.ns (j+1))(bi:EPost B (E.hs j) m w (E.ns j) (E.hs (j+1)) (E.ns (j+1)) (E.vs j) v' w' m'):fX P ops nt qs ss hh sp e h n T E B w0 (listed.setIfInBounds (nth ss j) true) (j+1) (a.put o.dst v') w' m':=by
 obtain⟨p1,p2,p3,p4,p5,p6,p7⟩:=bi
 have a4:∀p v,al B (LB m (E.hs j)) m w p v->al B (LB m' (E.hs (j+1))) m' w' p v:=λp v hr=>hr.mono p1 p5 p6
 have au:=(a8.1 hf).1;have ax:cO ops (nth ss j)=o.dst:=jQ ho
 have b9:dOk a.tmps.size o.dst:=by rw[hp.size];exact ay
 have bu:∀k,(listed.setIfInBounds (nth ss j) true).getD k false=if nth ss j=k then true else listed.getD k false:=λk=>FR au
 have c4:∀q,q<qs.length->nth ss j≠nth qs q:=λq hq h=>hc.qne q j hq b4 h.symm
 refine⟨hp.base,hp.below.trans p3,by rw[jM];exact hp.defers,by rw[jL];exact hp.size,p4,bq,b7 hp.mono bv,λid=>?_,λq t hq hl hd=>?_,λi t hi hd=>?_,λt hq hi=>?_,λi hi=>?_,by omega,hp.fr.mono p1 p5 p6 (aD _)⟩
 .rw[p2,hp.dom];have d6:=hp.mono
  grind
 .rw[nT b9];rw[bu,ai (c4 q hq)] at hl
  have:o.dst≠some t:=λb5=>hc.once _ _ t (hc.slt j b4) (hc.qlt q hq) (c4 q hq) (by rw[ax];exact b5) hd
  rw[ai this];exact a4 _ _ (hp.done q t hq hl hd)
 .rw[nT b9];by_cases bd:i=j
  .simp_all
  .have a5:i<ss.length:=by omega
   have aq:nth ss j≠nth ss i:=λh=>bd (hc.HQ j i b4 a5 h).symm
   have:o.dst≠some t:=λb5=>hc.once _ _ t (hc.slt j b4) (hc.slt i a5) aq (by rw[ax];exact b5) hd
   rw[ai this];exact a4 _ _ (hp.tN i t (by omega) hd)
 .rw[nT b9];have h1:=hi j (by omega);rw[ax] at h1;rw[ai h1];exact a4 _ _ (hp.old t (λq bb hl=>hq q bb (by rw[bu,ai (c4 q bb)];exact hl)) (λi d3=>hi i (by omega)))
 .rw[bu];split
  .rename_i heq;have:=hc.HQ j i b4 hi heq;simp;omega
  .rename_i aq;rw[hp.lst i hi]
   have:i≠j:=by grind
   omega
theorem Nq(hc:oQ ops qs ss hh sp){K:Exit->St->Prop}(hK:K .normal ⟨E.es ss.length,E.hs ss.length,E.ns ss.length,nt⟩):∀(f:Nat)(listed:Array Bool)(j:Nat)(a:Act)(w:World)(m:Mm),listed.size=ops.size->Closed ops listed->open_ listed<=f->fX P ops nt qs ss hh sp e h n T E B w0 listed j a w m->iY w0.r P .any ops (λe a w=>∃st' m',K e st'/\Sim B w0 st' a w m') f listed a w:=by
 have last:∀(listed:Array Bool)(j:Nat)(a:Act)(w:World)(m:Mm),(∀i,i<ops.size->listed.getD i false=true)->fX P ops nt qs ss hh sp e h n T E B w0 listed j a w m->∃st' m',K .normal st'/\Sim B w0 st' a w m':=by
  intro listed j a w m af hp
  have hj:j=ss.length:=by
   have:=hp.jl
   rcases dN j ss.length with h1|h1
   .have:=(hp.lst j h1).1 (af _ (hc.slt j h1));omega
   .omega
  subst hj;refine⟨_,m,hK,hp.base,hp.below,hp.defers,hp.size,λt=>?_,hp.heap,λid=>?_,hp.ids,hp.fr.mono (Mm.le.refl m) (λ_ _ h=>h) (λ_ _ _=>rfl) (by have h1:=T.jd (i:=0) (j:=qs.length) (by omega) (by rw[iW hc.hl];omega);rw[T.n0'] at h1;exact b7 h1 hp.mono)⟩
  .show al _ _ _ _ (get (E.es ss.length) t) _
   rcases sN E.es E.vs (λi o d hi=>(E.step i o d hi).2.2.1) ss.length (by rw[iW hc.sl];omega) t with ⟨q,oq,d,h1,h2,h3,h4⟩|⟨h1,h2⟩
   .obtain⟨hq,aa,_⟩:=sP hc.sl hc.slt h2;rw[h4];exact hp.tN q t h1 (by rw[jQ aa];exact h3)
   .rw[h2,E.e0']
    have aw:∀i,i<ss.length->cO ops (nth ss i)≠some t:=λi hi hd=>by
     have av:=bS (hc.slt i hi);exact h1 i _ _ hi (il hc.sl hi av) (by rw[<-jQ av];exact hd)
    rcases sN T.es T.vs (λi o d hi=>(T.step i o d hi).2.2.1) qs.length (by rw[iW hc.hl];omega) t with ⟨q,oq,d,h1,h2,h3,h4⟩|⟨h1,h2⟩
    .obtain⟨hq,aa,_⟩:=sP hc.hl hc.qlt h2;rw[h4];exact hp.done q t hq (af _ (hc.qlt q hq)) (by rw[jQ aa];exact h3)
    .rw[h2,T.e0'];refine hp.old t (λq hq hl hd=>?_) aw;have aa:=bS (hc.qlt q hq);exact h1 q _ _ hq (il hc.hl hq aa) (by rw[<-jQ aa];exact hd)
  .rw[hp.dom];show _↔id<E.ns ss.length
   have b':∀i,i<=qs.length->(id<T.ns i↔id<n\/∃j,j<i/\T.ns j<=id/\id<T.ns j+(T.Es j).length):=by
    intro i
    induction i with
    |zero=>intro _;rw[T.n0'];simp
    |succ i ih=>
     intro hi;have av:=bS (hc.qlt i (by omega));have bc:=(T.step i _ _ (il hc.hl (by omega) av)).2.2.2.2.1;rw[bc]
     grind
   have h1:=b' qs.length (aD _);have h2:=hp.mono;constructor
   .grind
   .intro h3
    rcases dN id (T.ns qs.length) with h4|h4
    .rcases h1.1 h4 with h5|⟨p,h5,h6⟩
     .exact .inl h5
     .exact .inr (.inl ⟨p,h5,af _ (hc.qlt p h5),h6⟩)
    omega
 have noready:∀(listed:Array Bool),listed.size=ops.size->(∀i,i<ops.size->listed.getD i false=true)->Region.ready .any ops listed=[]:=by
  intro listed au af
  cases hr:Region.ready .any ops listed with
  |nil=>rfl
  |cons x xs=>
   obtain⟨o,ho,hf,_⟩:=mQ au (i:=x) (by rw[hr];simp);have:=af x (a8.1 ho).1;rw[bQ,hf] at this;cases this
 intro f
 induction f with
 |zero=>
  intro listed j a w m au a6 c6 hp
  have af:∀i,i<ops.size->listed.getD i false=true:=λi hi=>pb (xu.1 c6) (by omega)
  exact⟨noready listed au af,last listed j a w m af hp⟩
 |succ f ih=>
  intro listed j a w m au a6 c6 hp;refine⟨λc2=>?_,λx hx=>?_⟩
  .refine last listed j a w m (λi hi=>?_) hp
   cases hq:listed.getD i false with
   |true=>rfl
   |false=>exact absurd c2 (qv au hc.down i hi hq)
  .obtain⟨o,ho,hf,he⟩:=mQ au hx;have cx:=(a8.1 ho).1
   have ba:listed.getD x false=false:=by rw[bQ,hf];rfl
   unfold jR;rw[ho];intro w e1;replace hp:=hp.bel (EnvD.ext e1)
   have hB:B.n<=w.heap.size:=by have:=hp.below.size;have:=hp.base;omega
   have hO:ak.ok w:=ak.keep w0.ok (by have:=hp.below;rw[hp.base] at this;exact this)
   have bf:open_ (listed.setIfInBounds x true)<=f:=by have:=o9 hf;omega
   rcases hc.all x cx with ⟨p,a',rfl⟩|⟨i,a5,rfl⟩
   .obtain⟨ay,hw,_,_,_,bk,c3⟩:=T.step p o _ (il hc.hl a' ho)
    have ao:∀v' w' m',ir B (E.hs j) m w (T.ns p) (T.Es p).length (T.vs p) v' w' m'->iY w0.r P .any ops (λe a w=>∃st' m',K e st'/\Sim B w0 st' a w m') f (listed.setIfInBounds (nth qs p) true) (a.put o.dst v') w':=by
     intro v' w' m' aj;exact ih _ j _ w' m' (by grind) (a6.set ho he) bf (hp.RG hc a' ho hf ay aj)
    have hlen:=iW (ops:=ops) hc.hl;simp only[yL hw (λt ht=>hp.HT hc a6 a' ho ba he ht)]
    cases hg:T.gs p with
    |true=>
     simp only[aJ];obtain⟨c7,cq⟩:=bk hg;refine jk (G1 c7) (c7.sound o hO hp.heap hB (λid cs hl=>?_) (λq cs hl=>?_) (λq hq hd=>?_) (λy hy=>?_) _ _ (λv' w' m' aj=>ao v' w' m' aj))
     .obtain⟨h1,h2⟩:=Az hl;exact hp.frame hc (T.tB (i:=p) (by omega) (by omega) h1) j (aD _) (hp.HV hc a6 a' ba h2)
     .have bb:=(dP.1 hl).1;refine hp.frame hc (T.tB (i:=p+1) (by omega) (by omega) ?_) j (aD _) (hp.HV hc a6 a' ba (FK cq bb));rw[(T.step p o _ (il hc.hl a' ho)).2.2.2.1];exact (jN _ _ _ _ _).2 (.inr ⟨q,hl,rfl⟩)
     .have d8:n<=T.ns p:=by have:=T.jd (i:=0) (j:=p) (by omega) (by omega);rw[T.n0'] at this;exact this
      have d9:=(T.step p o _ (il hc.hl a' ho)).2.2.2.2.1;have cp:=T.jd (i:=p+1) (j:=qs.length) (by omega) (by omega)
      rcases (hp.dom _).1 hd with h1|⟨k,hk,hl,h2,h3⟩|h1
      .omega
      .have d5:k≠p:=by
        grind
       have cw:=(T.step k _ _ (il hc.hl hk (bS (hc.qlt k hk)))).2.2.2.2.1
       rcases dN k p with h4|h4
       .have:=T.jd (i:=k+1) (j:=p) (by omega) (by omega);omega
       .have:=T.jd (i:=p+1) (j:=k) (by omega) (by omega);omega
      .omega
     .refine lM y (λt e=>?_);subst e;exact hp.HT hc a6 a' ho ba he (yK hy)
    |false=>
     simp only[bw,aQ];obtain⟨h1,h2⟩:=c3 hg;refine ao undef w m ?_;rw[h1,h2];exact⟨Mm.le.refl m,λi=>⟨.inl,λh=>h.elim id λh=>by grind⟩,Bel.refl _ _,hp.heap,λb hb=>.inl hb,.tup rfl (λj p v hp=>by simp at hp)⟩
   .have bd:i=j:=by
     have h1:¬i<j:=λh=>by
      have:=(hp.lst i a5).2 h;rw[ba] at this;cases this
     rcases dN j i with h2|h2
     .have h3:=lP a6 8 _ _ o ho he (hc.chain j i a5 h2);have:=(hp.lst j (by omega)).1 h3;omega
     .omega
    subst bd;obtain⟨ay,hw,_,bk,c3⟩:=E.step i o _ (il hc.sl a5 ho)
    have ao:∀v' w' m',(∀id c,(id,c)∈E.hs (i+1)->id<E.ns (i+1))->E.ns i<=E.ns (i+1)->EPost B (E.hs i) m w (E.ns i) (E.hs (i+1)) (E.ns (i+1)) (E.vs i) v' w' m'->iY w0.r P .any ops (λe a w=>∃st' m',K e st'/\Sim B w0 st' a w m') f (listed.setIfInBounds (nth ss i) true) (a.put o.dst v') w':=by
     intro v' w' m' h1 h2 aj;exact ih _ (i+1) _ w' m' (by grind) (a6.set ho he) bf (hp.RH hc a5 ho hf ay h1 h2 aj)
    simp only[yL hw (λt ht=>hp.HU hc a6 a5 ho he ht)]
    cases hg:E.gs i with
    |true=>
     simp only[aJ];refine jk (uR (bk hg).2) (Dy o (bk hg).2 hO hp.heap hB (λk hk hd=>?_) hp.ids (λy hy=>?_) _ _ (λv v' h' n' w' m' d4 bi hn hh=>?_))
     .have cp:=hp.mono
      have d7:n<=T.ns qs.length:=by have:=T.jd (i:=0) (j:=qs.length) (by omega) (by rw[iW hc.hl];omega);rw[T.n0'] at this;exact this
      rcases (hp.dom _).1 hd with h1|⟨q,hq,hl,h2,h3⟩|h1
      .omega
      .have cw:=(T.step q _ _ (il hc.hl hq (bS (hc.qlt q hq)))).2.2.2.2.1;have:=T.jd (i:=q+1) (j:=qs.length) (by omega) (by rw[iW hc.hl];omega);omega
      .omega
     .refine lM y (λt e=>?_);subst e;exact hp.HU hc a6 a5 ho he (yK hy)
     grind
    |false=>
     simp only[bw,aQ];obtain⟨h1,h2,h3⟩:=c3 hg;refine ao undef w m (by rw[h2,h3];exact hp.ids) (by rw[h3];simp) ?_;rw[h1,h2,h3];exact⟨Mm.le.refl m,lO,Bel.refl _ _,hp.heap,λb _ h=>h,λb _ _=>rfl,.tup rfl (λj p v hp=>by simp at hp)⟩
theorem qF{K:Exit->St->Prop}(qs ss:List Nat)(hh sp:List (List HS)){id:Nat}(hm:P.follows .mixedOrders=true)(bp:B9 ops qs ss hh sp=true)(hk:iN P ops nt e h n (opL ops qs hh) e h n λe' h' n'=>j8 P ops nt e h n (opL ops ss sp) e' h' n' λc8 c9 cy=>K .normal ⟨c8,c9,cy,nt⟩):aS fk P (.region id ops true) ⟨e,h,n,nt⟩ K:=by
 intro B w0 a w m hs;have hc:=Np bp;obtain⟨T,hK⟩:=FM _ _ _ _ hk;rw[iW hc.hl] at hK;obtain⟨E,hK⟩:=FN _ _ _ _ hK;rw[iW hc.sl] at hK
 refine xW hm λw e1=>?_
 replace hs:=hs.move e1
 have ar:Sim B w0 ⟨e,h,n,nt⟩ a { w with drawn:=w.drawn+1 } m:=by
  have hb:Bel w.heap.size w { w with drawn:=w.drawn+1 }:=(Bel.refl _ _).drew;have hB:=hs.room;exact⟨hs.base,hs.below.trans (hb.mono hB),hs.defers,hs.size,λt=>(hs.env t).mono (Mm.le.refl m) (λ_ _ h=>h) (λb bo _=>hb.block b bo),hs.heap.below hb,hs.dom,hs.ids,hs.fr.mono (Mm.le.refl m) (λ_ _ h=>h) (λb bo _=>hb.block b bo) (aD _)⟩
 have b6:∀i,i<=qs.length->aY B (T.hs i) m { w with drawn:=w.drawn+1 }/\LB m (T.hs i)=LB m h/\(∀id c,(id,c)∈T.hs i->id<T.ns i):=by
  intro i
  induction i with
  |zero=>intro _;rw[T.hz,T.n0'];exact⟨ar.heap,rfl,ar.ids⟩
  |succ i ih=>
   intro hi;obtain⟨h1,h2,h3⟩:=ih (by omega);have bc:=T.step i _ _ (il hc.hl (by omega) (bS (hc.qlt i (by omega))))
   have hn:n<=T.ns i:=by have:=T.jd (i:=0) (j:=i) (by omega) (by rw[iW hc.hl];omega);rw[T.n0'] at this;exact this
   obtain⟨h4,h5⟩:=uQ (T.Es i) (T.hs i) (T.ns i) h1 (λj hj ck=>by have:=(ar.dom j).1 ck;simp only at this;omega) h3;rw[bc.2.2.2.1];refine⟨h4,h5.trans h2,λid c hin=>?_⟩;rw[bc.2.2.2.2.1]
   rcases (jN _ _ _ _ _).1 hin with h6|⟨q,h6,rfl⟩
   .have:=h3 id c h6;omega
   .have:=(dP.1 h6).1;omega
 obtain⟨h1,h2,h3⟩:=b6 qs.length (aD _)
 have hf:∀i,(Array.replicate ops.size false).getD i false=false:=by
  intro i;rw[bQ,xw]
  split<;>rfl
 refine Nq hc hK ops.size _ 0 a _ m (by simp) (λi o ho hl=>by rw[hf] at hl;cases hl) ?_ ⟨ar.base,ar.below,ar.defers,ar.size,by rw[E.hz];exact h1,by rw[E.hz,E.n0'];exact h3,by rw[E.n0'];exact aD _,λid=>?_,
  (λp t hp hl=>by rw[hf] at hl;cases hl),(λi t hi=>by omega),λt _ _=>?_,λi _=>?_,aR _,by rw[E.hz,h2];exact ar.fr⟩
 .unfold open_;refine b7 Io ?_;simp
 .rw[ar.dom,E.n0'];constructor
  .exact .inl
  .rintro (h|⟨i,_,hl,_⟩|h)
   .exact h
   .rw[hf] at hl;cases hl
   .omega
 .rw[E.hz,h2];exact ar.env t
 simp_all
end
section
variable{P:Program}{ops:Array Oper}{nt:Nat}{e0:Env}{h0:ae}{n0:Nat}
@[congr] theorem WQ{os:List (Oper×List HS)}{e e':Env}{h h':ae}{n n':Nat}{K:Env->ae->Nat->Prop}(h1:e=e')(h2:h=h')(h3:n=n'):iN P ops nt e0 h0 n0 os e h n K=iN P ops nt e0 h0 n0 os e' h' n' K:=by rw[h1,h2,h3]
@[congr] theorem WR{os:List (Oper×List HS)}{e e':Env}{h h':ae}{n n':Nat}{K:Env->ae->Nat->Prop}(h1:e=e')(h2:h=h')(h3:n=n'):j8 P ops nt e0 h0 n0 os e h n K=j8 P ops nt e0 h0 n0 os e' h' n' K:=by rw[h1,h2,h3]
section
omit [ak]
@[simp]theorem WT(e:Env)(h:ae)(n:Nat):fj P e h n []=[]:=rfl
@[simp]theorem WU(e:Env)(h:ae)(n k:Nat)(l:List HS):fj P e h n (.new k::l)=pZ P e h n (.new k)::fj P e h n l:=rfl
@[simp]theorem WV(e:Env)(h:ae)(n t:Nat)(l:List HS):fj P e h n (.slot t::l)=pZ P e h n (.slot t)::fj P e h n l:=rfl
@[simp]theorem WW(e:Env)(h:ae)(n t s f:Nat)(l:List HS):fj P e h n (.fld t s f::l)=pZ P e h n (.fld t s f)::fj P e h n l:=rfl
@[simp]theorem WX(e:Env)(h:ae)(n:Nat)(l:List HS):fj P e h n (.all::l)=List.range n++fj P e h n l:=rfl
@[simp]theorem WY(e:Env)(h:ae)(n k:Nat):pZ P e h n (.new k)=n+k:=rfl
@[simp]theorem WZ(e:Env)(h:ae)(n t:Nat):pZ P e h n (.slot t)=pY (get e t):=rfl
@[simp]theorem W0(e:Env)(h:ae)(n t s f:Nat):pZ P e h n (.fld t s f)=idF h (get e t) (fOf P s f):=rfl
@[simp]theorem W1(a b c:Nat):pY (.ptr a b c)=a:=rfl
@[simp]theorem W3(a b c d e:Nat):pY (.msl a b c d e)=a:=rfl
@[simp]theorem W4(o f:Bool)(p:PV):pY (.w o f p)=1000000007:=rfl
end
attribute [simp] idF
section
omit [ak]
theorem FT:∀h:ae,gC [] h=h
 |[]=>rfl
 |(k,v)::r=>by simp[gC,FT r]
@[simp]theorem W5(D:List Nat):gC D []=[]:=rfl
theorem FU(D:List Nat)(k:Nat)(v:List AV)(r:ae):gC D ((k,v)::r)=if k∈D then gC D r else (k,v)::gC D r:=rfl
@[simp]theorem W6{D:List Nat}{k:Nat}(v:List AV)(r:ae)(h:k∈D):gC D ((k,v)::r)=gC D r:=by rw[FU,az h]
@[simp]theorem W7{D:List Nat}{k:Nat}(v:List AV)(r:ae)(h:¬k∈D):gC D ((k,v)::r)=(k,v)::gC D r:=by rw[FU,ai h]
@[simp]theorem W8(D:List Nat)(n:Nat):lC D n []=True:=rfl
@[simp]theorem W9(D:List Nat)(n:Nat)(c:List AV)(E:List (List AV)):lC D n (c::E)=(¬n∈D/\lC D (n+1) E):=rfl
theorem FV:∀(n:Nat)(E:List (List AV)),lC [] n E=True
 |_,[]=>rfl
 |n,_::E=>by simp[lC,FV (n+1) E]
@[simp]theorem Xa(a b c:Nat)(D:List Nat):wS (.ptr a b c) D=(a∈D):=rfl
end
attribute [simp] rC
section
omit [ak]
@[simp]theorem Xb(env:Env)(t:TypeId)(ad x:Operand)(D:List Nat):touch env (.store t ad x) D=wS (ev env ad) D:=rfl
@[simp]theorem Xc(env:Env)(args:Array Operand)(tys:Array TypeId)(D:List Nat):touch env (.call ⟨.builtin .append,args,tys⟩) D=rC env args.toList D:=rfl
@[simp]theorem Xd(env:Env)(f:Operand)(args:Array Operand)(tys:Array TypeId)(D:List Nat):touch env (.call ⟨.value f,args,tys⟩) D=True:=rfl
@[simp]theorem Xe(env:Env)(args:Array Operand)(tys:Array TypeId)(D:List Nat):touch env (.call ⟨.builtin .len,args,tys⟩) D=True:=rfl
@[simp]theorem Xg(env:Env)(x:Operand)(D:List Nat):touch env (.assign x) D=True:=rfl
@[simp]theorem Xh(env:Env)(x:Operand)(D:List Nat):touch env (.move x) D=True:=rfl
@[simp]theorem Xi(env:Env)(o:BinOp)(t:TypeId)(x y:Operand)(u:TypeId)(D:List Nat):touch env (.binOp o t x y u) D=True:=rfl
@[simp]theorem Xj(env:Env)(t:TypeId)(x:Operand)(D:List Nat):touch env (.load t x) D=True:=rfl
@[simp]theorem Xk(env:Env)(t:TypeId)(D:List Nat):touch env (.alloc t) D=True:=rfl
@[simp]theorem Xl(env:Env)(t:TypeId)(x:Operand)(D:List Nat):touch env (.box t x) D=True:=rfl
@[simp]theorem Xm(env:Env)(t:TypeId)(x:Operand)(f:Nat)(D:List Nat):touch env (.fieldAddr t x f) D=True:=rfl
@[simp]theorem Xn(env:Env)(t:TypeId)(x i:Operand)(D:List Nat):touch env (.indexAddr t x i) D=True:=rfl
@[simp]theorem Xo(env:Env)(x:Operand)(i:Nat)(D:List Nat):touch env (.extract x i) D=True:=rfl
@[simp]theorem Xp(env:Env)(a b:TypeId)(x:Operand)(D:List Nat):touch env (.convert a b x) D=True:=rfl
@[simp]theorem Xq(env:Env)(t:TypeId)(x:Operand)(l u m:Option Operand)(D:List Nat):touch env (.slice t x l u m) D=True:=rfl
@[simp]theorem Xr(env:Env)(t:TypeId)(p:Array (Nat×Operand))(D:List Nat):touch env (.build t p) D=True:=rfl
@[simp]theorem Xs(env:Env)(t:TypeId)(x:Operand)(f:Nat)(D:List Nat):touch env (.field t x f) D=True:=rfl
@[simp]theorem Xt(env:Env)(x:Operand)(D:List Nat):touch env (.nilCheck x) D=True:=rfl
@[simp]theorem Xu(env:Env)(c x y:Operand)(D:List Nat):touch env (.pick c x y) D=True:=rfl
@[simp]theorem Xv(i:Nat)(l:List Nat)(d:List HS)(ds:List (List HS)):opL ops (i::l) (d::ds)=(wU ops i,d)::opL ops l ds:=rfl
@[simp]theorem Xw:opL ops [] []=[]:=rfl
@[simp]theorem Xx(l:List Oper)(i:Nat):wU l.toArray i=oR l i:=rfl
@[simp]theorem Xy(o:Oper)(r:List Oper):oR (o::r) 0=o:=rfl
@[simp]theorem Xz(o:Oper)(r:List Oper)(k:Nat):oR (o::r) (k+1)=oR r k:=rfl
end
variable{env:Env}{h:ae}{n:Nat}
@[simp ↓]theorem XA(K:Env->ae->Nat->Prop):iN P ops nt e0 h0 n0 [] env h n K=K env h n:=rfl
@[simp ↓]theorem XB(K:Env->ae->Nat->Prop):j8 P ops nt e0 h0 n0 [] env h n K=K env h n:=rfl
section
variable{dst:Option Tmp}{op:Op}{ty:TypeId}{pos:String}{after:Array Edge}{j:Nat}{want:Bool}{d:HS}{ds:List HS}{os:List (Oper×List HS)}{K:Env->ae->Nat->Prop}
@[simp ↓]theorem XC:iN P ops nt e0 h0 n0 ((⟨dst,op,ty,pos,after,none⟩,[])::os) env h n K=(dOk nt dst/\bj P env h n op λv E=>iN P ops nt e0 h0 n0 os (put env dst v) (aX h n E) (n+E.length) K):=by
 simp[iN,fE,FT,FV]
@[simp ↓]theorem XD:iN P ops nt e0 h0 n0 ((⟨dst,op,ty,pos,after,none⟩,d::ds)::os) env h n K=(dOk nt dst/\bj P env (gC (fj P e0 h0 n0 (d::ds)) h) n op λv E=>lC (fj P e0 h0 n0 (d::ds)) n E/\iN P ops nt e0 h0 n0 os (put env dst v) (aX h n E) (n+E.length) K):=by
 simp[iN,fE]
@[simp ↓]theorem XE{ds:List HS}:j8 P ops nt e0 h0 n0 ((⟨dst,op,ty,pos,after,none⟩,ds)::os) env h n K=(dOk nt dst/\touch env op (fj P e0 h0 n0 ds)/\bn P env h n op λv h' n'=>j8 P ops nt e0 h0 n0 os (put env dst v) h' n' K):=by
 simp[j8,fE]
end
end
def pk(c:Option (List AV))(k:Nat)(r:ae):ae:=match c with|some c=>(k,c)::r|none=>r
omit [ak] in
@[simp]theorem XG(c:List AV)(k:Nat)(r:ae):pk (some c) k r=(k,c)::r:=rfl
def gX(h:ae):List Nat->ae
 |[]=>[]
 |k::ks=>pk (aU h k) k (gX h ks)
omit [ak] in
@[simp]theorem XH(h:ae):gX h []=[]:=rfl
omit [ak] in
@[simp]theorem XI(h:ae)(k:Nat)(ks:List Nat):gX h (k::ks)=pk (aU h k) k (gX h ks):=rfl
theorem eD{P:Program}{K:Exit->St->Prop}{c:Code}{id:Nat}{env:Env}{h:ae}{n nt:Nat}{α β:Type}(J:α->Prop)(ks:List Nat)(mods:α->Env)(bg:List Nat)(hm:α->ae)(μ:α->Nat)(F:β->Prop)(fks:List Nat)(fmods:β->Env)(fhks:List Nat)(fhm:β->ae)(x0:α)(hJ:J x0)(h0:rA env n (mods x0++fP env ks))(h1:pW h n (hm x0++gX h bg))(round:∀x,J x->aS fk P c ⟨mods x++fP env ks,hm x++gX h bg,n,nt⟩ (jX fk J (λx=>⟨mods x++fP env ks,hm x++gX h bg,n,nt⟩) μ x (nH fk id F (λy=>⟨fmods y++fP env fks,fhm y++gX h fhks,n,nt⟩) K)))(after:∀y,F y->K .normal ⟨fmods y++fP env fks,fhm y++gX h fhks,n,nt⟩):aS fk P (.block id (.loop c)) ⟨env,h,n,nt⟩ K:=
 vX J ks mods (λx=>hm x++gX h bg) μ F fks fmods (λy=>fhm y++gX h fhks) x0 hJ h0 h1 round after
end Go.Fi
