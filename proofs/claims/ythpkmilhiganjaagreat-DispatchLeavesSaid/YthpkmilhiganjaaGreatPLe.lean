/- Lemmas. -/
import Derived.Test.YthpkmilhiganjaaGreatPLd
set_option linter.all false
set_option maxHeartbeats 32000000
set_option maxRecDepth 100000
namespace Go.Fi
open Go Go.RowKit
variable[av]
variable{fk:Fk}
inductive HS where
 |new (k:Nat)
 |slot (t:Nat)
 |fld (t:Nat) (s:TypeId) (f:Nat)
 |all
 deriving DecidableEq,Inhabited
def qM:AV->Nat
 |.ptr id _ _=>id
 |.msl id _ _ _ _=>id
 |.mp id=>id
 |_=>1000000007
def idF(h:ak)(v:AV)(o:Option (Nat×Nat×Bool)):Nat:=
 match v,o with
 |.ptr id _ off,some (o,_,_)=>match bf h id with
  |some c=>qM (lh c (off+o))
  |none=>1000000007
 |_,_=>1000000007
def qN(P:Program)(e:Env)(h:ak)(n:Nat):HS->Nat
 |.new k=>n+k
 |.slot t=>qM (get e t)
 |.fld t s f=>idF h (get e t) (fOf P s f)
 |.all=>1000000007
def Sb(P:Program)(e:Env)(h:ak)(n:Nat):HS->List Nat
 |.all=>List.range n
 |s=>[qN P e h n s]
def eY(P:Program)(e:Env)(h:ak)(n:Nat)(l:List HS):List Nat:=l.flatMap (Sb P e h n)
def gA(D:List Nat):ak->ak
 |[]=>[]
 |(k,v)::r=>if k∈D then gA D r else (k,v)::gA D r
def lH(D:List Nat):Nat->List (List AV)->Prop
 |_,[]=>True
 |n,_::E=>¬n∈D/\lH D (n+1) E
omit [av] in
theorem Bh{D:List Nat}:∀{h:ak}{id:Nat}{c:List AV},bf (gA D h) id=some c->(id,c)∈h/\¬id∈D
 |[],id,c,e=>by cases e
 |(k,v)::r,id,c,e=>by
  simp only[gA] at e;split at e
  .obtain⟨h1,h2⟩:=Bh e;simp_all
  .rename_i hk;simp only[bf] at e;split at e
   .simp_all
   .obtain⟨h1,h2⟩:=Bh e;simp_all
omit [av] in
theorem Gh{D:List Nat}:∀{E:List (List AV)}{n k:Nat},lH D n E->k<E.length->¬n+k∈D
 |[],n,k,_,hk=>by simp at hk
 |_::E,n,0,h,_=>h.1
 |_::E,n,k+1,h,hk=>by
  have:=Gh (k:=k) h.2 (by grind)
  rwa [show n+1+k=n+(k+1) by omega] at this
def sj(env:Env)(args:List Operand)(D:List Nat):Prop:=
 match args with
 |x::_=>match ev env x with
  |.msl id _ _ _ _=>id∈D
  |_=>True
 |[]=>True
def xG(v:AV)(D:List Nat):Prop:=
 match v with
 |.ptr id _ _=>id∈D
 |_=>False
def xH(v:AV)(D:List Nat):Prop:=
 match v with
 |.mp id=>id∈D
 |_=>False
def touch(env:Env)(op:Op)(D:List Nat):Prop:=
 match op with
 |.store _ ad _=>xG (ev env ad) D
 |.call { callee:=.builtin .append,args:=args,argTypes:=_ }=>sj env args.toList D
 |.call { callee:=.builtin .copy,args:=args,argTypes:=_ }=>sj env args.toList D
 |.mapUpdate _ mo _ _=>xH (ev env mo) D
 |_=>True
def EF(P:Program)(env:Env)(h:ak)(n:Nat)(op:Op)(v:AV)(h':ak)(n':Nat):Prop:=bH P env h n op λv1 h1 n1=>v1=v/\h1=h'/\n1=n'
section
variable{P:Program}{env:Env}{h:ak}{n:Nat}
theorem QF.q{op:Op}{v:AV}{E:List (List AV)}{K:AV->List (List AV)->Prop}(hq:QF P env h n op v E)(hk:K v E):bG P env h n op K:=by
 rcases hq with ⟨c,h0,hc⟩|⟨f,args,tys,g,aH,pvs,res,fr,rfl,hf,hp,⟨hr,cj,rfl,rfl⟩|⟨E0,v0,hr,rfl,rfl⟩⟩
 .unfold bG;split
  .simp[aOp] at h0
  grind
 .simp only[bG,hf,rK,hp];exact .inl ⟨res,fr,hr,cj,hk⟩
 .simp only[bG,hf,rK,hp];exact .inr ⟨E0,v0,hr,hk⟩
theorem bH.ef{op:Op}{K:AV->ak->Nat->Prop}(he:bH P env h n op K):∃v h' n',EF P env h n op v h' n'/\K v h' n':=by
 have quiet:∀op,bG P env h n op (λv E=>K v (bu h n E) (n+E.length))->∃v h' n',bG P env h n op (λv1 E=>v1=v/\bu h n E=h'/\n+E.length=n')/\K v h' n':=by
  intro op hq;obtain⟨v,E,hq,hk⟩:=hq.qf;exact⟨v,_,_,hq.q ⟨rfl,rfl,rfl⟩,hk⟩
 unfold bH at he;unfold EF bH;split at he
 .unfold nK at he ⊢;split at he
  .split at he
   .rename_i e;simp only[e];exact⟨_,_,_,⟨he.1,rfl,rfl,rfl⟩,he.2⟩
   .exact he.elim
  .exact he.elim
 .unfold nJ at he ⊢;split at he
  .split at he
   .split at he
    .split at he
     .split at he
      .rename_i e;simp only[e];exact⟨_,_,_,⟨he.1,rfl,rfl,rfl⟩,he.2⟩
      .exact he.elim
     .rename_i own k cells es
      cases aa:(own&&decide (k=0)&&cells.isEmpty) with
      |true=>
       rw[aa] at he;simp only[cond_true] at he ⊢;exact⟨_,_,_,⟨he.1,rfl,rfl,rfl⟩,he.2⟩
      |false=>
       rw[aa] at he;simp only[cond_false] at he ⊢;split at he
       .exact⟨_,_,_,⟨he.1,rfl,rfl,rfl⟩,he.2⟩
       .exact he.elim
     .exact he.elim
    .exact he.elim
   .exact he.elim
  .exact he.elim
 .unfold nL at he ⊢;split at he
  .rename_i e;simp only[e];exact⟨_,_,_,⟨he.1,rfl,rfl,rfl⟩,he.2⟩
  .exact he.elim
 .unfold qC at he ⊢;split at he
  .exact⟨_,_,_,⟨he.1,rfl,rfl,rfl⟩,he.2⟩
  .rename_i ag;obtain⟨v,h',n',h1,h2⟩:=quiet _ he;exact⟨v,h',n',h1,h2⟩
 .exact⟨_,_,_,⟨he.1,rfl,rfl,rfl⟩,he.2⟩
 .unfold nM at he ⊢;split at he
  .split at he
   .rename_i e1 e2 e3 e4;simp only[e1,e2,e3,e4];exact⟨_,_,_,⟨he.1,rfl,rfl,rfl⟩,he.2⟩
   .exact he.elim
  .exact he.elim
 simp_all
omit [av] in
theorem tQ{id i:Nat}{x c:List AV}(ag:i≠id):∀{h:ak},(i,c)∈h->(i,c)∈bP h id x
 |[],hin=>by cases hin
 |(k,v)::r,hin=>by
  simp only[bP];split
  .simp_all
  .rcases cD.1 hin with e|e
   .rw[e];simp
   .exact dm _ (tQ ag e)
theorem EF.keep{op:Op}{v:AV}{h':ak}{n':Nat}{D:List Nat}(he:EF P env h n op v h' n')(ht:touch env op D){i:Nat}{c:List AV}(hin:(i,c)∈h)(hD:¬i∈D):(i,c)∈h':=by
 have quiet:∀op,bG P env h n op (λv1 E=>v1=v/\bu h n E=h'/\n+E.length=n')->(i,c)∈h':=by
  intro op hq;obtain⟨_,E,_,_,hk,_⟩:=hq.qf;rw[<-hk];exact (jR E h n i c).2 (.inl hin)
 unfold EF bH at he;split at he
 .unfold nK at he;split at he
  .rename_i cf;split at he
   .obtain⟨_,_,h2,_⟩:=he;rw[<-h2];simp only[touch,xG,cf] at ht;exact tQ (λe=>hD (by rw[e];exact ht)) hin
   .exact he.elim
  .exact he.elim
 .unfold nJ at he;split at he
  .rename_i ha b5;split at he
   .split at he
    .split at he
     .rename_i es;split at he
      .obtain⟨_,_,h2,_⟩:=he;rw[<-h2];simp only[touch,ha,sj,es] at ht;exact tQ (λe=>hD (by rw[e];exact ht)) hin
      .exact he.elim
     .rename_i own k cells es
      cases aa:(own&&decide (k=0)&&cells.isEmpty) with
      |true=>
       rw[aa] at he;simp only[cond_true] at he;obtain⟨_,_,h2,_⟩:=he;rw[<-h2];exact dm _ hin
      |false=>
       rw[aa] at he;simp only[cond_false] at he;split at he
       .obtain⟨_,_,h2,_⟩:=he;rw[<-h2];exact hin
       .exact he.elim
     .exact he.elim
    .exact he.elim
   .exact he.elim
  .exact he.elim
 .rename_i args tys;unfold nL rM at he
  match ha:args.toList,b5:tys.toList with
  |[d,x],t::ts=>
   rw[ha,b5] at he;simp only[mV,uM] at he
   cases hr:o9 P h t (ev env d) (ev env x) with
   |none=>rw[hr] at he;exact he.elim
   |some y=>
    obtain⟨c1,v1,h1⟩:=y;rw[hr] at he;obtain⟨_,_,h2,_⟩:=he;unfold o9 at hr;split at hr
    .rename_i hd;split at hr
     .cases hr;rw[<-h2];simp only[touch,ha,sj,hd] at ht;exact tQ (λe=>hD (by rw[e];exact ht)) hin
     .cases hr
    .cases hr
  |[],_=>rw[ha] at he;exact he.elim
  |[_],_=>rw[ha] at he;exact he.elim
  |_::_::_::_,_=>rw[ha] at he;exact he.elim
  |[_,_],[]=>rw[ha,b5] at he;exact he.elim
 .unfold qC at he;split at he
  .obtain⟨_,_,h2,_⟩:=he;rw[<-h2];exact hin
  .exact quiet _ he
 .obtain⟨_,_,h2,_⟩:=he;rw[<-h2];exact dm _ hin
 .unfold nM at he;split at he
  .rename_i hm;split at he
   .obtain⟨_,_,h2,_⟩:=he;rw[<-h2];simp only[touch,xH,hm] at ht;exact tQ (λe=>hD (by rw[e];exact ht)) hin
   .exact he.elim
  .exact he.elim
 grind
end
section
variable{P:Program}{ops:Array Oper}{nt:Nat}{e0:Env}{h0:ak}{n0:Nat}
def iN(P:Program)(ops:Array Oper)(nt:Nat)(e0:Env)(h0:ak)(n0:Nat):List (Oper×List HS)->Env->ak->Nat->(Env->ak->Nat->Prop)->Prop
 |[],e,h,n,K=>K e h n
 |(o,d)::os,e,h,n,K=>
  match fB ops e o with
  |some g=>dOk nt o.dst/\(g=true->bG P e (gA (eY P e0 h0 n0 d) h) n o.op λv E=>lH (eY P e0 h0 n0 d) n E/\iN P ops nt e0 h0 n0 os (put e o.dst v) (bu h n E) (n+E.length) K) /\
    (g=false->iN P ops nt e0 h0 n0 os (put e o.dst (.tup [])) h n K)
  |none=>False
def ky(P:Program)(ops:Array Oper)(nt:Nat)(e0:Env)(h0:ak)(n0:Nat):List (Oper×List HS)->Env->ak->Nat->(Env->ak->Nat->Prop)->Prop
 |[],e,h,n,K=>K e h n
 |(o,d)::os,e,h,n,K=>
  match fB ops e o with
  |some g=>dOk nt o.dst/\(g=true->touch e o.op (eY P e0 h0 n0 d)/\bH P e h n o.op λv h' n'=>ky P ops nt e0 h0 n0 os (put e o.dst v) h' n' K) /\
    (g=false->ky P ops nt e0 h0 n0 os (put e o.dst (.tup [])) h n K)
  |none=>False
structure TrQ(P:Program)(ops:Array Oper)(nt:Nat)(e0:Env)(h0:ak)(n0:Nat)(os:List (Oper×List HS))(e:Env)(h:ak)(n:Nat) where
 es:Nat->Env
 hs:Nat->ak
 ns:Nat->Nat
 vs:Nat->AV
 Es:Nat->List (List AV)
 gs:Nat->Bool
 e0':es 0=e
 hz:hs 0=h
 n0':ns 0=n
 step:∀i o d,os[i]?=some (o,d)->dOk nt o.dst/\fB ops (es i) o=some (gs i)/\es (i+1)=put (es i) o.dst (vs i)/\hs (i+1)=bu (hs i) (ns i) (Es i)/\ns (i+1)=ns i+(Es i).length /\
  (gs i=true->QF P (es i) (gA (eY P e0 h0 n0 d) (hs i)) (ns i) o.op (vs i) (Es i)/\lH (eY P e0 h0 n0 d) (ns i) (Es i))/\(gs i=false->vs i=.tup []/\Es i=[])
theorem Gi{K:Env->ak->Nat->Prop}:∀(os:List (Oper×List HS))(e:Env)(h:ak)(n:Nat),iN P ops nt e0 h0 n0 os e h n K->∃T:TrQ P ops nt e0 h0 n0 os e h n,K (T.es os.length) (T.hs os.length) (T.ns os.length)
 |[],e,h,n,hk=>⟨⟨λ_=>e,λ_=>h,λ_=>n,λ_=>.tup [],λ_=>[],λ_=>true,rfl,rfl,rfl,λi o d hi=>by simp at hi⟩,hk⟩
 |(o,d)::os,e,h,n,hk=>by
  simp only[iN] at hk;split at hk
  .rename_i g hg;obtain⟨hd,h1,h2⟩:=hk
   have main:∀(v:AV)(E:List (List AV)),(g=true->QF P e (gA (eY P e0 h0 n0 d) h) n o.op v E/\lH (eY P e0 h0 n0 d) n E)->(g=false->v=.tup []/\E=[])->iN P ops nt e0 h0 n0 os (put e o.dst v) (bu h n E) (n+E.length) K ->
    ∃T:TrQ P ops nt e0 h0 n0 ((o,d)::os) e h n,K (T.es ((o,d)::os).length) (T.hs ((o,d)::os).length) (T.ns ((o,d)::os).length):=by
    intro v E q1 q2 hr;obtain⟨T,hK⟩:=Gi os _ _ _ hr
    refine⟨⟨λi=>match i with|0=>e|i+1=>T.es i,λi=>match i with|0=>h|i+1=>T.hs i,λi=>match i with|0=>n|i+1=>T.ns i,
     λi=>match i with|0=>v|i+1=>T.vs i,λi=>match i with|0=>E|i+1=>T.Es i,λi=>match i with|0=>g|i+1=>T.gs i,rfl,rfl,rfl,λi o' d' hi=>?_⟩,hK⟩
    cases i with
    |zero=>
     simp at hi;obtain⟨rfl,rfl⟩:=hi;exact⟨hd,hg,T.e0',T.hz,T.n0',q1,q2⟩
    |succ i=>exact T.step i o' d' (by simpa using hi)
   cases g with
   |true=>
    obtain⟨v,E,q,hn,hr⟩:=(h1 rfl).qf;exact main v E (λ_=>⟨q,hn⟩) nofun hr
   |false=>exact main (.tup []) [] nofun (λ_=>⟨rfl,rfl⟩) (h2 rfl)
  trivial
structure TrE(P:Program)(ops:Array Oper)(nt:Nat)(e0:Env)(h0:ak)(n0:Nat)(os:List (Oper×List HS))(e:Env)(h:ak)(n:Nat) where
 es:Nat->Env
 hs:Nat->ak
 ns:Nat->Nat
 vs:Nat->AV
 gs:Nat->Bool
 e0':es 0=e
 hz:hs 0=h
 n0':ns 0=n
 step:∀i o d,os[i]?=some (o,d)->dOk nt o.dst/\fB ops (es i) o=some (gs i)/\es (i+1)=put (es i) o.dst (vs i) /\
  (gs i=true->touch (es i) o.op (eY P e0 h0 n0 d)/\EF P (es i) (hs i) (ns i) o.op (vs i) (hs (i+1)) (ns (i+1)))/\(gs i=false->vs i=.tup []/\hs (i+1)=hs i/\ns (i+1)=ns i)
theorem Gj{K:Env->ak->Nat->Prop}:∀(os:List (Oper×List HS))(e:Env)(h:ak)(n:Nat),ky P ops nt e0 h0 n0 os e h n K->∃T:TrE P ops nt e0 h0 n0 os e h n,K (T.es os.length) (T.hs os.length) (T.ns os.length)
 |[],e,h,n,hk=>⟨⟨λ_=>e,λ_=>h,λ_=>n,λ_=>.tup [],λ_=>true,rfl,rfl,rfl,λi o d hi=>by simp at hi⟩,hk⟩
 |(o,d)::os,e,h,n,hk=>by
  simp only[ky] at hk;split at hk
  .rename_i g hg;obtain⟨hd,h1,h2⟩:=hk
   have main:∀(v:AV)(h':ak)(n':Nat),(g=true->touch e o.op (eY P e0 h0 n0 d)/\EF P e h n o.op v h' n')->(g=false->v=.tup []/\h'=h/\n'=n)->ky P ops nt e0 h0 n0 os (put e o.dst v) h' n' K ->
    ∃T:TrE P ops nt e0 h0 n0 ((o,d)::os) e h n,K (T.es ((o,d)::os).length) (T.hs ((o,d)::os).length) (T.ns ((o,d)::os).length):=by
    intro v h' n' q1 q2 hr;obtain⟨T,hK⟩:=Gj os _ _ _ hr
    refine⟨⟨λi=>match i with|0=>e|i+1=>T.es i,λi=>match i with|0=>h|i+1=>T.hs i,λi=>match i with|0=>n|i+1=>T.ns i,
     λi=>match i with|0=>v|i+1=>T.vs i,λi=>match i with|0=>g|i+1=>T.gs i,rfl,rfl,rfl,λi o' d' hi=>?_⟩,hK⟩
    cases i with
    |zero=>
     simp at hi;obtain⟨rfl,rfl⟩:=hi;refine⟨hd,hg,T.e0',λhg=>?_,λhg=>?_⟩
     .obtain⟨h3,h4⟩:=q1 hg;refine⟨h3,?_⟩;show EF P e h n o.op v (T.hs 0) (T.ns 0);rw[T.hz,T.n0'];exact h4
     .obtain⟨h3,h4,h5⟩:=q2 hg;exact⟨h3,T.hz.trans h4,T.n0'.trans h5⟩
    |succ i=>exact T.step i o' d' (by simpa using hi)
   cases g with
   |true=>
    obtain⟨ht,he⟩:=h1 rfl;obtain⟨v,h',n',q,hr⟩:=he.ef;exact main v h' n' (λ_=>⟨ht,q⟩) nofun hr
   |false=>exact main (.tup []) h n nofun (λ_=>⟨rfl,rfl,rfl⟩) (h2 rfl)
  trivial
section
variable{os:List (Oper×List HS)}{e:Env}{h:ak}{n:Nat}
theorem TrQ.je(T:TrQ P ops nt e0 h0 n0 os e h n){i j:Nat}(b':i<=j)(hj:j<=os.length):T.ns i<=T.ns j:=by
 induction j with
 |zero=>have:i=0:=by omega
        simp_all
 |succ j ih=>
  by_cases hi:i=j+1
  .simp_all
  .have:=ih (by omega) (by omega);have hs:=(T.step j os[j].1 os[j].2 (da (by omega))).2.2.2.2.1;omega
theorem TrQ.uo(T:TrQ P ops nt e0 h0 n0 os e h n){i j:Nat}(b':i<=j)(hj:j<=os.length){p:Nat×List AV}(hp:p∈T.hs i):p∈T.hs j:=by
 induction j with
 |zero=>have:i=0:=by omega
        simp_all
 |succ j ih=>
  by_cases hi:i=j+1
  .simp_all
  .have:=ih (by omega) (by omega);have hs:=(T.step j os[j].1 os[j].2 (da (by omega))).2.2.2.1;rw[hs];exact (jR (T.Es j) (T.hs j) (T.ns j) p.1 p.2).2 (.inl this)
omit [av] in
theorem tR(es:Nat->Env)(vs:Nat->AV)(b9:∀i o d,os[i]?=some (o,d)->es (i+1)=put (es i) o.dst (vs i))(i:Nat)(hi:i<=os.length)(t:Nat):(∃(j:Nat)(o:Oper)(d:List HS),j<i/\os[j]?=some (o,d)/\o.dst=some t/\get (es i) t=vs j)\/((∀(j:Nat)(o:Oper)(d:List HS),j<i->os[j]?=some (o,d)->o.dst≠some t)/\get (es i) t=get (es 0) t):=by
 induction i with
 |zero=>simp
 |succ i ih=>
  have cm:os[i]?=some os[i]:=da (by omega);have hs:=b9 i os[i].1 os[i].2 cm;rw[hs]
  cases hd:os[i].1.dst with
  |none=>
   simp only[put]
   grind
  |some d'=>
   simp only[put,get]
   grind
end
end
def rd(ops:Array Oper)(x t:Nat):Bool:=match ops[x]? with|some o=>(jd ops o).contains t|none=>false
def wr(ops:Array Oper)(x:Nat)(f:Nat->Bool):Bool:=match dp ops x with|some t=>f t|none=>true
def CI(ops:Array Oper)(qs ss:List Nat)(hh sp:List (List HS)):Bool:=
 ((List.range ops.size).all λi=>match ops[i]? with
   |some o=>o.after.toList.all λe=>!Region.binds .any e || decide (e.on<i)
   |none=>true) &&
 ((List.range ops.size).all λi=>qs.contains i || ss.contains i)&&((qs++ss).all λx=>decide (x<ops.size))&&decide ((qs++ss).Nodup)&&decide (hh.length=qs.length)&&decide (sp.length=ss.length) &&
 ((List.range qs.length).all λp=>(List.range qs.length).all λq=>wr ops (nth qs q) λt=>!rd ops (nth qs p) t || (decide (q<p)&&reach ops 6 (nth qs p) (nth qs q)) || decide (q=p) || (decide (p<q)&&reach ops 6 (nth qs q) (nth qs p))) &&
 ((List.range qs.length).all λp=>(List.range ss.length).all λj=>wr ops (nth ss j) λt=>!rd ops (nth qs p) t || reach ops 8 (nth ss j) (nth qs p)) &&
 ((List.range ss.length).all λj=>(List.range qs.length).all λp=>wr ops (nth qs p) λt=>!rd ops (nth ss j) t || reach ops 8 (nth ss j) (nth qs p)) &&
 ((List.range ops.size).all λi=>(List.range ops.size).all λj=>decide (i=j) || wr ops i λt=>decide (dp ops j≠some t)) &&
 ((List.range ss.length).all λj=>(List.range j).all λi=>reach ops 8 (nth ss j) (nth ss i)) &&
 ((List.range qs.length).all λp=>(List.range ss.length).all λj=>reach ops 8 (nth ss j) (nth qs p) || (nth sp j).all λs=>(nth hh p).contains s)
structure pE(ops:Array Oper)(qs ss:List Nat)(hh sp:List (List HS)):Prop where
 down:∀(i:Nat)(o:Oper),ops[i]?=some o->∀e∈o.after,Region.binds .any e=true->e.on<i
 all:∀i,i<ops.size->(∃p,p<qs.length/\nth qs p=i)\/(∃j,j<ss.length/\nth ss j=i)
 qlt:∀p,p<qs.length->nth qs p<ops.size
 slt:∀j,j<ss.length->nth ss j<ops.size
 Sc:∀p q,p<qs.length->q<qs.length->nth qs p=nth qs q->p=q
 Is:∀i j,i<ss.length->j<ss.length->nth ss i=nth ss j->i=j
 qne:∀p j,p<qs.length->j<ss.length->nth qs p≠nth ss j
 hl:hh.length=qs.length
 sl:sp.length=ss.length
 qq:∀p q t o,p<qs.length->q<qs.length->dp ops (nth qs q)=some t->ops[nth qs p]?=some o->t∈jd ops o->(q<p/\reach ops 6 (nth qs p) (nth qs q)=true)\/q=p\/(p<q/\reach ops 6 (nth qs q) (nth qs p)=true)
 sq:∀p j t o,p<qs.length->j<ss.length->dp ops (nth ss j)=some t->ops[nth qs p]?=some o->t∈jd ops o->reach ops 8 (nth ss j) (nth qs p)=true
 qs':∀p j t o,p<qs.length->j<ss.length->dp ops (nth qs p)=some t->ops[nth ss j]?=some o->t∈jd ops o->reach ops 8 (nth ss j) (nth qs p)=true
 once:∀i j t,i<ops.size->j<ops.size->i≠j->dp ops i=some t->dp ops j≠some t
 chain:∀i j,j<ss.length->i<j->reach ops 8 (nth ss j) (nth ss i)=true
 hidden:∀p j,p<qs.length->j<ss.length->reach ops 8 (nth ss j) (nth qs p)=true\/∀s∈nth sp j,s∈nth hh p
section
omit [av]
theorem eJ{α:Type}[Inhabited α]{l:List α}{i:Nat}(h:i<l.length):nth l i∈l:=by
 simp[nth,bS,da h]
theorem Gk{α:Type}[Inhabited α]{l:List α}{i:Nat}(h:i<l.length):l[i]?=some (nth l i):=by
 simp[nth,bS,da h]
theorem Gl{α:Type}[Inhabited α]{l:List α}{x:α}(h:x∈l):∃i,i<l.length/\nth l i=x:=by
 obtain⟨i,hi,rfl⟩:=lN h;exact⟨i,hi,by simp[nth,bS,da hi]⟩
theorem N4{ops:Array Oper}{qs ss:List Nat}{hh sp:List (List HS)}(h:CI ops qs ss hh sp=true):pE ops qs ss hh sp:=by
 simp only[CI,bU,decide_eq_true_eq,eh,gl,mW,List.contains_iff_mem] at h;obtain⟨⟨⟨⟨⟨⟨⟨⟨⟨⟨⟨h1,h2⟩,h3⟩,h4⟩,h5⟩,h6⟩,h7⟩,h8⟩,h9⟩,c8⟩,c9⟩,cz⟩:=h;have bp:=List.nodup_append.1 h4
 have dL:∀{l:List Nat},l.Nodup->∀p q,p<l.length->q<l.length->nth l p=nth l q->p=q:=by
  intro l hl p q hp hq he;have h1:=Gk hp;have h2:=Gk hq;rw[he] at h1;rw[da hp] at h1;rw[da hq] at h2;have h3:l[p]=l[q]:=(eu h1).trans (eu h2).symm;have h4:=sN.1 hl
  rcases sT p q with h|h|h
  .exact absurd h3 (h4 p q hp hq h)
  .exact h
  .exact absurd h3.symm (h4 q p hq hp h)
 have c3:∀x t o,ops[x]?=some o->t∈jd ops o->rd ops x t=true:=by
  intro x t o ho ht;simp only[rd,ho,List.contains_iff_mem];exact ht
 have bg:∀x t f,dp ops x=some t->wr ops x f=true->f t=true:=by
  intro x t f hd hw;simpa only[wr,hd] using hw
 refine⟨λi o ho e hin hb=>?_,λi hi=>?_,λp hp=>?_,λj hj=>?_,dL bp.1,dL bp.2.1,λp j hp hj=>?_,h5,h6,λp q t o hp hq hd ho ht=>?_,λp j t o hp hj hd ho ht=>?_,λp j t o hp hj hd ho ht=>?_,λi j t hi hj ag hd=>?_,λi j hj hi=>?_,λp j hp hj=>?_⟩
 .have co:=(bD.1 ho).1;have:=h1 i co;simp only[ho,eh] at this;have:=this e (qV.2 hin);simpa[hb] using this
 .rcases h2 i hi with h|h
  .exact .inl (Gl h)
  .exact .inr (Gl h)
 .exact h3 _ (iR.2 (.inl (eJ hp)))
 .exact h3 _ (iR.2 (.inr (eJ hj)))
 .exact bp.2.2 _ (eJ hp) _ (eJ hj)
 .have:=bg _ _ _ hd (h7 p hp q hq);rw[c3 _ _ _ ho ht] at this;simp only[fJ,ik,mW,bU,decide_eq_true_eq] at this
  rcases this with (h|h)|h
  .exact .inl h
  .exact .inr (.inl h)
  .exact .inr (.inr h)
 .have:=bg _ _ _ hd (h8 p hp j hj);rw[c3 _ _ _ ho ht] at this;simpa using this
 .have:=bg _ _ _ hd (h9 j hj p hp);rw[c3 _ _ _ ho ht] at this;simpa using this
 .rcases c8 i hi j hj with h|h
  .exact absurd h ag
  .simpa using bg _ _ _ hd h
 .exact c9 j hj i hi
 simp_all
end
section
variable{P:Program}{ops:Array Oper}{nt:Nat}{qs ss:List Nat}{hh sp:List (List HS)}{e:Env}{h:ak}{n:Nat}
def pF:List Oper->Nat->Oper
 |[],_=>⟨none,.move (.func 0),0, "",#[],none⟩
 |o::_,0=>o
 |_::r,k+1=>pF r k
def xI(ops:Array Oper)(i:Nat):Oper:=pF ops.toList i
def opL(ops:Array Oper):List Nat->List (List HS)->List (Oper×List HS)
 |i::l,d::ds=>(xI ops i,d)::opL ops l ds
 |_,_=>[]
section
omit [av]
theorem Gm:∀(l:List Oper)(i:Nat)(o:Oper),l[i]?=some o->pF l i=o
 |[],i,o,h=>by simp at h
 |x::r,0,o,h=>by simpa[pF] using h
 |x::r,i+1,o,h=>Gm r i o (by simpa using h)
theorem iW:∀{l:List Nat}{d:List (List HS)},d.length=l.length->(opL ops l d).length=l.length
 |[],[],_=>rfl
 |i::l,d::ds,h=>by simp[opL,iW (l:=l) (d:=ds) (by simpa using h)]
 |[],_::_,h=>by simp at h
 |_::_,[],h=>by simp at h
theorem ir:∀{l:List Nat}{d:List (List HS)},d.length=l.length->∀{i:Nat}{o:Oper},i<l.length->ops[nth l i]?=some o->(opL ops l d)[i]?=some (o,nth d i)
 |[],_,_,i,o,hi,_=>by simp at hi
 |_::_,[],h,_,_,_,_=>by simp at h
 |x::l,d::ds,h,0,o,hi,ho=>by
  simp only[opL,xV,Gc] at ho ⊢;rw[show xI ops x=o from Gm _ _ _ (by rw[iQ];exact ho)]
 |x::l,d::ds,h,i+1,o,hi,ho=>by
  simp only[opL,uK,Bg] at ho ⊢;exact ir (by simpa using h) (by grind) ho
end
structure fT(P:Program)(ops:Array Oper)(nt:Nat)(qs ss:List Nat)(hh sp:List (List HS))(e:Env)(h:ak)(n:Nat)(T:TrQ P ops nt e h n (opL ops qs hh) e h n)
 (E:TrE P ops nt e h n (opL ops ss sp) (T.es qs.length) (T.hs qs.length) (T.ns qs.length)) (B:Base) (w0:Ctx fk) (listed:Array Bool) (j:Nat) (a:Act) (w:World) (m:Mm):Prop where
 base:B.n=w0.w.heap.size
 below:Bel B.n w0.w w
 defers:a.defers=marks w0.ds
 size:a.tmps.size=nt
 heap:bt B (E.hs j) m w
 ids:∀id c,(id,c)∈E.hs j->id<E.ns j
 mono:T.ns qs.length<=E.ns j
 dom:∀id,m.dom id↔id<n\/(∃p,p<qs.length/\listed.getD (nth qs p) false=true/\T.ns p<=id/\id<T.ns p+(T.Es p).length)\/(T.ns qs.length<=id/\id<E.ns j)
 done:∀p t,p<qs.length->listed.getD (nth qs p) false=true->dp ops (nth qs p)=some t->aA B (LB m (E.hs j)) m w (T.vs p) (a.tmps.getD t undef)
 uC:∀i t,i<j->dp ops (nth ss i)=some t->aA B (LB m (E.hs j)) m w (E.vs i) (a.tmps.getD t undef)
 old:∀t,(∀p,p<qs.length->listed.getD (nth qs p) false=true->dp ops (nth qs p)≠some t)->(∀i,i<j->dp ops (nth ss i)≠some t)->aA B (LB m (E.hs j)) m w (get e t) (a.tmps.getD t undef)
 lst:∀i,i<ss.length->(listed.getD (nth ss i) false=true↔i<j)
 jl:j<=ss.length
 fr:pb B w0 (LB m (E.hs j)) m w n
variable{T:TrQ P ops nt e h n (opL ops qs hh) e h n}{E:TrE P ops nt e h n (opL ops ss sp) (T.es qs.length) (T.hs qs.length) (T.ns qs.length)}{B:Base}{w0:Ctx fk}{listed:Array Bool}{j:Nat}{a:Act}{w:World}{m:Mm}
theorem fT.bel{w':World}(hp:fT P ops nt qs ss hh sp e h n T E B w0 listed j a w m)(hb:Bel w.heap.size w w'):fT P ops nt qs ss hh sp e h n T E B w0 listed j a w' m:=by
 have hr:B.n<=w.heap.size:=by have:=hp.below.size;have:=hp.base;omega
 have hm:∀x v,aA B (LB m (E.hs j)) m w x v->aA B (LB m (E.hs j)) m w' x v:=λx v h=>h.mono (Mm.le.refl m) (λ_ _ x=>x) (λb hl _=>hb.block b hl)
 exact⟨hp.base,hp.below.trans (hb.mono hr),hp.defers,hp.size,hp.heap.below hb,hp.ids,hp.mono,hp.dom,λp t hi hl hd=>hm _ _ (hp.done p t hi hl hd),λi t hi hd=>hm _ _ (hp.uC i t hi hd),λt h1 h2=>hm _ _ (hp.old t h1 h2),hp.lst,hp.jl,
  hp.fr.mono (Mm.le.refl m) (λ_ _ x=>x) (λb hl _=>hb.block b hl) (aE _)⟩
section
omit [av]
theorem Bi(a6:Closed ops listed){f i k:Nat}(hi:i<ops.size)(hl:listed.getD i false=true)(hr:reach ops f i k=true):listed.getD k false=true:=
 lT a6 f i k ops[i] (cJ hi) (λe hin hb=>a6 i _ (cJ hi) hl e hin hb) hr
theorem jU{x:Nat}{o:Oper}(ho:ops[x]?=some o):dp ops x=o.dst:=by simp[dp,ho]
theorem tT{l:List Nat}{d:List (List HS)}(hl:d.length=l.length)(hb:∀i,i<l.length->nth l i<ops.size){i:Nat}{o:Oper}{x:List HS}(ho:(opL ops l d)[i]?=some (o,x)):i<l.length/\ops[nth l i]?=some o/\x=nth d i:=by
 have hi:i<l.length:=by have:=(dM.1 ho).1;rwa [iW hl] at this
 have h1:=ir (d:=d) hl hi (cJ (hb i hi));rw[h1] at ho;simp_all
end
theorem fT.It(hp:fT P ops nt qs ss hh sp e h n T E B w0 listed j a w m)(hc:pE ops qs ss hh sp)(a6:Closed ops listed){p:Nat}{o:Oper}(a7:p<qs.length)(ho:ops[nth qs p]?=some o)(bd:listed.getD (nth qs p) false=false)(he:∀e∈o.after,Region.binds .any e=true->listed.getD e.on false=true){t:Nat}(ht:t∈jd ops o):aA B (LB m (E.hs j)) m w (get (T.es p) t) (a.tmps.getD t undef):=by
 rcases tR T.es T.vs (λi o d hi=>(T.step i o d hi).2.2.1) p (by rw[iW hc.hl];omega) t with ⟨q,oq,d,h1,h2,h3,h4⟩|⟨h1,h2⟩
 .obtain⟨hq,a8,_⟩:=tT hc.hl hc.qlt h2
  have hd:dp ops (nth qs q)=some t:=by rw[jU a8];exact h3
  rw[h4]
  rcases hc.qq p q t o a7 hq hd ho ht with ⟨_,h⟩|h|⟨h,_⟩
  .exact hp.done q t hq (lT a6 6 _ _ o ho he h) hd
  .omega
  .omega
 .rw[h2,T.e0'];refine hp.old t (λq hq hl hd=>?_) (λi hi hd=>?_)
  .rcases hc.qq p q t o a7 hq hd ho ht with ⟨h,_⟩|h|⟨_,h⟩
   .have a8:=cJ (hc.qlt q hq);exact h1 q _ _ h (ir hc.hl hq a8) (by rw[<-jU a8];exact hd)
   .simp_all
   .have:=Bi a6 (hc.qlt q hq) hl h;rw[bd] at this;cases this
  .have a5:i<ss.length:=kD hi hp.jl;have:=Bi a6 (hc.slt i a5) ((hp.lst i a5).2 hi) (hc.sq p i t o a7 a5 hd ho ht);rw[bd] at this;cases this
theorem fT.Iu(hp:fT P ops nt qs ss hh sp e h n T E B w0 listed j a w m)(hc:pE ops qs ss hh sp)(a6:Closed ops listed){o:Oper}(aw:j<ss.length)(ho:ops[nth ss j]?=some o)(he:∀e∈o.after,Region.binds .any e=true->listed.getD e.on false=true){t:Nat}(ht:t∈jd ops o):aA B (LB m (E.hs j)) m w (get (E.es j) t) (a.tmps.getD t undef):=by
 rcases tR E.es E.vs (λi o d hi=>(E.step i o d hi).2.2.1) j (by rw[iW hc.sl];omega) t with ⟨q,oq,d,h1,h2,h3,h4⟩|⟨h1,h2⟩
 .obtain⟨hq,a8,_⟩:=tT hc.sl hc.slt h2;rw[h4];exact hp.uC q t h1 (by rw[jU a8];exact h3)
 .rw[h2,E.e0']
  have ao:∀i,i<j->dp ops (nth ss i)≠some t:=λi hi hd=>by
   have a5:i<ss.length:=kD hi hp.jl;have al:=cJ (hc.slt i a5);exact h1 i _ _ hi (ir hc.sl a5 al) (by rw[<-jU al];exact hd)
  rcases tR T.es T.vs (λi o d hi=>(T.step i o d hi).2.2.1) qs.length (by rw[iW hc.hl];omega) t with ⟨q,oq,d,h1,h2,h3,h4⟩|⟨h1,h2⟩
  .obtain⟨hq,a8,_⟩:=tT hc.hl hc.qlt h2
   have hd:dp ops (nth qs q)=some t:=by rw[jU a8];exact h3
   rw[h4];exact hp.done q t hq (lT a6 8 _ _ o ho he (hc.qs' q j t o hq aw hd ho ht)) hd
  .rw[h2,T.e0'];refine hp.old t (λq hq hl hd=>?_) ao;have a8:=cJ (hc.qlt q hq);exact h1 q _ _ hq (ir hc.hl hq a8) (by rw[<-jU a8];exact hd)
theorem fT.frame(hp:fT P ops nt qs ss hh sp e h n T E B w0 listed j a w m)(hc:pE ops qs ss hh sp){id:Nat}{c:List AV}(hin:(id,c)∈T.hs qs.length):∀i,i<=j->(∀k,k<i->¬id∈eY P e h n (nth sp k))->(id,c)∈E.hs i
 |0,_,_=>by rw[E.hz];exact hin
 |i+1,hi,ao=>by
  have h1:=fT.frame hp hc hin i (by omega) (λk hk=>ao k (by omega));have a5:i<ss.length:=kD (by omega) hp.jl;have al:=cJ (hc.slt i a5);obtain⟨_,_,_,h2,h3⟩:=E.step i _ _ (ir hc.sl a5 al)
  cases hg:E.gs i with
  |true=>exact (h2 hg).2.keep (h2 hg).1 h1 (ao i (by omega))
  |false=>rw[(h3 hg).2.1];exact h1
theorem fT.Iv(hp:fT P ops nt qs ss hh sp e h n T E B w0 listed j a w m)(hc:pE ops qs ss hh sp)(a6:Closed ops listed){p:Nat}(a7:p<qs.length)(bd:listed.getD (nth qs p) false=false){id:Nat}(ao:¬id∈eY P e h n (nth hh p)):∀k,k<j->¬id∈eY P e h n (nth sp k):=by
 intro k hk hin;have bl:k<ss.length:=kD hk hp.jl
 rcases hc.hidden p k a7 bl with h|h
 .have:=Bi a6 (hc.slt k bl) ((hp.lst k bl).2 hk) h;rw[bd] at this;cases this
 .obtain⟨s,hs,hin⟩:=sU.1 hin;exact ao (sU.2 ⟨s,h s hs,hin⟩)
omit [av] in
theorem Gn{i k:Nat}(hi:i<listed.size):(listed.setIfInBounds i true).getD k false=if i=k then true else listed.getD k false:=by
 split<;>simp_all
theorem fT.Sd(hp:fT P ops nt qs ss hh sp e h n T E B w0 listed j a w m)(hc:pE ops qs ss hh sp){p:Nat}{o:Oper}(a7:p<qs.length)(ho:ops[nth qs p]?=some o)(hf:listed[nth qs p]?=some false){v':Value}{w':World}{m':Mm}(au:dOk nt o.dst)(bb:iw B (E.hs j) m w (T.ns p) (T.Es p).length (T.vs p) v' w' m'):fT P ops nt qs ss hh sp e h n T E B w0 (listed.setIfInBounds (nth qs p) true) j (a.put o.dst v') w' m':=by
 obtain⟨p1,p2,p3,p4,p5,p6⟩:=bb
 have hB:B.n<=w.heap.size:=by have:=hp.below.size;have:=hp.base;omega
 have hO:av.ok w:=av.keep w0.ok (by have:=hp.below;rw[hp.base] at this;exact this)
 have a4:∀p v,aA B (LB m (E.hs j)) m w p v->aA B (LB m' (E.hs j)) m' w' p v:=λp v hr=>hr.mono p1 (λb hb hn hl=>by
  grind) (λb hb _=>p3.block b hb)
 have aj:=(bD.1 hf).1;have aq:dp ops (nth qs p)=o.dst:=jU ho
 have az:dOk a.tmps.size o.dst:=by rw[hp.size];exact au
 have b6:listed.getD (nth qs p) false=false:=by rw[ck,hf];rfl
 have bP:∀k,(listed.setIfInBounds (nth qs p) true).getD k false=if nth qs p=k then true else listed.getD k false:=λk=>Gn aj
 have cv:∀q,q<qs.length->(nth qs p=nth qs q↔q=p):=λq hq=>⟨λh=>(hc.Sc p q a7 hq h).symm,λh=>by rw[h]⟩
 refine⟨hp.base,hp.below.trans (p3.mono hB),by rw[jQ];exact hp.defers,by rw[jP];exact hp.size,p4,hp.ids,hp.mono,λid=>?_,λq t hq hl hd=>?_,λi t hi hd=>?_,λt hq hi=>?_,λi hi=>?_,hp.jl,hp.fr.mono p1 (λb hb hn hl=>by
  grind) (λb hb _=>p3.block b hb) (aE _)⟩
 .rw[p2,hp.dom]
  grind
 .rw[oF az];by_cases cu:q=p
  .simp_all
  .have ag:nth qs p≠nth qs q:=λh=>cu ((cv q hq).1 h)
   rw[bP,ar ag] at hl
   have:o.dst≠some t:=λax=>hc.once _ _ t (hc.qlt p a7) (hc.qlt q hq) ag (by rw[aq];exact ax) hd
   rw[ar this];exact a4 _ _ (hp.done q t hq hl hd)
 .rw[oF az];have a5:i<ss.length:=kD hi hp.jl
  have:o.dst≠some t:=λax=>hc.once _ _ t (hc.qlt p a7) (hc.slt i a5) (hc.qne p i a7 a5) (by rw[aq];exact ax) hd
  rw[ar this];exact a4 _ _ (hp.uC i t hi hd)
 .rw[oF az];have h1:=hq p a7 (by rw[bP,aB rfl]);rw[aq] at h1;rw[ar h1];refine a4 _ _ (hp.old t (λq b7 hl=>hq q b7 ?_) hi)
  rw[bP];split<;>simp_all
 .rw[bP,ar (hc.qne p i a7 hi)];exact hp.lst i hi
theorem fT.Se(hp:fT P ops nt qs ss hh sp e h n T E B w0 listed j a w m)(hc:pE ops qs ss hh sp){o:Oper}(aw:j<ss.length)(ho:ops[nth ss j]?=some o)(hf:listed[nth ss j]?=some false){v':Value}{w':World}{m':Mm}(au:dOk nt o.dst)(bk:∀id c,(id,c)∈E.hs (j+1)->id<E.ns (j+1))(bo:E.ns j<=E.ns (j+1))(bb:EPost B (E.hs j) m w (E.ns j) (E.hs (j+1)) (E.ns (j+1)) (E.vs j) v' w' m'):fT P ops nt qs ss hh sp e h n T E B w0 (listed.setIfInBounds (nth ss j) true) (j+1) (a.put o.dst v') w' m':=by
 obtain⟨p1,p2,p3,p4,p5,p6,p7⟩:=bb
 have a4:∀p v,aA B (LB m (E.hs j)) m w p v->aA B (LB m' (E.hs (j+1))) m' w' p v:=λp v hr=>hr.mono p1 p5 p6
 have aj:=(bD.1 hf).1;have aq:dp ops (nth ss j)=o.dst:=jU ho
 have az:dOk a.tmps.size o.dst:=by rw[hp.size];exact au
 have bP:∀k,(listed.setIfInBounds (nth ss j) true).getD k false=if nth ss j=k then true else listed.getD k false:=λk=>Gn aj
 have c2:∀q,q<qs.length->nth ss j≠nth qs q:=λq hq h=>hc.qne q j hq aw h.symm
 refine⟨hp.base,hp.below.trans p3,by rw[jQ];exact hp.defers,by rw[jP];exact hp.size,p4,bk,bN hp.mono bo,λid=>?_,λq t hq hl hd=>?_,λi t hi hd=>?_,λt hq hi=>?_,λi hi=>?_,by omega,hp.fr.mono p1 p5 p6 (aE _)⟩
 .rw[p2,hp.dom];have d5:=hp.mono
  grind
 .rw[oF az];rw[bP,ar (c2 q hq)] at hl
  have:o.dst≠some t:=λax=>hc.once _ _ t (hc.slt j aw) (hc.qlt q hq) (c2 q hq) (by rw[aq];exact ax) hd
  rw[ar this];exact a4 _ _ (hp.done q t hq hl hd)
 .rw[oF az];by_cases b':i=j
  .simp_all
  .have a5:i<ss.length:=by omega
   have ag:nth ss j≠nth ss i:=λh=>b' (hc.Is j i aw a5 h).symm
   have:o.dst≠some t:=λax=>hc.once _ _ t (hc.slt j aw) (hc.slt i a5) ag (by rw[aq];exact ax) hd
   rw[ar this];exact a4 _ _ (hp.uC i t (by omega) hd)
 .rw[oF az];have h1:=hi j (by omega);rw[aq] at h1;rw[ar h1];exact a4 _ _ (hp.old t (λq b7 hl=>hq q b7 (by rw[bP,ar (c2 q b7)];exact hl)) (λi d2=>hi i (by omega)))
 .rw[bP];split
  .rename_i heq;have:=hc.Is j i aw hi heq;simp;omega
  .rename_i ag;rw[hp.lst i hi]
   have:i≠j:=by grind
   omega
theorem N5(hc:pE ops qs ss hh sp){K:Exit->St->Prop}(hK:K .normal ⟨E.es ss.length,E.hs ss.length,E.ns ss.length,nt⟩):∀(f:Nat)(listed:Array Bool)(j:Nat)(a:Act)(w:World)(m:Mm),listed.size=ops.size->Closed ops listed->open_ listed<=f->fT P ops nt qs ss hh sp e h n T E B w0 listed j a w m->iZ w0.r P .any ops (λe a w=>∃st' m',K e st'/\Sim B w0 st' a w m') f listed a w:=by
 have last:∀(listed:Array Bool)(j:Nat)(a:Act)(w:World)(m:Mm),(∀i,i<ops.size->listed.getD i false=true)->fT P ops nt qs ss hh sp e h n T E B w0 listed j a w m->∃st' m',K .normal st'/\Sim B w0 st' a w m':=by
  intro listed j a w m a' hp
  have hj:j=ss.length:=by
   have:=hp.jl
   rcases dF j ss.length with h1|h1
   .have:=(hp.lst j h1).1 (a' _ (hc.slt j h1));omega
   .omega
  subst hj;refine⟨_,m,hK,hp.base,hp.below,hp.defers,hp.size,λt=>?_,hp.heap,λid=>?_,hp.ids,hp.fr.mono (Mm.le.refl m) (λ_ _ h=>h) (λ_ _ _=>rfl) (by have h1:=T.je (i:=0) (j:=qs.length) (by omega) (by rw[iW hc.hl];omega);rw[T.n0'] at h1;exact bN h1 hp.mono)⟩
  .show aA _ _ _ _ (get (E.es ss.length) t) _
   rcases tR E.es E.vs (λi o d hi=>(E.step i o d hi).2.2.1) ss.length (by rw[iW hc.sl];omega) t with ⟨q,oq,d,h1,h2,h3,h4⟩|⟨h1,h2⟩
   .obtain⟨hq,a8,_⟩:=tT hc.sl hc.slt h2;rw[h4];exact hp.uC q t h1 (by rw[jU a8];exact h3)
   .rw[h2,E.e0']
    have ao:∀i,i<ss.length->dp ops (nth ss i)≠some t:=λi hi hd=>by
     have al:=cJ (hc.slt i hi);exact h1 i _ _ hi (ir hc.sl hi al) (by rw[<-jU al];exact hd)
    rcases tR T.es T.vs (λi o d hi=>(T.step i o d hi).2.2.1) qs.length (by rw[iW hc.hl];omega) t with ⟨q,oq,d,h1,h2,h3,h4⟩|⟨h1,h2⟩
    .obtain⟨hq,a8,_⟩:=tT hc.hl hc.qlt h2;rw[h4];exact hp.done q t hq (a' _ (hc.qlt q hq)) (by rw[jU a8];exact h3)
    .rw[h2,T.e0'];refine hp.old t (λq hq hl hd=>?_) ao;have a8:=cJ (hc.qlt q hq);exact h1 q _ _ hq (ir hc.hl hq a8) (by rw[<-jU a8];exact hd)
  .rw[hp.dom];show _↔id<E.ns ss.length
   have b4:∀i,i<=qs.length->(id<T.ns i↔id<n\/∃j,j<i/\T.ns j<=id/\id<T.ns j+(T.Es j).length):=by
    intro i
    induction i with
    |zero=>intro _;rw[T.n0'];simp
    |succ i ih=>
     intro hi;have al:=cJ (hc.qlt i (by omega));have b9:=(T.step i _ _ (ir hc.hl (by omega) al)).2.2.2.2.1;rw[b9]
     grind
   have h1:=b4 qs.length (aE _);have h2:=hp.mono;constructor
   .grind
   .intro h3
    rcases dF id (T.ns qs.length) with h4|h4
    .rcases h1.1 h4 with h5|⟨p,h5,h6⟩
     .exact .inl h5
     .exact .inr (.inl ⟨p,h5,a' _ (hc.qlt p h5),h6⟩)
    omega
 have noready:∀(listed:Array Bool),listed.size=ops.size->(∀i,i<ops.size->listed.getD i false=true)->Region.ready .any ops listed=[]:=by
  intro listed aj a'
  cases hr:Region.ready .any ops listed with
  |nil=>rfl
  |cons x xs=>
   obtain⟨o,ho,hf,_⟩:=nh aj (i:=x) (by rw[hr];simp);have:=a' x (bD.1 ho).1;rw[ck,hf] at this;cases this
 intro f
 induction f with
 |zero=>
  intro listed j a w m aj a6 c4 hp
  have a':∀i,i<ops.size->listed.getD i false=true:=λi hi=>qb (x9.1 c4) (by omega)
  exact⟨noready listed aj a',last listed j a w m a' hp⟩
 |succ f ih=>
  intro listed j a w m aj a6 c4 hp;refine⟨λbq=>?_,λx hx=>?_⟩
  .refine last listed j a w m (λi hi=>?_) hp
   cases hq:listed.getD i false with
   |true=>rfl
   |false=>exact absurd bq (qY aj hc.down i hi hq)
  .obtain⟨o,ho,hf,he⟩:=nh aj hx;have cx:=(bD.1 ho).1
   have b6:listed.getD x false=false:=by rw[ck,hf];rfl
   unfold jW;rw[ho];intro w e1;replace hp:=hp.bel (EnvD.ext e1)
   have hB:B.n<=w.heap.size:=by have:=hp.below.size;have:=hp.base;omega
   have hO:av.ok w:=av.keep w0.ok (by have:=hp.below;rw[hp.base] at this;exact this)
   have bh:open_ (listed.setIfInBounds x true)<=f:=by have:=p9 hf;omega
   rcases hc.all x cx with ⟨p,a7,rfl⟩|⟨i,a5,rfl⟩
   .obtain⟨au,hw,_,_,_,bc,bv⟩:=T.step p o _ (ir hc.hl a7 ho)
    have af:∀v' w' m',iw B (E.hs j) m w (T.ns p) (T.Es p).length (T.vs p) v' w' m'->iZ w0.r P .any ops (λe a w=>∃st' m',K e st'/\Sim B w0 st' a w m') f (listed.setIfInBounds (nth qs p) true) (a.put o.dst v') w':=by
     intro v' w' m' ae;exact ih _ j _ w' m' (by grind) (a6.set ho he) bh (hp.Sd hc a7 ho hf au ae)
    have hlen:=iW (ops:=ops) hc.hl;simp only[zw hw (λt ht=>hp.It hc a6 a7 ho b6 he ht)]
    cases hg:T.gs p with
    |true=>
     simp only[aX];obtain⟨c5,cq⟩:=bc hg;refine jo (Hy c5) (c5.sound o hO hp.heap hB (λid cs hl=>?_) (λq cs hl=>?_) (λq hq hd=>?_) (λy hy=>?_) _ _ (λv' w' m' ae=>af v' w' m' ae))
     .obtain⟨h1,h2⟩:=Bh hl;exact hp.frame hc (T.uo (i:=p) (by omega) (by omega) h1) j (aE _) (hp.Iv hc a6 a7 b6 h2)
     .have b7:=(dM.1 hl).1;refine hp.frame hc (T.uo (i:=p+1) (by omega) (by omega) ?_) j (aE _) (hp.Iv hc a6 a7 b6 (Gh cq b7));rw[(T.step p o _ (ir hc.hl a7 ho)).2.2.2.1];exact (jR _ _ _ _ _).2 (.inr ⟨q,hl,rfl⟩)
     .have d7:n<=T.ns p:=by have:=T.je (i:=0) (j:=p) (by omega) (by omega);rw[T.n0'] at this;exact this
      have d8:=(T.step p o _ (ir hc.hl a7 ho)).2.2.2.2.1;have cp:=T.je (i:=p+1) (j:=qs.length) (by omega) (by omega)
      rcases (hp.dom _).1 hd with h1|⟨k,hk,hl,h2,h3⟩|h1
      .omega
      .have d4:k≠p:=by
        grind
       have cw:=(T.step k _ _ (ir hc.hl hk (cJ (hc.qlt k hk)))).2.2.2.2.1
       rcases dF k p with h4|h4
       .have:=T.je (i:=k+1) (j:=p) (by omega) (by omega);omega
       .have:=T.je (i:=p+1) (j:=k) (by omega) (by omega);omega
      .omega
     .refine lQ y (λt e=>?_);subst e;exact hp.It hc a6 a7 ho b6 he (zv hy)
    |false=>
     simp only[bI,a9];obtain⟨h1,h2⟩:=bv hg;refine af undef w m ?_;rw[h1,h2];exact⟨Mm.le.refl m,λi=>⟨.inl,λh=>h.elim id λh=>by grind⟩,Bel.refl _ _,hp.heap,λb hb=>.inl hb,.tup rfl (λj p v hp=>by simp at hp)⟩
   .have b':i=j:=by
     have h1:¬i<j:=λh=>by
      have:=(hp.lst i a5).2 h;rw[b6] at this;cases this
     rcases dF j i with h2|h2
     .have h3:=lT a6 8 _ _ o ho he (hc.chain j i a5 h2);have:=(hp.lst j (by omega)).1 h3;omega
     .omega
    subst b';obtain⟨au,hw,_,bc,bv⟩:=E.step i o _ (ir hc.sl a5 ho)
    have af:∀v' w' m',(∀id c,(id,c)∈E.hs (i+1)->id<E.ns (i+1))->E.ns i<=E.ns (i+1)->EPost B (E.hs i) m w (E.ns i) (E.hs (i+1)) (E.ns (i+1)) (E.vs i) v' w' m'->iZ w0.r P .any ops (λe a w=>∃st' m',K e st'/\Sim B w0 st' a w m') f (listed.setIfInBounds (nth ss i) true) (a.put o.dst v') w':=by
     intro v' w' m' h1 h2 ae;exact ih _ (i+1) _ w' m' (by grind) (a6.set ho he) bh (hp.Se hc a5 ho hf au h1 h2 ae)
    simp only[zw hw (λt ht=>hp.Iu hc a6 a5 ho he ht)]
    cases hg:E.gs i with
    |true=>
     simp only[aX];refine jo (vD (bc hg).2) (Ek o (bc hg).2 hO hp.heap hB (λk hk hd=>?_) hp.ids (λy hy=>?_) _ _ (λv v' h' n' w' m' d3 bb hn hh=>?_))
     .have cp:=hp.mono
      have d6:n<=T.ns qs.length:=by have:=T.je (i:=0) (j:=qs.length) (by omega) (by rw[iW hc.hl];omega);rw[T.n0'] at this;exact this
      rcases (hp.dom _).1 hd with h1|⟨q,hq,hl,h2,h3⟩|h1
      .omega
      .have cw:=(T.step q _ _ (ir hc.hl hq (cJ (hc.qlt q hq)))).2.2.2.2.1;have:=T.je (i:=q+1) (j:=qs.length) (by omega) (by rw[iW hc.hl];omega);omega
      .omega
     .refine lQ y (λt e=>?_);subst e;exact hp.Iu hc a6 a5 ho he (zv hy)
     grind
    |false=>
     simp only[bI,a9];obtain⟨h1,h2,h3⟩:=bv hg;refine af undef w m (by rw[h2,h3];exact hp.ids) (by rw[h3];simp) ?_;rw[h1,h2,h3];exact⟨Mm.le.refl m,lS,Bel.refl _ _,hp.heap,λb _ h=>h,λb _ _=>rfl,.tup rfl (λj p v hp=>by simp at hp)⟩
theorem iX{K:Exit->St->Prop}(qs ss:List Nat)(hh sp:List (List HS)){id:Nat}(hm:P.follows .mixedOrders=true)(bj:CI ops qs ss hh sp=true)(hk:iN P ops nt e h n (opL ops qs hh) e h n λe' h' n'=>ky P ops nt e h n (opL ops ss sp) e' h' n' λc6 c7 cy=>K .normal ⟨c6,c7,cy,nt⟩):bm fk P (.region id ops true) ⟨e,h,n,nt⟩ K:=by
 intro B w0 a w m hs;have hc:=N4 bj;obtain⟨T,hK⟩:=Gi _ _ _ _ hk;rw[iW hc.hl] at hK;obtain⟨E,hK⟩:=Gj _ _ _ _ hK;rw[iW hc.sl] at hK
 refine yJ hm λw e1=>?_
 replace hs:=hs.move e1
 have ai:Sim B w0 ⟨e,h,n,nt⟩ a { w with drawn:=w.drawn+1 } m:=by
  have hb:Bel w.heap.size w { w with drawn:=w.drawn+1 }:=(Bel.refl _ _).drew;have hB:=hs.room;exact⟨hs.base,hs.below.trans (hb.mono hB),hs.defers,hs.size,λt=>(hs.env t).mono (Mm.le.refl m) (λ_ _ h=>h) (λb bi _=>hb.block b bi),hs.heap.below hb,hs.dom,hs.ids,hs.fr.mono (Mm.le.refl m) (λ_ _ h=>h) (λb bi _=>hb.block b bi) (aE _)⟩
 have ay:∀i,i<=qs.length->bt B (T.hs i) m { w with drawn:=w.drawn+1 }/\LB m (T.hs i)=LB m h/\(∀id c,(id,c)∈T.hs i->id<T.ns i):=by
  intro i
  induction i with
  |zero=>intro _;rw[T.hz,T.n0'];exact⟨ai.heap,rfl,ai.ids⟩
  |succ i ih=>
   intro hi;obtain⟨h1,h2,h3⟩:=ih (by omega);have b9:=T.step i _ _ (ir hc.hl (by omega) (cJ (hc.qlt i (by omega))))
   have hn:n<=T.ns i:=by have:=T.je (i:=0) (j:=i) (by omega) (by rw[iW hc.hl];omega);rw[T.n0'] at this;exact this
   obtain⟨h4,h5⟩:=vC (T.Es i) (T.hs i) (T.ns i) h1 (λj hj cg=>by have:=(ai.dom j).1 cg;simp only at this;omega) h3;rw[b9.2.2.2.1];refine⟨h4,h5.trans h2,λid c hin=>?_⟩;rw[b9.2.2.2.2.1]
   rcases (jR _ _ _ _ _).1 hin with h6|⟨q,h6,rfl⟩
   .have:=h3 id c h6;omega
   .have:=(dM.1 h6).1;omega
 obtain⟨h1,h2,h3⟩:=ay qs.length (aE _)
 have hf:∀i,(Array.replicate ops.size false).getD i false=false:=by
  intro i;rw[ck,ya]
  split<;>rfl
 refine N5 hc hK ops.size _ 0 a _ m (by simp) (λi o ho hl=>by rw[hf] at hl;cases hl) ?_ ⟨ai.base,ai.below,ai.defers,ai.size,by rw[E.hz];exact h1,by rw[E.hz,E.n0'];exact h3,by rw[E.n0'];exact aE _,λid=>?_,
  (λp t hp hl=>by rw[hf] at hl;cases hl),(λi t hi=>by omega),λt _ _=>?_,λi _=>?_,aK _,by rw[E.hz,h2];exact ai.fr⟩
 .unfold open_;refine bN IZ ?_;simp
 .rw[ai.dom,E.n0'];constructor
  .exact .inl
  .rintro (h|⟨i,_,hl,_⟩|h)
   .exact h
   .rw[hf] at hl;cases hl
   .omega
 .rw[E.hz,h2];exact ai.env t
 simp_all
end
section
variable{P:Program}{ops:Array Oper}{nt:Nat}{e0:Env}{h0:ak}{n0:Nat}
@[congr] theorem Xn{os:List (Oper×List HS)}{e e':Env}{h h':ak}{n n':Nat}{K:Env->ak->Nat->Prop}(h1:e=e')(h2:h=h')(h3:n=n'):iN P ops nt e0 h0 n0 os e h n K=iN P ops nt e0 h0 n0 os e' h' n' K:=by rw[h1,h2,h3]
@[congr] theorem Xo{os:List (Oper×List HS)}{e e':Env}{h h':ak}{n n':Nat}{K:Env->ak->Nat->Prop}(h1:e=e')(h2:h=h')(h3:n=n'):ky P ops nt e0 h0 n0 os e h n K=ky P ops nt e0 h0 n0 os e' h' n' K:=by rw[h1,h2,h3]
section
omit [av]
@[simp]theorem Xp(e:Env)(h:ak)(n:Nat):eY P e h n []=[]:=rfl
@[simp]theorem Xq(e:Env)(h:ak)(n k:Nat)(l:List HS):eY P e h n (.new k::l)=qN P e h n (.new k)::eY P e h n l:=rfl
@[simp]theorem Xr(e:Env)(h:ak)(n t:Nat)(l:List HS):eY P e h n (.slot t::l)=qN P e h n (.slot t)::eY P e h n l:=rfl
@[simp]theorem Xs(e:Env)(h:ak)(n t s f:Nat)(l:List HS):eY P e h n (.fld t s f::l)=qN P e h n (.fld t s f)::eY P e h n l:=rfl
@[simp]theorem Xt(e:Env)(h:ak)(n:Nat)(l:List HS):eY P e h n (.all::l)=List.range n++eY P e h n l:=rfl
@[simp]theorem Xu(e:Env)(h:ak)(n k:Nat):qN P e h n (.new k)=n+k:=rfl
@[simp]theorem Xv(e:Env)(h:ak)(n t:Nat):qN P e h n (.slot t)=qM (get e t):=rfl
@[simp]theorem Xw(e:Env)(h:ak)(n t s f:Nat):qN P e h n (.fld t s f)=idF h (get e t) (fOf P s f):=rfl
@[simp]theorem Xx(a b c:Nat):qM (.ptr a b c)=a:=rfl
@[simp]theorem Xy(a b c d e:Nat):qM (.msl a b c d e)=a:=rfl
@[simp]theorem Xz(o f:Bool)(p:PV):qM (.w o f p)=1000000007:=rfl
end
attribute [simp] idF
section
omit [av]
theorem Gp:∀h:ak,gA [] h=h
 |[]=>rfl
 |(k,v)::r=>by simp[gA,Gp r]
@[simp]theorem XA(D:List Nat):gA D []=[]:=rfl
theorem Gq(D:List Nat)(k:Nat)(v:List AV)(r:ak):gA D ((k,v)::r)=if k∈D then gA D r else (k,v)::gA D r:=rfl
@[simp]theorem XB{D:List Nat}{k:Nat}(v:List AV)(r:ak)(h:k∈D):gA D ((k,v)::r)=gA D r:=by rw[Gq,aB h]
@[simp]theorem XC{D:List Nat}{k:Nat}(v:List AV)(r:ak)(h:¬k∈D):gA D ((k,v)::r)=(k,v)::gA D r:=by rw[Gq,ar h]
@[simp]theorem XD(D:List Nat)(n:Nat):lH D n []=True:=rfl
@[simp]theorem XE(D:List Nat)(n:Nat)(c:List AV)(E:List (List AV)):lH D n (c::E)=(¬n∈D/\lH D (n+1) E):=rfl
theorem Gr:∀(n:Nat)(E:List (List AV)),lH [] n E=True
 |_,[]=>rfl
 |n,_::E=>by simp[lH,Gr (n+1) E]
@[simp]theorem XG(a b c:Nat)(D:List Nat):xG (.ptr a b c) D=(a∈D):=rfl
end
attribute [simp] sj
section
omit [av]
@[simp]theorem XH(env:Env)(t:TypeId)(ad x:Operand)(D:List Nat):touch env (.store t ad x) D=xG (ev env ad) D:=rfl
@[simp]theorem XI(env:Env)(args:Array Operand)(tys:Array TypeId)(D:List Nat):touch env (.call ⟨.builtin .append,args,tys⟩) D=sj env args.toList D:=rfl
@[simp]theorem XJ(env:Env)(f:Operand)(args:Array Operand)(tys:Array TypeId)(D:List Nat):touch env (.call ⟨.value f,args,tys⟩) D=True:=rfl
@[simp]theorem XK(env:Env)(args:Array Operand)(tys:Array TypeId)(D:List Nat):touch env (.call ⟨.builtin .len,args,tys⟩) D=True:=rfl
@[simp]theorem XL(env:Env)(x:Operand)(D:List Nat):touch env (.assign x) D=True:=rfl
@[simp]theorem XM(env:Env)(x:Operand)(D:List Nat):touch env (.move x) D=True:=rfl
@[simp]theorem XN(env:Env)(o:BinOp)(t:TypeId)(x y:Operand)(u:TypeId)(D:List Nat):touch env (.binOp o t x y u) D=True:=rfl
@[simp]theorem XO(env:Env)(t:TypeId)(x:Operand)(D:List Nat):touch env (.load t x) D=True:=rfl
@[simp]theorem XP(env:Env)(t:TypeId)(D:List Nat):touch env (.alloc t) D=True:=rfl
@[simp]theorem XQ(env:Env)(t:TypeId)(x:Operand)(D:List Nat):touch env (.box t x) D=True:=rfl
@[simp]theorem XR(env:Env)(t:TypeId)(x:Operand)(f:Nat)(D:List Nat):touch env (.fieldAddr t x f) D=True:=rfl
@[simp]theorem XS(env:Env)(t:TypeId)(x i:Operand)(D:List Nat):touch env (.indexAddr t x i) D=True:=rfl
@[simp]theorem XT(env:Env)(x:Operand)(i:Nat)(D:List Nat):touch env (.extract x i) D=True:=rfl
@[simp]theorem XU(env:Env)(a b:TypeId)(x:Operand)(D:List Nat):touch env (.convert a b x) D=True:=rfl
@[simp]theorem XV(env:Env)(t:TypeId)(x:Operand)(l u m:Option Operand)(D:List Nat):touch env (.slice t x l u m) D=True:=rfl
@[simp]theorem XW(env:Env)(t:TypeId)(p:Array (Nat×Operand))(D:List Nat):touch env (.build t p) D=True:=rfl
@[simp]theorem XX(env:Env)(t:TypeId)(x:Operand)(f:Nat)(D:List Nat):touch env (.field t x f) D=True:=rfl
@[simp]theorem XY(env:Env)(x:Operand)(D:List Nat):touch env (.nilCheck x) D=True:=rfl
@[simp]theorem XZ(env:Env)(c x y:Operand)(D:List Nat):touch env (.pick c x y) D=True:=rfl
@[simp]theorem X0(i:Nat)(l:List Nat)(d:List HS)(ds:List (List HS)):opL ops (i::l) (d::ds)=(xI ops i,d)::opL ops l ds:=rfl
@[simp]theorem X1:opL ops [] []=[]:=rfl
@[simp]theorem X2(l:List Oper)(i:Nat):xI l.toArray i=pF l i:=rfl
@[simp]theorem X3(o:Oper)(r:List Oper):pF (o::r) 0=o:=rfl
@[simp]theorem X4(o:Oper)(r:List Oper)(k:Nat):pF (o::r) (k+1)=pF r k:=rfl
end
variable{env:Env}{h:ak}{n:Nat}
@[simp ↓]theorem X5(K:Env->ak->Nat->Prop):iN P ops nt e0 h0 n0 [] env h n K=K env h n:=rfl
@[simp ↓]theorem X6(K:Env->ak->Nat->Prop):ky P ops nt e0 h0 n0 [] env h n K=K env h n:=rfl
section
variable{dst:Option Tmp}{op:Op}{ty:TypeId}{pos:String}{after:Array Edge}{j:Nat}{want:Bool}{d:HS}{ds:List HS}{os:List (Oper×List HS)}{K:Env->ak->Nat->Prop}
@[simp ↓]theorem X7:iN P ops nt e0 h0 n0 ((⟨dst,op,ty,pos,after,none⟩,[])::os) env h n K=(dOk nt dst/\bG P env h n op λv E=>iN P ops nt e0 h0 n0 os (put env dst v) (bu h n E) (n+E.length) K):=by
 simp[iN,fB,Gp,Gr]
@[simp ↓]theorem X8:iN P ops nt e0 h0 n0 ((⟨dst,op,ty,pos,after,none⟩,d::ds)::os) env h n K=(dOk nt dst/\bG P env (gA (eY P e0 h0 n0 (d::ds)) h) n op λv E=>lH (eY P e0 h0 n0 (d::ds)) n E/\iN P ops nt e0 h0 n0 os (put env dst v) (bu h n E) (n+E.length) K):=by
 simp[iN,fB]
@[simp ↓]theorem X9{ds:List HS}:ky P ops nt e0 h0 n0 ((⟨dst,op,ty,pos,after,none⟩,ds)::os) env h n K=(dOk nt dst/\touch env op (eY P e0 h0 n0 ds)/\bH P env h n op λv h' n'=>ky P ops nt e0 h0 n0 os (put env dst v) h' n' K):=by
 simp[ky,fB]
end
end
def pk(c:Option (List AV))(k:Nat)(r:ak):ak:=match c with|some c=>(k,c)::r|none=>r
omit [av] in
@[simp]theorem Ya(c:List AV)(k:Nat)(r:ak):pk (some c) k r=(k,c)::r:=rfl
def gX(h:ak):List Nat->ak
 |[]=>[]
 |k::ks=>pk (bf h k) k (gX h ks)
omit [av] in
@[simp]theorem Yb(h:ak):gX h []=[]:=rfl
omit [av] in
@[simp]theorem Yc(h:ak)(k:Nat)(ks:List Nat):gX h (k::ks)=pk (bf h k) k (gX h ks):=rfl
theorem bQ{P:Program}{K:Exit->St->Prop}{c:Code}{id:Nat}{env:Env}{h:ak}{n nt:Nat}{α β:Type}(J:α->Prop)(ks:List Nat)(mods:α->Env)(ba:List Nat)(hm:α->ak)(μ:α->Nat)(F:β->Prop)(fks:List Nat)(fmods:β->Env)(fhks:List Nat)(fhm:β->ak)(x0:α)(hJ:J x0)(h0:si env n (mods x0++fN env ks))(h1:qK h n (hm x0++gX h ba))(round:∀x,J x->bm fk P c ⟨mods x++fN env ks,hm x++gX h ba,n,nt⟩ (j3 fk J (λx=>⟨mods x++fN env ks,hm x++gX h ba,n,nt⟩) μ x (nZ fk id F (λy=>⟨fmods y++fN env fks,fhm y++gX h fhks,n,nt⟩) K)))(after:∀y,F y->K .normal ⟨fmods y++fN env fks,fhm y++gX h fhks,n,nt⟩):bm fk P (.block id (.loop c)) ⟨env,h,n,nt⟩ K:=
 wV J ks mods (λx=>hm x++gX h ba) μ F fks fmods (λy=>fhm y++gX h fhks) x0 hJ h0 h1 round after
end Go.Fi
