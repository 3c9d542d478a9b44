/- Lemmas. -/
import Derived.Test.YthpkmilhiganjaaGreatPLd
set_option linter.all false
set_option maxHeartbeats 32000000
set_option maxRecDepth 100000
namespace Go.Fi
open Go Go.RowKit
variable[bI]
variable{fk:Fk}
inductive HS where
 |new (k:Nat)
 |slot (t:Nat)
 |fld (t:Nat) (s:TypeId) (f:Nat)
 |all
 deriving DecidableEq,Inhabited
def qY:AV->Nat
 |.ptr id _ _=>id
 |.msl id _ _ _ _=>id
 |.mp id=>id
 |_=>1000000007
def idF(h:bE)(v:AV)(o:Option (Nat×Nat×Bool)):Nat:=
 match v,o with
 |.ptr id _ off,some (o,_,_)=>match cJ h id with
  |some c=>qY (mG c (off+o))
  |none=>1000000007
 |_,_=>1000000007
def qZ(P:Program)(e:Env)(h:bE)(n:Nat):HS->Nat
 |.new k=>n+k
 |.slot t=>qY (get e t)
 |.fld t s f=>idF h (get e t) (fOf P s f)
 |.all=>1000000007
def Tq(P:Program)(e:Env)(h:bE)(n:Nat):HS->List Nat
 |.all=>List.range n
 |s=>[qZ P e h n s]
def fU(P:Program)(e:Env)(h:bE)(n:Nat)(l:List HS):List Nat:=l.flatMap (Tq P e h n)
def iF(D:List Nat):bE->bE
 |[]=>[]
 |(k,v)::r=>if k∈D then iF D r else (k,v)::iF D r
def mW(D:List Nat):Nat->List (List AV)->Prop
 |_,[]=>True
 |n,_::E=>¬n∈D/\mW D (n+1) E
omit [bI] in
theorem BK{D:List Nat}:∀{h:bE}{id:Nat}{c:List AV},cJ (iF D h) id=some c->(id,c)∈h/\¬id∈D
 |[],id,c,e=>by cases e
 |(k,v)::r,id,c,e=>by
  simp only[iF] at e;split at e
  .obtain⟨h1,h2⟩:=BK e;simp_all
  .rename_i hk;simp only[cJ] at e;split at e
   .simp_all
   .obtain⟨h1,h2⟩:=BK e;simp_all
omit [bI] in
theorem G4{D:List Nat}:∀{E:List (List AV)}{n k:Nat},mW D n E->k<E.length->¬n+k∈D
 |[],n,k,_,hk=>by simp at hk
 |_::E,n,0,h,_=>h.1
 |_::E,n,k+1,h,hk=>by
  have:=G4 (k:=k) h.2 ak
  rwa [show n+1+k=n+(k+1) by omega] at this
def te(env:Env)(args:List Operand)(D:List Nat):Prop:=
 match args with
 |x::_=>match ev env x with
  |.msl id _ _ _ _=>id∈D
  |_=>True
 |[]=>True
def yc(v:AV)(D:List Nat):Prop:=
 match v with
 |.ptr id _ _=>id∈D
 |_=>False
def yd(v:AV)(D:List Nat):Prop:=
 match v with
 |.mp id=>id∈D
 |_=>False
def touch(env:Env)(op:Op)(D:List Nat):Prop:=
 match op with
 |.store _ ad _=>yc (ev env ad) D
 |.call { callee:=.builtin .append,args:=args,argTypes:=_ }=>te env args.toList D
 |.call { callee:=.builtin .copy,args:=args,argTypes:=_ }=>te env args.toList D
 |.mapUpdate _ mo _ _=>yd (ev env mo) D
 |_=>True
def EF(P:Program)(env:Env)(h:bE)(n:Nat)(op:Op)(v:AV)(h':bE)(n':Nat):Prop:=dp P env h n op λv1 h1 n1=>v1=v/\h1=h'/\n1=n'
section
variable{P:Program}{env:Env}{h:bE}{n:Nat}
theorem QF.q{op:Op}{v:AV}{E:List (List AV)}{K:AV->List (List AV)->Prop}(hq:QF P env h n op v E)(hk:K v E):dk P env h n op K:=by
 rcases hq with ⟨c,h0,hc⟩|⟨f,args,tys,g,bY,pvs,res,fr,rfl,hf,hp,⟨hr,cj,rfl,rfl⟩|⟨E0,v0,hr,rfl,rfl⟩⟩
 .unfold dk;split
  .simp[aOp] at h0
  grind
 .simp only[dk,hf,uP,hp];exact .inl ⟨res,fr,hr,cj,hk⟩
 .simp only[dk,hf,uP,hp];exact .inr ⟨E0,v0,hr,hk⟩
theorem dp.ef{op:Op}{K:AV->bE->Nat->Prop}(he:dp P env h n op K):∃v h' n',EF P env h n op v h' n'/\K v h' n':=by
 have quiet:∀op,dk P env h n op (λv E=>K v (cV h n E) (n+E.length))->∃v h' n',dk P env h n op (λv1 E=>v1=v/\cV h n E=h'/\n+E.length=n')/\K v h' n':=by
  intro op hq;obtain⟨v,E,hq,hk⟩:=hq.qf;exact⟨v,_,_,hq.q ⟨rfl,rfl,rfl⟩,hk⟩
 unfold dp at he;unfold EF dp;split at he
 .unfold sr at he ⊢;split at he
  .split at he
   .rename_i e;simp only[e];exact⟨_,_,_,⟨he.1,rfl,rfl,rfl⟩,he.2⟩
   .exact he.elim
  .exact he.elim
 .unfold sj at he ⊢;split at he
  .split at he
   .split at he
    .split at he
     .split at he
      .rename_i e;simp only[e];exact⟨_,_,_,⟨he.1,rfl,rfl,rfl⟩,he.2⟩
      .exact he.elim
     .rename_i own k cells es
      cases ag:(own&&decide (k=0)&&cells.isEmpty) with
      |true=>
       rw[ag] at he;simp only[cond_true] at he ⊢;exact⟨_,_,_,⟨he.1,rfl,rfl,rfl⟩,he.2⟩
      |false=>
       rw[ag] at he;simp only[cond_false] at he ⊢;split at he
       .exact⟨_,_,_,⟨he.1,rfl,rfl,rfl⟩,he.2⟩
       .exact he.elim
     .exact he.elim
    .exact he.elim
   .exact he.elim
  .exact he.elim
 .unfold sw at he ⊢;split at he
  .rename_i e;simp only[e];exact⟨_,_,_,⟨he.1,rfl,rfl,rfl⟩,he.2⟩
  .exact he.elim
 .unfold xR at he ⊢;split at he
  .exact⟨_,_,_,⟨he.1,rfl,rfl,rfl⟩,he.2⟩
  .rename_i aw;obtain⟨v,h',n',h1,h2⟩:=quiet _ he;exact⟨v,h',n',h1,h2⟩
 .exact⟨_,_,_,⟨he.1,rfl,rfl,rfl⟩,he.2⟩
 .unfold sD at he ⊢;split at he
  .split at he
   .rename_i e1 e2 e3 e4;simp only[e1,e2,e3,e4];exact⟨_,_,_,⟨he.1,rfl,rfl,rfl⟩,he.2⟩
   .exact he.elim
  .exact he.elim
 simp_all
omit [bI] in
theorem uz{id i:Nat}{x c:List AV}(aw:i≠id):∀{h:bE},(i,c)∈h->(i,c)∈dQ h id x
 |[],hin=>by cases hin
 |(k,v)::r,hin=>by
  simp only[dQ];split
  .simp_all
  .rcases dM.1 hin with e|e
   .rw[e];simp
   .exact eH _ (uz aw e)
theorem EF.keep{op:Op}{v:AV}{h':bE}{n':Nat}{D:List Nat}(he:EF P env h n op v h' n')(ht:touch env op D){i:Nat}{c:List AV}(hin:(i,c)∈h)(hD:¬i∈D):(i,c)∈h':=by
 have quiet:∀op,dk P env h n op (λv1 E=>v1=v/\cV h n E=h'/\n+E.length=n')->(i,c)∈h':=by
  intro op hq;obtain⟨_,E,_,_,hk,_⟩:=hq.qf;rw[<-hk];exact (lD E h n i c).2 (.inl hin)
 unfold EF dp at he;split at he
 .unfold sr at he;split at he
  .rename_i cf;split at he
   .obtain⟨_,_,h2,_⟩:=he;rw[<-h2];simp only[touch,yc,cf] at ht;exact uz (λe=>hD (by rw[e];exact ht)) hin
   .exact he.elim
  .exact he.elim
 .unfold sj at he;split at he
  .rename_i ha bc;split at he
   .split at he
    .split at he
     .rename_i es;split at he
      .obtain⟨_,_,h2,_⟩:=he;rw[<-h2];simp only[touch,ha,te,es] at ht;exact uz (λe=>hD (by rw[e];exact ht)) hin
      .exact he.elim
     .rename_i own k cells es
      cases ag:(own&&decide (k=0)&&cells.isEmpty) with
      |true=>
       rw[ag] at he;simp only[cond_true] at he;obtain⟨_,_,h2,_⟩:=he;rw[<-h2];exact eH _ hin
      |false=>
       rw[ag] at he;simp only[cond_false] at he;split at he
       .obtain⟨_,_,h2,_⟩:=he;rw[<-h2];exact hin
       .exact he.elim
     .exact he.elim
    .exact he.elim
   .exact he.elim
  .exact he.elim
 .rename_i args tys;unfold sw su at he
  match ha:args.toList,bc:tys.toList with
  |[d,x],t::ts=>
   rw[ha,bc] at he;simp only[oU,yH] at he
   cases hr:pH P h t (ev env d) (ev env x) with
   |none=>rw[hr] at he;exact he.elim
   |some y=>
    obtain⟨c1,v1,h1⟩:=y;rw[hr] at he;obtain⟨_,_,h2,_⟩:=he;unfold pH at hr;split at hr
    .rename_i hd;split at hr
     .cases hr;rw[<-h2];simp only[touch,ha,te,hd] at ht;exact uz (λe=>hD (by rw[e];exact ht)) hin
     .cases hr
    .cases hr
  |[],_=>rw[ha] at he;exact he.elim
  |[_],_=>rw[ha] at he;exact he.elim
  |_::_::_::_,_=>rw[ha] at he;exact he.elim
  |[_,_],[]=>rw[ha,bc] at he;exact he.elim
 .unfold xR at he;split at he
  .obtain⟨_,_,h2,_⟩:=he;rw[<-h2];exact hin
  .exact quiet _ he
 .obtain⟨_,_,h2,_⟩:=he;rw[<-h2];exact eH _ hin
 .unfold sD at he;split at he
  .rename_i hm;split at he
   .obtain⟨_,_,h2,_⟩:=he;rw[<-h2];simp only[touch,yd,hm] at ht;exact uz (λe=>hD (by rw[e];exact ht)) hin
   .exact he.elim
  .exact he.elim
 grind
end
section
variable{P:Program}{ops:Array Oper}{nt:Nat}{e0:Env}{h0:bE}{n0:Nat}
def jE(P:Program)(ops:Array Oper)(nt:Nat)(e0:Env)(h0:bE)(n0:Nat):List (Oper×List HS)->Env->bE->Nat->(Env->bE->Nat->Prop)->Prop
 |[],e,h,n,K=>K e h n
 |(o,d)::os,e,h,n,K=>
  match gj ops e o with
  |some g=>dOk nt o.dst/\(g=true->dk P e (iF (fU P e0 h0 n0 d) h) n o.op λv E=>mW (fU P e0 h0 n0 d) n E/\jE P ops nt e0 h0 n0 os (put e o.dst v) (cV h n E) (n+E.length) K) /\
    (g=false->jE P ops nt e0 h0 n0 os (put e o.dst (.tup [])) h n K)
  |none=>False
def lX(P:Program)(ops:Array Oper)(nt:Nat)(e0:Env)(h0:bE)(n0:Nat):List (Oper×List HS)->Env->bE->Nat->(Env->bE->Nat->Prop)->Prop
 |[],e,h,n,K=>K e h n
 |(o,d)::os,e,h,n,K=>
  match gj ops e o with
  |some g=>dOk nt o.dst/\(g=true->touch e o.op (fU P e0 h0 n0 d)/\dp P e h n o.op λv h' n'=>lX P ops nt e0 h0 n0 os (put e o.dst v) h' n' K) /\
    (g=false->lX P ops nt e0 h0 n0 os (put e o.dst (.tup [])) h n K)
  |none=>False
structure TrQ(P:Program)(ops:Array Oper)(nt:Nat)(e0:Env)(h0:bE)(n0:Nat)(os:List (Oper×List HS))(e:Env)(h:bE)(n:Nat) where
 es:Nat->Env
 hs:Nat->bE
 ns:Nat->Nat
 vs:Nat->AV
 Es:Nat->List (List AV)
 gs:Nat->Bool
 e0':es 0=e
 hz:hs 0=h
 n0':ns 0=n
 step:∀i o d,os[i]?=some (o,d)->dOk nt o.dst/\gj ops (es i) o=some (gs i)/\es (i+1)=put (es i) o.dst (vs i)/\hs (i+1)=cV (hs i) (ns i) (Es i)/\ns (i+1)=ns i+(Es i).length /\
  (gs i=true->QF P (es i) (iF (fU P e0 h0 n0 d) (hs i)) (ns i) o.op (vs i) (Es i)/\mW (fU P e0 h0 n0 d) (ns i) (Es i))/\(gs i=false->vs i=.tup []/\Es i=[])
theorem G5{K:Env->bE->Nat->Prop}:∀(os:List (Oper×List HS))(e:Env)(h:bE)(n:Nat),jE P ops nt e0 h0 n0 os e h n K->∃T:TrQ P ops nt e0 h0 n0 os e h n,K (T.es os.length) (T.hs os.length) (T.ns os.length)
 |[],e,h,n,hk=>⟨⟨λ_=>e,λ_=>h,λ_=>n,λ_=>.tup [],λ_=>[],λ_=>true,rfl,rfl,rfl,λi o d hi=>by simp at hi⟩,hk⟩
 |(o,d)::os,e,h,n,hk=>by
  simp only[jE] at hk;split at hk
  .rename_i g hg;obtain⟨hd,h1,h2⟩:=hk
   have main:∀(v:AV)(E:List (List AV)),(g=true->QF P e (iF (fU P e0 h0 n0 d) h) n o.op v E/\mW (fU P e0 h0 n0 d) n E)->(g=false->v=.tup []/\E=[])->jE P ops nt e0 h0 n0 os (put e o.dst v) (cV h n E) (n+E.length) K ->
    ∃T:TrQ P ops nt e0 h0 n0 ((o,d)::os) e h n,K (T.es ((o,d)::os).length) (T.hs ((o,d)::os).length) (T.ns ((o,d)::os).length):=by
    intro v E q1 q2 hr;obtain⟨T,hK⟩:=G5 os _ _ _ hr
    refine⟨⟨λi=>match i with|0=>e|i+1=>T.es i,λi=>match i with|0=>h|i+1=>T.hs i,λi=>match i with|0=>n|i+1=>T.ns i,
     λi=>match i with|0=>v|i+1=>T.vs i,λi=>match i with|0=>E|i+1=>T.Es i,λi=>match i with|0=>g|i+1=>T.gs i,rfl,rfl,rfl,λi o' d' hi=>?_⟩,hK⟩
    cases i with
    |zero=>
     simp at hi;obtain⟨rfl,rfl⟩:=hi;exact⟨hd,hg,T.e0',T.hz,T.n0',q1,q2⟩
    |succ i=>exact T.step i o' d' aM
   cases g with
   |true=>
    obtain⟨v,E,q,hn,hr⟩:=(h1 rfl).qf;exact main v E (λ_=>⟨q,hn⟩) nofun hr
   |false=>exact main (.tup []) [] nofun (λ_=>⟨rfl,rfl⟩) (h2 rfl)
  trivial
structure TrE(P:Program)(ops:Array Oper)(nt:Nat)(e0:Env)(h0:bE)(n0:Nat)(os:List (Oper×List HS))(e:Env)(h:bE)(n:Nat) where
 es:Nat->Env
 hs:Nat->bE
 ns:Nat->Nat
 vs:Nat->AV
 gs:Nat->Bool
 e0':es 0=e
 hz:hs 0=h
 n0':ns 0=n
 step:∀i o d,os[i]?=some (o,d)->dOk nt o.dst/\gj ops (es i) o=some (gs i)/\es (i+1)=put (es i) o.dst (vs i) /\
  (gs i=true->touch (es i) o.op (fU P e0 h0 n0 d)/\EF P (es i) (hs i) (ns i) o.op (vs i) (hs (i+1)) (ns (i+1)))/\(gs i=false->vs i=.tup []/\hs (i+1)=hs i/\ns (i+1)=ns i)
theorem G6{K:Env->bE->Nat->Prop}:∀(os:List (Oper×List HS))(e:Env)(h:bE)(n:Nat),lX P ops nt e0 h0 n0 os e h n K->∃T:TrE P ops nt e0 h0 n0 os e h n,K (T.es os.length) (T.hs os.length) (T.ns os.length)
 |[],e,h,n,hk=>⟨⟨λ_=>e,λ_=>h,λ_=>n,λ_=>.tup [],λ_=>true,rfl,rfl,rfl,λi o d hi=>by simp at hi⟩,hk⟩
 |(o,d)::os,e,h,n,hk=>by
  simp only[lX] at hk;split at hk
  .rename_i g hg;obtain⟨hd,h1,h2⟩:=hk
   have main:∀(v:AV)(h':bE)(n':Nat),(g=true->touch e o.op (fU P e0 h0 n0 d)/\EF P e h n o.op v h' n')->(g=false->v=.tup []/\h'=h/\n'=n)->lX P ops nt e0 h0 n0 os (put e o.dst v) h' n' K ->
    ∃T:TrE P ops nt e0 h0 n0 ((o,d)::os) e h n,K (T.es ((o,d)::os).length) (T.hs ((o,d)::os).length) (T.ns ((o,d)::os).length):=by
    intro v h' n' q1 q2 hr;obtain⟨T,hK⟩:=G6 os _ _ _ hr
    refine⟨⟨λi=>match i with|0=>e|i+1=>T.es i,λi=>match i with|0=>h|i+1=>T.hs i,λi=>match i with|0=>n|i+1=>T.ns i,
     λi=>match i with|0=>v|i+1=>T.vs i,λi=>match i with|0=>g|i+1=>T.gs i,rfl,rfl,rfl,λi o' d' hi=>?_⟩,hK⟩
    cases i with
    |zero=>
     simp at hi;obtain⟨rfl,rfl⟩:=hi;refine⟨hd,hg,T.e0',λhg=>?_,λhg=>?_⟩
     .obtain⟨h3,h4⟩:=q1 hg;refine⟨h3,?_⟩;show EF P e h n o.op v (T.hs 0) (T.ns 0);rw[T.hz,T.n0'];exact h4
     .obtain⟨h3,h4,h5⟩:=q2 hg;exact⟨h3,T.hz.trans h4,T.n0'.trans h5⟩
    |succ i=>exact T.step i o' d' aM
   cases g with
   |true=>
    obtain⟨ht,he⟩:=h1 rfl;obtain⟨v,h',n',q,hr⟩:=he.ef;exact main v h' n' (λ_=>⟨ht,q⟩) nofun hr
   |false=>exact main (.tup []) h n nofun (λ_=>⟨rfl,rfl,rfl⟩) (h2 rfl)
  trivial
section
variable{os:List (Oper×List HS)}{e:Env}{h:bE}{n:Nat}
theorem TrQ.jW(T:TrQ P ops nt e0 h0 n0 os e h n){i j:Nat}(bi:i<=j)(hj:j<=os.length):T.ns i<=T.ns j:=by
 induction j with
 |zero=>have:i=0:=by omega
        simp_all
 |succ j ih=>
  by_cases hi:i=j+1
  .simp_all
  .have:=ih ab ab;have hs:=(T.step j os[j].1 os[j].2 (dP ab)).2.2.2.2.1;omega
theorem TrQ.uS(T:TrQ P ops nt e0 h0 n0 os e h n){i j:Nat}(bi:i<=j)(hj:j<=os.length){p:Nat×List AV}(hp:p∈T.hs i):p∈T.hs j:=by
 induction j with
 |zero=>have:i=0:=by omega
        simp_all
 |succ j ih=>
  by_cases hi:i=j+1
  .simp_all
  .have:=ih ab ab;have hs:=(T.step j os[j].1 os[j].2 (dP ab)).2.2.2.1;rw[hs];exact (lD (T.Es j) (T.hs j) (T.ns j) p.1 p.2).2 (.inl this)
omit [bI] in
theorem uA(es:Nat->Env)(vs:Nat->AV)(bg:∀i o d,os[i]?=some (o,d)->es (i+1)=put (es i) o.dst (vs i))(i:Nat)(hi:i<=os.length)(t:Nat):(∃(j:Nat)(o:Oper)(d:List HS),j<i/\os[j]?=some (o,d)/\o.dst=some t/\get (es i) t=vs j)\/((∀(j:Nat)(o:Oper)(d:List HS),j<i->os[j]?=some (o,d)->o.dst≠some t)/\get (es i) t=get (es 0) t):=by
 induction i with
 |zero=>simp
 |succ i ih=>
  have ck:os[i]?=some os[i]:=dP ab;have hs:=bg i os[i].1 os[i].2 ck;rw[hs]
  cases hd:os[i].1.dst with
  |none=>
   simp only[put]
   grind
  |some d'=>
   simp only[put,get]
   grind
end
end
def rd(ops:Array Oper)(x t:Nat):Bool:=match ops[x]? with|some o=>(jV ops o).contains t|none=>false
def wr(ops:Array Oper)(x:Nat)(f:Nat->Bool):Bool:=match dV ops x with|some t=>f t|none=>true
def Dq(ops:Array Oper)(qs ss:List Nat)(hh sp:List (List HS)):Bool:=
 ((List.range ops.size).all λi=>match ops[i]? with
   |some o=>o.after.toList.all λe=>!Region.binds .any e || decide (e.on<i)
   |none=>true) &&
 ((List.range ops.size).all λi=>qs.contains i || ss.contains i)&&((qs++ss).all λx=>decide (x<ops.size))&&decide ((qs++ss).Nodup)&&decide (hh.length=qs.length)&&decide (sp.length=ss.length) &&
 ((List.range qs.length).all λp=>(List.range qs.length).all λq=>wr ops (nth qs q) λt=>!rd ops (nth qs p) t || (decide (q<p)&&reach ops 6 (nth qs p) (nth qs q)) || decide (q=p) || (decide (p<q)&&reach ops 6 (nth qs q) (nth qs p))) &&
 ((List.range qs.length).all λp=>(List.range ss.length).all λj=>wr ops (nth ss j) λt=>!rd ops (nth qs p) t || reach ops 8 (nth ss j) (nth qs p)) &&
 ((List.range ss.length).all λj=>(List.range qs.length).all λp=>wr ops (nth qs p) λt=>!rd ops (nth ss j) t || reach ops 8 (nth ss j) (nth qs p)) &&
 ((List.range ops.size).all λi=>(List.range ops.size).all λj=>decide (i=j) || wr ops i λt=>decide (dV ops j≠some t)) &&
 ((List.range ss.length).all λj=>(List.range j).all λi=>reach ops 8 (nth ss j) (nth ss i)) &&
 ((List.range qs.length).all λp=>(List.range ss.length).all λj=>reach ops 8 (nth ss j) (nth qs p) || (nth sp j).all λs=>(nth hh p).contains s)
structure pX(ops:Array Oper)(qs ss:List Nat)(hh sp:List (List HS)):Prop where
 down:∀(i:Nat)(o:Oper),ops[i]?=some o->∀e∈o.after,Region.binds .any e=true->e.on<i
 all:∀i,i<ops.size->(∃p,p<qs.length/\nth qs p=i)\/(∃j,j<ss.length/\nth ss j=i)
 qlt:∀p,p<qs.length->nth qs p<ops.size
 slt:∀j,j<ss.length->nth ss j<ops.size
 Ts:∀p q,p<qs.length->q<qs.length->nth qs p=nth qs q->p=q
 Jj:∀i j,i<ss.length->j<ss.length->nth ss i=nth ss j->i=j
 qne:∀p j,p<qs.length->j<ss.length->nth qs p≠nth ss j
 hl:hh.length=qs.length
 sl:sp.length=ss.length
 qq:∀p q t o,p<qs.length->q<qs.length->dV ops (nth qs q)=some t->ops[nth qs p]?=some o->t∈jV ops o->(q<p/\reach ops 6 (nth qs p) (nth qs q)=true)\/q=p\/(p<q/\reach ops 6 (nth qs q) (nth qs p)=true)
 sq:∀p j t o,p<qs.length->j<ss.length->dV ops (nth ss j)=some t->ops[nth qs p]?=some o->t∈jV ops o->reach ops 8 (nth ss j) (nth qs p)=true
 qs':∀p j t o,p<qs.length->j<ss.length->dV ops (nth qs p)=some t->ops[nth ss j]?=some o->t∈jV ops o->reach ops 8 (nth ss j) (nth qs p)=true
 once:∀i j t,i<ops.size->j<ops.size->i≠j->dV ops i=some t->dV ops j≠some t
 chain:∀i j,j<ss.length->i<j->reach ops 8 (nth ss j) (nth ss i)=true
 hidden:∀p j,p<qs.length->j<ss.length->reach ops 8 (nth ss j) (nth qs p)=true\/∀s∈nth sp j,s∈nth hh p
section
omit [bI]
theorem iu{α:Type}[Inhabited α]{l:List α}{i:Nat}(h:i<l.length):nth l i∈l:=by
 simp[nth,dZ,dP h]
theorem G7{α:Type}[Inhabited α]{l:List α}{i:Nat}(h:i<l.length):l[i]?=some (nth l i):=by
 simp[nth,dZ,dP h]
theorem G8{α:Type}[Inhabited α]{l:List α}{x:α}(h:x∈l):∃i,i<l.length/\nth l i=x:=by
 obtain⟨i,hi,rfl⟩:=lZ h;exact⟨i,hi,by simp[nth,dZ,dP hi]⟩
theorem OZ{ops:Array Oper}{qs ss:List Nat}{hh sp:List (List HS)}(h:Dq ops qs ss hh sp=true):pX ops qs ss hh sp:=by
 simp only[Dq,eY,decide_eq_true_eq,gp,tJ,qj,List.contains_iff_mem] at h;obtain⟨⟨⟨⟨⟨⟨⟨⟨⟨⟨⟨h1,h2⟩,h3⟩,h4⟩,h5⟩,h6⟩,h7⟩,h8⟩,h9⟩,c8⟩,c9⟩,cy⟩:=h;have bv:=List.nodup_append.1 h4
 have jU:∀{l:List Nat},l.Nodup->∀p q,p<l.length->q<l.length->nth l p=nth l q->p=q:=by
  intro l hl p q hp hq he;have h1:=G7 hp;have h2:=G7 hq;rw[he] at h1;rw[dP hp] at h1;rw[dP hq] at h2;have h3:l[p]=l[q]:=(fL h1).trans (fL h2).symm;have h4:=vn.1 hl
  rcases DG p q with h|h|h
  .exact absurd h3 (h4 p q hp hq h)
  .exact h
  .exact absurd h3.symm (h4 q p hq hp h)
 have c3:∀x t o,ops[x]?=some o->t∈jV ops o->rd ops x t=true:=by
  intro x t o ho ht;simp only[rd,ho,List.contains_iff_mem];exact ht
 have bo:∀x t f,dV ops x=some t->wr ops x f=true->f t=true:=by
  intro x t f hd hw;simpa only[wr,hd] using hw
 refine⟨λi o ho e hin hb=>?_,λi hi=>?_,λp hp=>?_,λj hj=>?_,jU bv.1,jU bv.2.1,λp j hp hj=>?_,h5,h6,λp q t o hp hq hd ho ht=>?_,λp j t o hp hj hd ho ht=>?_,λp j t o hp hj hd ho ht=>?_,λi j t hi hj aw hd=>?_,λi j hj hi=>?_,λp j hp hj=>?_⟩
 .have cm:=(cY.1 ho).1;have:=h1 i cm;simp only[ho,gp] at this;have:=this e (rC.2 hin);simpa[hb] using this
 .rcases h2 i hi with h|h
  .exact .inl (G8 h)
  .exact .inr (G8 h)
 .exact h3 _ (iV.2 (.inl (iu hp)))
 .exact h3 _ (iV.2 (.inr (iu hj)))
 .exact bv.2.2 _ (iu hp) _ (iu hj)
 .have:=bo _ _ _ hd (h7 p hp q hq);rw[c3 _ _ _ ho ht] at this;simp only[ik,jJ,qj,eY,decide_eq_true_eq] at this
  rcases this with (h|h)|h
  .exact .inl h
  .exact .inr (.inl h)
  .exact .inr (.inr h)
 .have:=bo _ _ _ hd (h8 p hp j hj);rw[c3 _ _ _ ho ht] at this;simpa using this
 .have:=bo _ _ _ hd (h9 j hj p hp);rw[c3 _ _ _ ho ht] at this;simpa using this
 .rcases c8 i hi j hj with h|h
  .exact absurd h aw
  .simpa using bo _ _ _ hd h
 .exact c9 j hj i hi
 simp_all
end
section
variable{P:Program}{ops:Array Oper}{nt:Nat}{qs ss:List Nat}{hh sp:List (List HS)}{e:Env}{h:bE}{n:Nat}
def pY:List Oper->Nat->Oper
 |[],_=>⟨none,.move (.func 0),0, "",#[],none⟩
 |o::_,0=>o
 |_::r,k+1=>pY r k
def ye(ops:Array Oper)(i:Nat):Oper:=pY ops.toList i
def opL(ops:Array Oper):List Nat->List (List HS)->List (Oper×List HS)
 |i::l,d::ds=>(ye ops i,d)::opL ops l ds
 |_,_=>[]
section
omit [bI]
theorem G9:∀(l:List Oper)(i:Nat)(o:Oper),l[i]?=some o->pY l i=o
 |[],i,o,h=>by simp at h
 |x::r,0,o,h=>by simpa[pY] using h
 |x::r,i+1,o,h=>G9 r i o av
theorem jN:∀{l:List Nat}{d:List (List HS)},d.length=l.length->(opL ops l d).length=l.length
 |[],[],_=>rfl
 |i::l,d::ds,h=>by simp[opL,jN (l:=l) (d:=ds) av]
 |[],_::_,h=>by simp at h
 |_::_,[],h=>by simp at h
theorem je:∀{l:List Nat}{d:List (List HS)},d.length=l.length->∀{i:Nat}{o:Oper},i<l.length->ops[nth l i]?=some o->(opL ops l d)[i]?=some (o,nth d i)
 |[],_,_,i,o,hi,_=>by simp at hi
 |_::_,[],h,_,_,_,_=>by simp at h
 |x::l,d::ds,h,0,o,hi,ho=>by
  simp only[opL,Dz,G0] at ho ⊢;rw[show ye ops x=o from G9 _ _ _ (by rw[iW];exact ho)]
 |x::l,d::ds,h,i+1,o,hi,ho=>by
  simp only[opL,yA,BJ] at ho ⊢;exact je av ak ho
end
structure gJ(P:Program)(ops:Array Oper)(nt:Nat)(qs ss:List Nat)(hh sp:List (List HS))(e:Env)(h:bE)(n:Nat)(T:TrQ P ops nt e h n (opL ops qs hh) e h n)
 (E:TrE P ops nt e h n (opL ops ss sp) (T.es qs.length) (T.hs qs.length) (T.ns qs.length)) (B:Base) (w0:Ctx fk) (listed:Array Bool) (j:Nat) (a:Act) (w:World) (m:Mm):Prop where
 base:B.n=w0.w.heap.size
 below:Bel B.n w0.w w
 defers:a.defers=marks w0.ds
 size:a.tmps.size=nt
 heap:cX B (E.hs j) m w
 ids:∀id c,(id,c)∈E.hs j->id<E.ns j
 mono:T.ns qs.length<=E.ns j
 dom:∀id,m.dom id↔id<n\/(∃p,p<qs.length/\listed.getD (nth qs p) false=true/\T.ns p<=id/\id<T.ns p+(T.Es p).length)\/(T.ns qs.length<=id/\id<E.ns j)
 done:∀p t,p<qs.length->listed.getD (nth qs p) false=true->dV ops (nth qs p)=some t->bJ B (LB m (E.hs j)) m w (T.vs p) (a.tmps.getD t undef)
 u9:∀i t,i<j->dV ops (nth ss i)=some t->bJ B (LB m (E.hs j)) m w (E.vs i) (a.tmps.getD t undef)
 old:∀t,(∀p,p<qs.length->listed.getD (nth qs p) false=true->dV ops (nth qs p)≠some t)->(∀i,i<j->dV ops (nth ss i)≠some t)->bJ B (LB m (E.hs j)) m w (get e t) (a.tmps.getD t undef)
 lst:∀i,i<ss.length->(listed.getD (nth ss i) false=true↔i<j)
 jl:j<=ss.length
 fr:pJ B w0 (LB m (E.hs j)) m w n
variable{T:TrQ P ops nt e h n (opL ops qs hh) e h n}{E:TrE P ops nt e h n (opL ops ss sp) (T.es qs.length) (T.hs qs.length) (T.ns qs.length)}{B:Base}{w0:Ctx fk}{listed:Array Bool}{j:Nat}{a:Act}{w:World}{m:Mm}
theorem gJ.bel{w':World}(hp:gJ P ops nt qs ss hh sp e h n T E B w0 listed j a w m)(hb:Bel w.heap.size w w'):gJ P ops nt qs ss hh sp e h n T E B w0 listed j a w' m:=by
 have hr:B.n<=w.heap.size:=by have:=hp.below.size;have:=hp.base;omega
 have hm:∀x v,bJ B (LB m (E.hs j)) m w x v->bJ B (LB m (E.hs j)) m w' x v:=λx v h=>h.mono (Mm.le.refl m) (λ_ _ x=>x) (λb hl _=>hb.block b hl)
 exact⟨hp.base,hp.below.trans (hb.mono hr),hp.defers,hp.size,hp.heap.below hb,hp.ids,hp.mono,hp.dom,λp t hi hl hd=>hm _ _ (hp.done p t hi hl hd),λi t hi hd=>hm _ _ (hp.u9 i t hi hd),λt h1 h2=>hm _ _ (hp.old t h1 h2),hp.lst,hp.jl,
  hp.fr.mono (Mm.le.refl m) (λ_ _ x=>x) (λb hl _=>hb.block b hl) (bS _)⟩
section
omit [bI]
theorem BL(a6:Closed ops listed){f i k:Nat}(hi:i<ops.size)(hl:listed.getD i false=true)(hr:reach ops f i k=true):listed.getD k false=true:=
 nk a6 f i k ops[i] (du hi) (λe hin hb=>a6 i _ (du hi) hl e hin hb) hr
theorem lI{x:Nat}{o:Oper}(ho:ops[x]?=some o):dV ops x=o.dst:=by simp[dV,ho]
theorem uB{l:List Nat}{d:List (List HS)}(hl:d.length=l.length)(hb:∀i,i<l.length->nth l i<ops.size){i:Nat}{o:Oper}{x:List HS}(ho:(opL ops l d)[i]?=some (o,x)):i<l.length/\ops[nth l i]?=some o/\x=nth d i:=by
 have hi:i<l.length:=by have:=(eX.1 ho).1;rwa [jN hl] at this
 have h1:=je (d:=d) hl hi (du (hb i hi));rw[h1] at ho;simp_all
end
theorem gJ.Jk(hp:gJ P ops nt qs ss hh sp e h n T E B w0 listed j a w m)(hc:pX ops qs ss hh sp)(a6:Closed ops listed){p:Nat}{o:Oper}(a9:p<qs.length)(ho:ops[nth qs p]?=some o)(bn:listed.getD (nth qs p) false=false)(he:∀e∈o.after,Region.binds .any e=true->listed.getD e.on false=true){t:Nat}(ht:t∈jV ops o):bJ B (LB m (E.hs j)) m w (get (T.es p) t) (a.tmps.getD t undef):=by
 rcases uA T.es T.vs (λi o d hi=>(T.step i o d hi).2.2.1) p (by rw[jN hc.hl];omega) t with ⟨q,oq,d,h1,h2,h3,h4⟩|⟨h1,h2⟩
 .obtain⟨hq,a',_⟩:=uB hc.hl hc.qlt h2
  have hd:dV ops (nth qs q)=some t:=by rw[lI a'];exact h3
  rw[h4]
  rcases hc.qq p q t o a9 hq hd ho ht with ⟨_,h⟩|h|⟨h,_⟩
  .exact hp.done q t hq (nk a6 6 _ _ o ho he h) hd
  .omega
  .omega
 .rw[h2,T.e0'];refine hp.old t (λq hq hl hd=>?_) (λi hi hd=>?_)
  .rcases hc.qq p q t o a9 hq hd ho ht with ⟨h,_⟩|h|⟨_,h⟩
   .have a':=du (hc.qlt q hq);exact h1 q _ _ h (je hc.hl hq a') (by rw[<-lI a'];exact hd)
   .simp_all
   .have:=BL a6 (hc.qlt q hq) hl h;rw[bn] at this;cases this
  .have a5:i<ss.length:=lY hi hp.jl;have:=BL a6 (hc.slt i a5) ((hp.lst i a5).2 hi) (hc.sq p i t o a9 a5 hd ho ht);rw[bn] at this;cases this
theorem gJ.Jl(hp:gJ P ops nt qs ss hh sp e h n T E B w0 listed j a w m)(hc:pX ops qs ss hh sp)(a6:Closed ops listed){o:Oper}(b9:j<ss.length)(ho:ops[nth ss j]?=some o)(he:∀e∈o.after,Region.binds .any e=true->listed.getD e.on false=true){t:Nat}(ht:t∈jV ops o):bJ B (LB m (E.hs j)) m w (get (E.es j) t) (a.tmps.getD t undef):=by
 rcases uA E.es E.vs (λi o d hi=>(E.step i o d hi).2.2.1) j (by rw[jN hc.sl];omega) t with ⟨q,oq,d,h1,h2,h3,h4⟩|⟨h1,h2⟩
 .obtain⟨hq,a',_⟩:=uB hc.sl hc.slt h2;rw[h4];exact hp.u9 q t h1 (by rw[lI a'];exact h3)
 .rw[h2,E.e0']
  have b5:∀i,i<j->dV ops (nth ss i)≠some t:=λi hi hd=>by
   have a5:i<ss.length:=lY hi hp.jl;have b4:=du (hc.slt i a5);exact h1 i _ _ hi (je hc.sl a5 b4) (by rw[<-lI b4];exact hd)
  rcases uA T.es T.vs (λi o d hi=>(T.step i o d hi).2.2.1) qs.length (by rw[jN hc.hl];omega) t with ⟨q,oq,d,h1,h2,h3,h4⟩|⟨h1,h2⟩
  .obtain⟨hq,a',_⟩:=uB hc.hl hc.qlt h2
   have hd:dV ops (nth qs q)=some t:=by rw[lI a'];exact h3
   rw[h4];exact hp.done q t hq (nk a6 8 _ _ o ho he (hc.qs' q j t o hq b9 hd ho ht)) hd
  .rw[h2,T.e0'];refine hp.old t (λq hq hl hd=>?_) b5;have a':=du (hc.qlt q hq);exact h1 q _ _ hq (je hc.hl hq a') (by rw[<-lI a'];exact hd)
theorem gJ.frame(hp:gJ P ops nt qs ss hh sp e h n T E B w0 listed j a w m)(hc:pX ops qs ss hh sp){id:Nat}{c:List AV}(hin:(id,c)∈T.hs qs.length):∀i,i<=j->(∀k,k<i->¬id∈fU P e h n (nth sp k))->(id,c)∈E.hs i
 |0,_,_=>by rw[E.hz];exact hin
 |i+1,hi,b5=>by
  have h1:=gJ.frame hp hc hin i ab (λk hk=>b5 k ab);have a5:i<ss.length:=lY ab hp.jl;have b4:=du (hc.slt i a5);obtain⟨_,_,_,h2,h3⟩:=E.step i _ _ (je hc.sl a5 b4)
  cases hg:E.gs i with
  |true=>exact (h2 hg).2.keep (h2 hg).1 h1 (b5 i ab)
  |false=>rw[(h3 hg).2.1];exact h1
theorem gJ.Jm(hp:gJ P ops nt qs ss hh sp e h n T E B w0 listed j a w m)(hc:pX ops qs ss hh sp)(a6:Closed ops listed){p:Nat}(a9:p<qs.length)(bn:listed.getD (nth qs p) false=false){id:Nat}(b5:¬id∈fU P e h n (nth hh p)):∀k,k<j->¬id∈fU P e h n (nth sp k):=by
 intro k hk hin;have bt:k<ss.length:=lY hk hp.jl
 rcases hc.hidden p k a9 bt with h|h
 .have:=BL a6 (hc.slt k bt) ((hp.lst k bt).2 hk) h;rw[bn] at this;cases this
 .obtain⟨s,hs,hin⟩:=vt.1 hin;exact b5 (vt.2 ⟨s,h s hs,hin⟩)
omit [bI] in
theorem Ha{i k:Nat}(hi:i<listed.size):(listed.setIfInBounds i true).getD k false=if i=k then true else listed.getD k false:=by
 split<;>simp_all
theorem gJ.Tt(hp:gJ P ops nt qs ss hh sp e h n T E B w0 listed j a w m)(hc:pX ops qs ss hh sp){p:Nat}{o:Oper}(a9:p<qs.length)(ho:ops[nth qs p]?=some o)(hf:listed[nth qs p]?=some false){v':Value}{w':World}{m':Mm}(b7:dOk nt o.dst)(bl:jg B (E.hs j) m w (T.ns p) (T.Es p).length (T.vs p) v' w' m'):gJ P ops nt qs ss hh sp e h n T E B w0 (listed.setIfInBounds (nth qs p) true) j (a.put o.dst v') w' m':=by
 obtain⟨p1,p2,p3,p4,p5,p6⟩:=bl
 have hB:B.n<=w.heap.size:=by have:=hp.below.size;have:=hp.base;omega
 have hO:bI.ok w:=bI.keep w0.ok aF
 have a4:∀p v,bJ B (LB m (E.hs j)) m w p v->bJ B (LB m' (E.hs j)) m' w' p v:=λp v hr=>hr.mono p1 (λb hb hn hl=>by
  grind) (λb hb _=>p3.block b hb)
 have ay:=(cY.1 hf).1;have b6:dV ops (nth qs p)=o.dst:=lI ho
 have ba:dOk a.tmps.size o.dst:=by rw[hp.size];exact b7
 have bd:listed.getD (nth qs p) false=false:=by rw[dF,hf];rfl
 have dQ:∀k,(listed.setIfInBounds (nth qs p) true).getD k false=if nth qs p=k then true else listed.getD k false:=λk=>Ha ay
 have cu:∀q,q<qs.length->(nth qs p=nth qs q↔q=p):=λq hq=>⟨λh=>(hc.Ts p q a9 hq h).symm,λh=>by rw[h]⟩
 refine⟨hp.base,hp.below.trans (p3.mono hB),by rw[kI];exact hp.defers,by rw[kE];exact hp.size,p4,hp.ids,hp.mono,λid=>?_,λq t hq hl hd=>?_,λi t hi hd=>?_,λt hq hi=>?_,λi hi=>?_,hp.jl,hp.fr.mono p1 (λb hb hn hl=>by
  grind) (λb hb _=>p3.block b hb) (bS _)⟩
 .rw[p2,hp.dom]
  grind
 .rw[o8 ba];by_cases cq:q=p
  .simp_all
  .have aw:nth qs p≠nth qs q:=λh=>cq ((cu q hq).1 h)
   rw[dQ,bP aw] at hl
   have:o.dst≠some t:=λb'=>hc.once _ _ t (hc.qlt p a9) (hc.qlt q hq) aw (by rw[b6];exact b') hd
   rw[bP this];exact a4 _ _ (hp.done q t hq hl hd)
 .rw[o8 ba];have a5:i<ss.length:=lY hi hp.jl
  have:o.dst≠some t:=λb'=>hc.once _ _ t (hc.qlt p a9) (hc.slt i a5) (hc.qne p i a9 a5) (by rw[b6];exact b') hd
  rw[bP this];exact a4 _ _ (hp.u9 i t hi hd)
 .rw[o8 ba];have h1:=hq p a9 (by rw[dQ,b8 rfl]);rw[b6] at h1;rw[bP h1];refine a4 _ _ (hp.old t (λq bf hl=>hq q bf ?_) hi)
  rw[dQ];split<;>simp_all
 .rw[dQ,bP (hc.qne p i a9 hi)];exact hp.lst i hi
theorem gJ.Tu(hp:gJ P ops nt qs ss hh sp e h n T E B w0 listed j a w m)(hc:pX ops qs ss hh sp){o:Oper}(b9:j<ss.length)(ho:ops[nth ss j]?=some o)(hf:listed[nth ss j]?=some false){v':Value}{w':World}{m':Mm}(b7:dOk nt o.dst)(br:∀id c,(id,c)∈E.hs (j+1)->id<E.ns (j+1))(bu:E.ns j<=E.ns (j+1))(bl:EPost B (E.hs j) m w (E.ns j) (E.hs (j+1)) (E.ns (j+1)) (E.vs j) v' w' m'):gJ P ops nt qs ss hh sp e h n T E B w0 (listed.setIfInBounds (nth ss j) true) (j+1) (a.put o.dst v') w' m':=by
 obtain⟨p1,p2,p3,p4,p5,p6,p7⟩:=bl
 have a4:∀p v,bJ B (LB m (E.hs j)) m w p v->bJ B (LB m' (E.hs (j+1))) m' w' p v:=λp v hr=>hr.mono p1 p5 p6
 have ay:=(cY.1 hf).1;have b6:dV ops (nth ss j)=o.dst:=lI ho
 have ba:dOk a.tmps.size o.dst:=by rw[hp.size];exact b7
 have dQ:∀k,(listed.setIfInBounds (nth ss j) true).getD k false=if nth ss j=k then true else listed.getD k false:=λk=>Ha ay
 have c2:∀q,q<qs.length->nth ss j≠nth qs q:=λq hq h=>hc.qne q j hq b9 h.symm
 refine⟨hp.base,hp.below.trans p3,by rw[kI];exact hp.defers,by rw[kE];exact hp.size,p4,br,dJ hp.mono bu,λid=>?_,λq t hq hl hd=>?_,λi t hi hd=>?_,λt hq hi=>?_,λi hi=>?_,ab,hp.fr.mono p1 p5 p6 (bS _)⟩
 .rw[p2,hp.dom];have d5:=hp.mono
  grind
 .rw[o8 ba];rw[dQ,bP (c2 q hq)] at hl
  have:o.dst≠some t:=λb'=>hc.once _ _ t (hc.slt j b9) (hc.qlt q hq) (c2 q hq) (by rw[b6];exact b') hd
  rw[bP this];exact a4 _ _ (hp.done q t hq hl hd)
 .rw[o8 ba];by_cases bi:i=j
  .simp_all
  .have a5:i<ss.length:=ab
   have aw:nth ss j≠nth ss i:=λh=>bi (hc.Jj j i b9 a5 h).symm
   have:o.dst≠some t:=λb'=>hc.once _ _ t (hc.slt j b9) (hc.slt i a5) aw (by rw[b6];exact b') hd
   rw[bP this];exact a4 _ _ (hp.u9 i t ab hd)
 .rw[o8 ba];have h1:=hi j ab;rw[b6] at h1;rw[bP h1];exact a4 _ _ (hp.old t (λq bf hl=>hq q bf (by rw[dQ,bP (c2 q bf)];exact hl)) (λi d2=>hi i ab))
 .rw[dQ];split
  .rename_i heq;have:=hc.Jj j i b9 hi heq;simp;omega
  .rename_i aw;rw[hp.lst i hi]
   have:i≠j:=ak
   omega
theorem O0(hc:pX ops qs ss hh sp){K:Exit->St->Prop}(hK:K .normal ⟨E.es ss.length,E.hs ss.length,E.ns ss.length,nt⟩):∀(f:Nat)(listed:Array Bool)(j:Nat)(a:Act)(w:World)(m:Mm),listed.size=ops.size->Closed ops listed->open_ listed<=f->gJ P ops nt qs ss hh sp e h n T E B w0 listed j a w m->jP w0.r P .any ops (λe a w=>∃st' m',K e st'/\Sim B w0 st' a w m') f listed a w:=by
 have last:∀(listed:Array Bool)(j:Nat)(a:Act)(w:World)(m:Mm),(∀i,i<ops.size->listed.getD i false=true)->gJ P ops nt qs ss hh sp e h n T E B w0 listed j a w m->∃st' m',K .normal st'/\Sim B w0 st' a w m':=by
  intro listed j a w m aa hp
  have hj:j=ss.length:=by
   have:=hp.jl
   rcases fo j ss.length with h1|h1
   .have:=(hp.lst j h1).1 (aa _ (hc.slt j h1));omega
   .omega
  subst hj;refine⟨_,m,hK,hp.base,hp.below,hp.defers,hp.size,λt=>?_,hp.heap,λid=>?_,hp.ids,hp.fr.mono (Mm.le.refl m) (λ_ _ h=>h) (λ_ _ _=>rfl) (by have h1:=T.jW (i:=0) (j:=qs.length) ab (by rw[jN hc.hl];omega);rw[T.n0'] at h1;exact dJ h1 hp.mono)⟩
  .show bJ _ _ _ _ (get (E.es ss.length) t) _
   rcases uA E.es E.vs (λi o d hi=>(E.step i o d hi).2.2.1) ss.length (by rw[jN hc.sl];omega) t with ⟨q,oq,d,h1,h2,h3,h4⟩|⟨h1,h2⟩
   .obtain⟨hq,a',_⟩:=uB hc.sl hc.slt h2;rw[h4];exact hp.u9 q t h1 (by rw[lI a'];exact h3)
   .rw[h2,E.e0']
    have b5:∀i,i<ss.length->dV ops (nth ss i)≠some t:=λi hi hd=>by
     have b4:=du (hc.slt i hi);exact h1 i _ _ hi (je hc.sl hi b4) (by rw[<-lI b4];exact hd)
    rcases uA T.es T.vs (λi o d hi=>(T.step i o d hi).2.2.1) qs.length (by rw[jN hc.hl];omega) t with ⟨q,oq,d,h1,h2,h3,h4⟩|⟨h1,h2⟩
    .obtain⟨hq,a',_⟩:=uB hc.hl hc.qlt h2;rw[h4];exact hp.done q t hq (aa _ (hc.qlt q hq)) (by rw[lI a'];exact h3)
    .rw[h2,T.e0'];refine hp.old t (λq hq hl hd=>?_) b5;have a':=du (hc.qlt q hq);exact h1 q _ _ hq (je hc.hl hq a') (by rw[<-lI a'];exact hd)
  .rw[hp.dom];show _↔id<E.ns ss.length
   have bb:∀i,i<=qs.length->(id<T.ns i↔id<n\/∃j,j<i/\T.ns j<=id/\id<T.ns j+(T.Es j).length):=by
    intro i
    induction i with
    |zero=>intro _;rw[T.n0'];simp
    |succ i ih=>
     intro hi;have b4:=du (hc.qlt i ab);have bg:=(T.step i _ _ (je hc.hl ab b4)).2.2.2.2.1;rw[bg]
     grind
   have h1:=bb qs.length (bS _);have h2:=hp.mono;constructor
   .grind
   .intro h3
    rcases fo id (T.ns qs.length) with h4|h4
    .rcases h1.1 h4 with h5|⟨p,h5,h6⟩
     .exact .inl h5
     .exact .inr (.inl ⟨p,h5,aa _ (hc.qlt p h5),h6⟩)
    omega
 have noready:∀(listed:Array Bool),listed.size=ops.size->(∀i,i<ops.size->listed.getD i false=true)->Region.ready .any ops listed=[]:=by
  intro listed ay aa
  cases hr:Region.ready .any ops listed with
  |nil=>rfl
  |cons x xs=>
   obtain⟨o,ho,hf,_⟩:=om ay (i:=x) (by rw[hr];simp);have:=aa x (cY.1 ho).1;rw[dF,hf] at this;cases this
 intro f
 induction f with
 |zero=>
  intro listed j a w m ay a6 c4 hp
  have aa:∀i,i<ops.size->listed.getD i false=true:=λi hi=>qA (yJ.1 c4) ab
  exact⟨noready listed ay aa,last listed j a w m aa hp⟩
 |succ f ih=>
  intro listed j a w m ay a6 c4 hp;refine⟨λbw=>?_,λx hx=>?_⟩
  .refine last listed j a w m (λi hi=>?_) hp
   cases hq:listed.getD i false with
   |true=>rfl
   |false=>exact absurd bw (rP ay hc.down i hi hq)
  .obtain⟨o,ho,hf,he⟩:=om ay hx;have cw:=(cY.1 ho).1
   have bd:listed.getD x false=false:=by rw[dF,hf];rfl
   unfold lJ;rw[ho];intro w e1;replace hp:=hp.bel (EnvD.ext e1)
   have hB:B.n<=w.heap.size:=by have:=hp.below.size;have:=hp.base;omega
   have hO:bI.ok w:=bI.keep w0.ok aF
   have bj:open_ (listed.setIfInBounds x true)<=f:=by have:=qz hf;omega
   rcases hc.all x cw with ⟨p,a9,rfl⟩|⟨i,a5,rfl⟩
   .obtain⟨b7,hw,_,_,_,bm,bz⟩:=T.step p o _ (je hc.hl a9 ho)
    have aq:∀v' w' m',jg B (E.hs j) m w (T.ns p) (T.Es p).length (T.vs p) v' w' m'->jP w0.r P .any ops (λe a w=>∃st' m',K e st'/\Sim B w0 st' a w m') f (listed.setIfInBounds (nth qs p) true) (a.put o.dst v') w':=by
     intro v' w' m' ao;exact ih _ j _ w' m' ak (a6.set ho he) bj (hp.Tt hc a9 ho hf b7 ao)
    have hlen:=jN (ops:=ops) hc.hl;simp only[Aq hw (λt ht=>hp.Jk hc a6 a9 ho bd he ht)]
    cases hg:T.gs p with
    |true=>
     simp only[cz];obtain⟨c5,cp⟩:=bm hg;refine jK (Is c5) (c5.sound o hO hp.heap hB (λid cs hl=>?_) (λq cs hl=>?_) (λq hq hd=>?_) (λy hy=>?_) _ _ (λv' w' m' ao=>aq v' w' m' ao))
     .obtain⟨h1,h2⟩:=BK hl;exact hp.frame hc (T.uS (i:=p) ab ab h1) j (bS _) (hp.Jm hc a6 a9 bd h2)
     .have bf:=(eX.1 hl).1;refine hp.frame hc (T.uS (i:=p+1) ab ab ?_) j (bS _) (hp.Jm hc a6 a9 bd (G4 cp bf));rw[(T.step p o _ (je hc.hl a9 ho)).2.2.2.1];exact (lD _ _ _ _ _).2 (.inr ⟨q,hl,rfl⟩)
     .have d7:n<=T.ns p:=by have:=T.jW (i:=0) (j:=p) ab ab;rw[T.n0'] at this;exact this
      have d8:=(T.step p o _ (je hc.hl a9 ho)).2.2.2.2.1;have co:=T.jW (i:=p+1) (j:=qs.length) ab ab
      rcases (hp.dom _).1 hd with h1|⟨k,hk,hl,h2,h3⟩|h1
      .omega
      .have d4:k≠p:=by
        grind
       have cv:=(T.step k _ _ (je hc.hl hk (du (hc.qlt k hk)))).2.2.2.2.1
       rcases fo k p with h4|h4
       .have:=T.jW (i:=k+1) (j:=p) ab ab;omega
       .have:=T.jW (i:=p+1) (j:=k) ab ab;omega
      .omega
     .refine ma y (λt e=>?_);subst e;exact hp.Jk hc a6 a9 ho bd he (An hy)
    |false=>
     simp only[dz,cT];obtain⟨h1,h2⟩:=bz hg;refine aq undef w m ?_;rw[h1,h2];exact⟨Mm.le.refl m,λi=>⟨.inl,λh=>h.elim id λh=>ak⟩,Bel.refl _ _,hp.heap,λb hb=>.inl hb,.tup rfl (λj p v hp=>by simp at hp)⟩
   .have bi:i=j:=by
     have h1:¬i<j:=λh=>by
      have:=(hp.lst i a5).2 h;rw[bd] at this;cases this
     rcases fo j i with h2|h2
     .have h3:=nk a6 8 _ _ o ho he (hc.chain j i a5 h2);have:=(hp.lst j ab).1 h3;omega
     .omega
    subst bi;obtain⟨b7,hw,_,bm,bz⟩:=E.step i o _ (je hc.sl a5 ho)
    have aq:∀v' w' m',(∀id c,(id,c)∈E.hs (i+1)->id<E.ns (i+1))->E.ns i<=E.ns (i+1)->EPost B (E.hs i) m w (E.ns i) (E.hs (i+1)) (E.ns (i+1)) (E.vs i) v' w' m'->jP w0.r P .any ops (λe a w=>∃st' m',K e st'/\Sim B w0 st' a w m') f (listed.setIfInBounds (nth ss i) true) (a.put o.dst v') w':=by
     intro v' w' m' h1 h2 ao;exact ih _ (i+1) _ w' m' ak (a6.set ho he) bj (hp.Tu hc a5 ho hf b7 h1 h2 ao)
    simp only[Aq hw (λt ht=>hp.Jl hc a6 a5 ho he ht)]
    cases hg:E.gs i with
    |true=>
     simp only[cz];refine jK (wI (bm hg).2) (FU o (bm hg).2 hO hp.heap hB (λk hk hd=>?_) hp.ids (λy hy=>?_) _ _ (λv v' h' n' w' m' d3 bl hn hh=>?_))
     .have co:=hp.mono
      have d6:n<=T.ns qs.length:=by have:=T.jW (i:=0) (j:=qs.length) ab (by rw[jN hc.hl];omega);rw[T.n0'] at this;exact this
      rcases (hp.dom _).1 hd with h1|⟨q,hq,hl,h2,h3⟩|h1
      .omega
      .have cv:=(T.step q _ _ (je hc.hl hq (du (hc.qlt q hq)))).2.2.2.2.1;have:=T.jW (i:=q+1) (j:=qs.length) ab (by rw[jN hc.hl];omega);omega
      .omega
     .refine ma y (λt e=>?_);subst e;exact hp.Jl hc a6 a5 ho he (An hy)
     grind
    |false=>
     simp only[dz,cT];obtain⟨h1,h2,h3⟩:=bz hg;refine aq undef w m (by rw[h2,h3];exact hp.ids) (by rw[h3];simp) ?_;rw[h1,h2,h3];exact⟨Mm.le.refl m,lC,Bel.refl _ _,hp.heap,λb _ h=>h,λb _ _=>rfl,.tup rfl (λj p v hp=>by simp at hp)⟩
theorem ny{K:Exit->St->Prop}(qs ss:List Nat)(hh sp:List (List HS)){id:Nat}(hm:P.follows .mixedOrders=true)(bq:Dq ops qs ss hh sp=true)(hk:jE P ops nt e h n (opL ops qs hh) e h n λe' h' n'=>lX P ops nt e h n (opL ops ss sp) e' h' n' λc6 c7 cx=>K .normal ⟨c6,c7,cx,nt⟩):cP fk P (.region id ops true) ⟨e,h,n,nt⟩ K:=by
 intro B w0 a w m hs;have hc:=OZ bq;obtain⟨T,hK⟩:=G5 _ _ _ _ hk;rw[jN hc.hl] at hK;obtain⟨E,hK⟩:=G6 _ _ _ _ hK;rw[jN hc.sl] at hK
 refine zE hm λw e1=>?_
 replace hs:=hs.move e1
 have ax:Sim B w0 ⟨e,h,n,nt⟩ a { w with drawn:=w.drawn+1 } m:=by
  have hb:Bel w.heap.size w { w with drawn:=w.drawn+1 }:=(Bel.refl _ _).drew;have hB:=hs.room;exact⟨hs.base,hs.below.trans (hb.mono hB),hs.defers,hs.size,λt=>(hs.env t).mono (Mm.le.refl m) (λ_ _ h=>h) (λb bp _=>hb.block b bp),hs.heap.below hb,hs.dom,hs.ids,hs.fr.mono (Mm.le.refl m) (λ_ _ h=>h) (λb bp _=>hb.block b bp) (bS _)⟩
 have bh:∀i,i<=qs.length->cX B (T.hs i) m { w with drawn:=w.drawn+1 }/\LB m (T.hs i)=LB m h/\(∀id c,(id,c)∈T.hs i->id<T.ns i):=by
  intro i
  induction i with
  |zero=>intro _;rw[T.hz,T.n0'];exact⟨ax.heap,rfl,ax.ids⟩
  |succ i ih=>
   intro hi;obtain⟨h1,h2,h3⟩:=ih ab;have bg:=T.step i _ _ (je hc.hl ab (du (hc.qlt i ab)))
   have hn:n<=T.ns i:=by have:=T.jW (i:=0) (j:=i) ab (by rw[jN hc.hl];omega);rw[T.n0'] at this;exact this
   obtain⟨h4,h5⟩:=wH (T.Es i) (T.hs i) (T.ns i) h1 (λj hj cg=>by have:=(ax.dom j).1 cg;simp only at this;omega) h3;rw[bg.2.2.2.1];refine⟨h4,h5.trans h2,λid c hin=>?_⟩;rw[bg.2.2.2.2.1]
   rcases (lD _ _ _ _ _).1 hin with h6|⟨q,h6,rfl⟩
   .have:=h3 id c h6;omega
   .have:=(eX.1 h6).1;omega
 obtain⟨h1,h2,h3⟩:=bh qs.length (bS _)
 have hf:∀i,(Array.replicate ops.size false).getD i false=false:=by
  intro i;rw[dF,yK]
  split<;>rfl
 refine O0 hc hK ops.size _ 0 a _ m ae (λi o ho hl=>by rw[hf] at hl;cases hl) ?_ ⟨ax.base,ax.below,ax.defers,ax.size,by rw[E.hz];exact h1,by rw[E.hz,E.n0'];exact h3,by rw[E.n0'];exact bS _,λid=>?_,
  (λp t hp hl=>by rw[hf] at hl;cases hl),(λi t hi=>ab),λt _ _=>?_,λi _=>?_,cG _,by rw[E.hz,h2];exact ax.fr⟩
 .unfold open_;refine dJ List.countP_le_length ?_;simp
 .rw[ax.dom,E.n0'];constructor
  .exact .inl
  .rintro (h|⟨i,_,hl,_⟩|h)
   .exact h
   .rw[hf] at hl;cases hl
   .omega
 .rw[E.hz,h2];exact ax.env t
 simp_all
end
section
variable{P:Program}{ops:Array Oper}{nt:Nat}{e0:Env}{h0:bE}{n0:Nat}
@[congr] theorem Yl{os:List (Oper×List HS)}{e e':Env}{h h':bE}{n n':Nat}{K:Env->bE->Nat->Prop}(h1:e=e')(h2:h=h')(h3:n=n'):jE P ops nt e0 h0 n0 os e h n K=jE P ops nt e0 h0 n0 os e' h' n' K:=by rw[h1,h2,h3]
@[congr] theorem Ym{os:List (Oper×List HS)}{e e':Env}{h h':bE}{n n':Nat}{K:Env->bE->Nat->Prop}(h1:e=e')(h2:h=h')(h3:n=n'):lX P ops nt e0 h0 n0 os e h n K=lX P ops nt e0 h0 n0 os e' h' n' K:=by rw[h1,h2,h3]
section
omit [bI]
@[simp]theorem Yn(e:Env)(h:bE)(n:Nat):fU P e h n []=[]:=rfl
@[simp]theorem Yo(e:Env)(h:bE)(n k:Nat)(l:List HS):fU P e h n (.new k::l)=qZ P e h n (.new k)::fU P e h n l:=rfl
@[simp]theorem Yp(e:Env)(h:bE)(n t:Nat)(l:List HS):fU P e h n (.slot t::l)=qZ P e h n (.slot t)::fU P e h n l:=rfl
@[simp]theorem Yq(e:Env)(h:bE)(n t s f:Nat)(l:List HS):fU P e h n (.fld t s f::l)=qZ P e h n (.fld t s f)::fU P e h n l:=rfl
@[simp]theorem Yr(e:Env)(h:bE)(n:Nat)(l:List HS):fU P e h n (.all::l)=List.range n++fU P e h n l:=rfl
@[simp]theorem Ys(e:Env)(h:bE)(n k:Nat):qZ P e h n (.new k)=n+k:=rfl
@[simp]theorem Yt(e:Env)(h:bE)(n t:Nat):qZ P e h n (.slot t)=qY (get e t):=rfl
@[simp]theorem Yu(e:Env)(h:bE)(n t s f:Nat):qZ P e h n (.fld t s f)=idF h (get e t) (fOf P s f):=rfl
@[simp]theorem Yv(a b c:Nat):qY (.ptr a b c)=a:=rfl
@[simp]theorem Yw(a b c d e:Nat):qY (.msl a b c d e)=a:=rfl
@[simp]theorem Yx(o f:Bool)(p:PV):qY (.w o f p)=1000000007:=rfl
end
attribute [simp] idF
section
omit [bI]
theorem Hb:∀h:bE,iF [] h=h
 |[]=>rfl
 |(k,v)::r=>by simp[iF,Hb r]
@[simp]theorem Yy(D:List Nat):iF D []=[]:=rfl
theorem Hc(D:List Nat)(k:Nat)(v:List AV)(r:bE):iF D ((k,v)::r)=if k∈D then iF D r else (k,v)::iF D r:=rfl
@[simp]theorem Yz{D:List Nat}{k:Nat}(v:List AV)(r:bE)(h:k∈D):iF D ((k,v)::r)=iF D r:=by rw[Hc,b8 h]
@[simp]theorem YA{D:List Nat}{k:Nat}(v:List AV)(r:bE)(h:¬k∈D):iF D ((k,v)::r)=(k,v)::iF D r:=by rw[Hc,bP h]
@[simp]theorem YB(D:List Nat)(n:Nat):mW D n []=True:=rfl
@[simp]theorem YC(D:List Nat)(n:Nat)(c:List AV)(E:List (List AV)):mW D n (c::E)=(¬n∈D/\mW D (n+1) E):=rfl
theorem Hd:∀(n:Nat)(E:List (List AV)),mW [] n E=True
 |_,[]=>rfl
 |n,_::E=>by simp[mW,Hd (n+1) E]
@[simp]theorem YD(a b c:Nat)(D:List Nat):yc (.ptr a b c) D=(a∈D):=rfl
end
attribute [simp] te
section
omit [bI]
@[simp]theorem YE(env:Env)(t:TypeId)(ad x:Operand)(D:List Nat):touch env (.store t ad x) D=yc (ev env ad) D:=rfl
@[simp]theorem YF(env:Env)(args:Array Operand)(tys:Array TypeId)(D:List Nat):touch env (.call ⟨.builtin .append,args,tys⟩) D=te env args.toList D:=rfl
@[simp]theorem YG(env:Env)(f:Operand)(args:Array Operand)(tys:Array TypeId)(D:List Nat):touch env (.call ⟨.value f,args,tys⟩) D=True:=rfl
@[simp]theorem YH(env:Env)(args:Array Operand)(tys:Array TypeId)(D:List Nat):touch env (.call ⟨.builtin .len,args,tys⟩) D=True:=rfl
@[simp]theorem YI(env:Env)(x:Operand)(D:List Nat):touch env (.assign x) D=True:=rfl
@[simp]theorem YJ(env:Env)(x:Operand)(D:List Nat):touch env (.move x) D=True:=rfl
@[simp]theorem YK(env:Env)(o:BinOp)(t:TypeId)(x y:Operand)(u:TypeId)(D:List Nat):touch env (.binOp o t x y u) D=True:=rfl
@[simp]theorem YL(env:Env)(t:TypeId)(x:Operand)(D:List Nat):touch env (.load t x) D=True:=rfl
@[simp]theorem YM(env:Env)(t:TypeId)(D:List Nat):touch env (.alloc t) D=True:=rfl
@[simp]theorem YN(env:Env)(t:TypeId)(x:Operand)(D:List Nat):touch env (.box t x) D=True:=rfl
@[simp]theorem YO(env:Env)(t:TypeId)(x:Operand)(f:Nat)(D:List Nat):touch env (.fieldAddr t x f) D=True:=rfl
@[simp]theorem YP(env:Env)(t:TypeId)(x i:Operand)(D:List Nat):touch env (.indexAddr t x i) D=True:=rfl
@[simp]theorem YQ(env:Env)(x:Operand)(i:Nat)(D:List Nat):touch env (.extract x i) D=True:=rfl
@[simp]theorem YR(env:Env)(a b:TypeId)(x:Operand)(D:List Nat):touch env (.convert a b x) D=True:=rfl
@[simp]theorem YS(env:Env)(t:TypeId)(x:Operand)(l u m:Option Operand)(D:List Nat):touch env (.slice t x l u m) D=True:=rfl
@[simp]theorem YT(env:Env)(t:TypeId)(p:Array (Nat×Operand))(D:List Nat):touch env (.build t p) D=True:=rfl
@[simp]theorem YU(env:Env)(t:TypeId)(x:Operand)(f:Nat)(D:List Nat):touch env (.field t x f) D=True:=rfl
@[simp]theorem YV(env:Env)(x:Operand)(D:List Nat):touch env (.nilCheck x) D=True:=rfl
@[simp]theorem YX(env:Env)(c x y:Operand)(D:List Nat):touch env (.pick c x y) D=True:=rfl
@[simp]theorem YY(i:Nat)(l:List Nat)(d:List HS)(ds:List (List HS)):opL ops (i::l) (d::ds)=(ye ops i,d)::opL ops l ds:=rfl
@[simp]theorem YZ:opL ops [] []=[]:=rfl
@[simp]theorem Y0(l:List Oper)(i:Nat):ye l.toArray i=pY l i:=rfl
@[simp]theorem Y1(o:Oper)(r:List Oper):pY (o::r) 0=o:=rfl
@[simp]theorem Y2(o:Oper)(r:List Oper)(k:Nat):pY (o::r) (k+1)=pY r k:=rfl
end
variable{env:Env}{h:bE}{n:Nat}
@[simp ↓]theorem Y3(K:Env->bE->Nat->Prop):jE P ops nt e0 h0 n0 [] env h n K=K env h n:=rfl
@[simp ↓]theorem Y4(K:Env->bE->Nat->Prop):lX P ops nt e0 h0 n0 [] env h n K=K env h n:=rfl
section
variable{dst:Option Tmp}{op:Op}{ty:TypeId}{pos:String}{after:Array Edge}{j:Nat}{want:Bool}{d:HS}{ds:List HS}{os:List (Oper×List HS)}{K:Env->bE->Nat->Prop}
@[simp ↓]theorem Y5:jE P ops nt e0 h0 n0 ((⟨dst,op,ty,pos,after,none⟩,[])::os) env h n K=(dOk nt dst/\dk P env h n op λv E=>jE P ops nt e0 h0 n0 os (put env dst v) (cV h n E) (n+E.length) K):=by
 simp[jE,gj,Hb,Hd]
@[simp ↓]theorem Y6:jE P ops nt e0 h0 n0 ((⟨dst,op,ty,pos,after,none⟩,d::ds)::os) env h n K=(dOk nt dst/\dk P env (iF (fU P e0 h0 n0 (d::ds)) h) n op λv E=>mW (fU P e0 h0 n0 (d::ds)) n E/\jE P ops nt e0 h0 n0 os (put env dst v) (cV h n E) (n+E.length) K):=by
 simp[jE,gj]
@[simp ↓]theorem Y7{ds:List HS}:lX P ops nt e0 h0 n0 ((⟨dst,op,ty,pos,after,none⟩,ds)::os) env h n K=(dOk nt dst/\touch env op (fU P e0 h0 n0 ds)/\dp P env h n op λv h' n'=>lX P ops nt e0 h0 n0 os (put env dst v) h' n' K):=by
 simp[lX,gj]
end
end
def pk(c:Option (List AV))(k:Nat)(r:bE):bE:=match c with|some c=>(k,c)::r|none=>r
omit [bI] in
@[simp]theorem Y8(c:List AV)(k:Nat)(r:bE):pk (some c) k r=(k,c)::r:=rfl
def iR(h:bE):List Nat->bE
 |[]=>[]
 |k::ks=>pk (cJ h k) k (iR h ks)
omit [bI] in
@[simp]theorem Y9(h:bE):iR h []=[]:=rfl
omit [bI] in
@[simp]theorem Za(h:bE)(k:Nat)(ks:List Nat):iR h (k::ks)=pk (cJ h k) k (iR h ks):=rfl
theorem fp{P:Program}{K:Exit->St->Prop}{c:Code}{id:Nat}{env:Env}{h:bE}{n nt:Nat}{α β:Type}(J:α->Prop)(ks:List Nat)(mods:α->Env)(bk:List Nat)(hm:α->bE)(μ:α->Nat)(F:β->Prop)(fks:List Nat)(fmods:β->Env)(fhks:List Nat)(fhm:β->bE)(x0:α)(hJ:J x0)(h0:tc env n (mods x0++gA env ks))(h1:qW h n (hm x0++iR h bk))(round:∀x,J x->cP fk P c ⟨mods x++gA env ks,hm x++iR h bk,n,nt⟩ (lN fk J (λx=>⟨mods x++gA env ks,hm x++iR h bk,n,nt⟩) μ x (oO fk id F (λy=>⟨fmods y++gA env fks,fhm y++iR h fhks,n,nt⟩) K)))(after:∀y,F y->K .normal ⟨fmods y++gA env fks,fhm y++iR h fhks,n,nt⟩):cP fk P (.block id (.loop c)) ⟨env,h,n,nt⟩ K:=
 xx J ks mods (λx=>hm x++iR h bk) μ F fks fmods (λy=>fhm y++iR h fhks) x0 hJ h0 h1 round after
end Go.Fi
