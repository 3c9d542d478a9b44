/- Lemmas. -/
import Derived.Test.YthpkmilhiganjaaGreatPAa
import Derived.Conc.Beside
set_option linter.all false
set_option maxHeartbeats 32000000
set_option maxRecDepth 100000
namespace Go.Fc
open Go
structure Cx where
 code:Code->Prop
 fn:Nat->Prop
 xf:Nat->Prop
def okO(C:Cx):Obj->Prop
 |.cells .. | .map .. | .number ..=>True
 |.deferred (some []) | .deferred none=>True
 |.loop l=>C.code l.assign/\C.code l.body/\C.fn l.fn/\∀c,l.pending=some c->C.code c
 |_=>False
def jC(b:Nat):Obj->Obj
 |.view _ u=>.view ⟨b,0,none⟩ u
 |.chan ..=>.chan 0 #[] false 0 0 false
 |_=>.coro none
def rH:Halt->Prop
 |.panic _ | .stuck _=>True
 |.unsupported (.initOrder _)=>False
 |.unsupported _=>True
 |_=>False
def ND(w:World):Prop:=∀(b:Nat)(ds:List Deferred),w.heap[b]?=some (Obj.deferred (some ds))->ds=[]
def oX{α:Type}(w:World):Result α->Prop
 |.halt h w'=>rH h/\(ND w->ND w')
 |.ok _ _=>False
def NP(w:World):Prop:=∀(b:Nat)(c:Array Value)(e:TypeId),w.heap[b]?≠some (Obj.pending c e)
inductive RT(P P':Program)(C:Cx){α:Type}(D:α->Prop)(Q:α->α->Prop):Sem α->Sem α->Prop
 |pure (a b:α):Q a b->RT P P' C D Q (.pure a) (.pure b)
 |nS (a:α) (t:Sem α):D a->RT P P' C D Q (.pure a) t
 |bad (s t:Sem α):(∀w es,NP w->oX w (s.runT P w es).1)->RT P P' C D Q s t
 |load (a:Addr) (k k':Value->Sem α):(∀v,RT P P' C D Q (k v) (k' v))->RT P P' C D Q (.load .plain a k) (.load .plain a k')
 |store (a:Addr) (v:Value) (k k':Sem α):RT P P' C D Q k k'->RT P P' C D Q (.store .plain a v k) (.store .plain a v k')
 |new (o:Obj) (k k':Nat->Sem α):okO C o->(∀r,RT P P' C D Q (k r) (k' r))->RT P P' C D Q (.new o k) (.new o k')
 |oY (o:Obj) (s t:Sem α) (k k':Nat->Sem α):okO C o->(∀p w es,s.runT p w es=(k w.heap.size).runT p { w with heap:=w.heap.push o } es)->(∀p w es,t.runT p w es=(k' w.heap.size).runT p { w with heap:=w.heap.push o } es) ->
   (∀r,RT P P' C D Q (k r) (k' r))->RT P P' C D Q s t
 |shape (r:Nat) (k k':Option (TypeId×Nat)->Sem α):(∀x,RT P P' C D Q (k x) (k' x))->(∀e n,RT P P' C D Q (k (some (e,0))) (k' (some (e,n)))) ->
   RT P P' C D Q (.shape r k) (.shape r k')
 |frozen (a:Addr) (k k':Bool->Sem α):(∀x,RT P P' C D Q (k x) (k' x))->RT P P' C D Q (.frozen a k) (.frozen a k')
 |getObj (r:Nat) (k k':Obj->Sem α):(∀o,okO C o->RT P P' C D Q (k o) (k' o))->(∀o,¬okO C o->RT P P' C D Q (k (jC r o)) (k' o)) ->
   RT P P' C D Q (.getObj r k) (.getObj r k')
 |setObj (r:Nat) (o:Obj) (k k':Sem α):okO C o->RT P P' C D Q k k'->RT P P' C D Q (.setObj r o k) (.setObj r o k')
 |choose (q:Question) (k k':Nat->Sem α):(∀n,RT P P' C D Q (k n) (k' n))->RT P P' C D Q (.choose q k) (.choose q k')
 |program (k k':Program->Sem α):RT P P' C D Q (k P) (k' P')->RT P P' C D Q (.program k) (.program k')
 |mark (k k':Sem α):RT P P' C D Q k k'->RT P P' C D Q (.mark .noRoom k) (.mark .noRoom k')
section
variable{P P':Program}{C:Cx}{α β:Type}
theorem RT.mono{s t:Sem α}{D D':α->Prop}{Q Q':α->α->Prop}(h:RT P P' C D Q s t)(hd:∀a,D a->D' a)(hq:∀a b,Q a b->Q' a b):RT P P' C D' Q' s t:=by
 induction h with
 |pure a b h=>exact .pure a b (hq a b h)
 |nS a t h=>exact .nS a t (hd a h)
 |bad s t h=>exact .bad s t h
 |load a k k' _ ih=>exact .load a k k' ih
 |store a v k k' _ ih=>exact .store a v k k' ih
 |new o k k' ho _ ih=>exact .new o k k' ho ih
 |oY o s t k k' ho hs ht _ ih=>exact .oY o s t k k' ho hs ht ih
 |shape r k k' _ _ ih1 ih2=>exact .shape r k k' ih1 ih2
 |frozen a k k' _ ih=>exact .frozen a k k' ih
 |getObj r k k' _ _ ih1 ih2=>exact .getObj r k k' ih1 ih2
 |setObj r o k k' ho _ ih=>exact .setObj r o k k' ho ih
 |choose q k k' _ ih=>exact .choose q k k' ih
 |program k k' _ ih=>exact .program k k' ih
 |mark k k' _ ih=>exact .mark k k' ih
theorem RT.halt{h:Halt}(hc:rH h)(t:Sem α){D:α->Prop}{Q:α->α->Prop}:RT P P' C D Q (.halt h) t:=.bad _ _ λw es _=>⟨hc,id⟩
theorem RT.bind{s t:Sem α}{f g:α->Sem β}{M:α->α->Prop}{D:β->Prop}{Q:β->β->Prop}(h:RT P P' C (λ_=>False) M s t)(hf:∀a b,M a b->RT P P' C D Q (f a) (g b)):RT P P' C D Q (s.bind f) (t.bind g):=by
 induction h with
 |pure a b h=>exact hf a b h
 |nS a t h=>exact h.elim
 |bad s t h=>
  refine .bad _ _ λw es hn=>?_
  have hx:=h w es hn;rw[Sem.runT_bind']
  rcases hr:s.runT P w es with ⟨r,h5⟩
  rw[hr] at hx
  cases r with
  |ok a0 w0=>exact hx.elim
  |halt h0 w0=>exact hx
 |load a k k' _ ih=>exact .load a _ _ ih
 |store a v k k' _ ih=>exact .store a v _ _ ih
 |new o k k' ho _ ih=>exact .new o _ _ ho ih
 |oY o s t k k' ho hs ht _ ih=>exact .oY o _ _ (λr=>(k r).bind f) (λr=>(k' r).bind g) ho (λp w es=>by rw[Sem.runT_bind',Sem.runT_bind',hs]) (λp w es=>by rw[Sem.runT_bind',Sem.runT_bind',ht]) ih
 |shape r k k' _ _ ih1 ih2=>exact .shape r _ _ ih1 ih2
 |frozen a k k' _ ih=>exact .frozen a _ _ ih
 |getObj r k k' _ _ ih1 ih2=>exact .getObj r _ _ ih1 ih2
 |setObj r o k k' ho _ ih=>exact .setObj r o _ _ ho ih
 |choose q k k' _ ih=>exact .choose q _ _ ih
 |program k k' _ ih=>exact .program _ _ ih
 |mark k k' _ ih=>exact .mark _ _ ih
end
structure Sh where
 dead:Nat->Prop
 part:Nat->Nat->Prop
 old:Nat->Obj->Prop
def Sh.fj(S:Sh)(e:Event):Prop:=∀a,e.loc=.cell a->¬S.part a.block a.off
structure Lk(C:Cx)(S:Sh)(A B:World):Prop where
 size:A.heap.size=B.heap.size
 low:∀b,S.dead b->b<A.heap.size
 same:∀b,¬S.dead b->(A.heap[b]?=B.heap[b]?/\∀o,A.heap[b]?=some o->okO C o)\/(∃o,B.heap[b]?=some o/\¬okO C o/\A.heap[b]?=some (jC b o)/\S.old b o) \/
  ∃cA cB e fr,A.heap[b]?=some (.cells cA e fr)/\B.heap[b]?=some (.cells cB e fr)/\cA.size=cB.size/\∀i,¬S.part b i->cA[i]?=cB[i]?
 dead:∀b,S.dead b->∃c e fr,A.heap[b]?=some (.cells #[] e fr)/\B.heap[b]?=some (.cells c e fr)
 os:A.os=B.os
 output:A.output=B.output
def EvT(S:Sh)(w:World)(e:Event):Prop:=
 (∃a wr,e=⟨.cell a,wr,false⟩/\(∃c ty fr,w.heap[a.block]?=some (.cells c ty fr))/\¬S.dead a.block)\/(∃r wr sy,e=⟨.obj r,wr,sy⟩/\r<w.heap.size/\¬S.dead r)\/e=⟨.mark .noRoom,false,true⟩
theorem Dl{w:World}{a:Addr}{v:Value}(h:w.cell? a=some v):∃c ty fr,w.heap[a.block]?=some (.cells c ty fr):=by
 unfold World.cell? at h
 grind
section
variable{P P':Program}{C:Cx}{S:Sh}{A B:World}
theorem Lk.HV(h:Lk C S A B){b:Nat}{c:Array Value}{e:TypeId}{f:Nat×Nat}(hS:¬S.dead b)(hb:A.heap[b]?=some (.cells c e f)):∃cB,B.heap[b]?=some (.cells cB e f)/\c.size=cB.size/\∀i,¬S.part b i->c[i]?=cB[i]?:=by
 rcases h.same b hS with ⟨e,_⟩|⟨o',h1,h2,h3,_⟩|⟨cA,cB,e,f,h1,h2,h3,h4⟩
 .exact⟨c,by rw[<-e];exact hb,rfl,λ_ _=>rfl⟩
 .rw[h3] at hb
  cases o'<;>first|exact absurd trivial h2|cases hb
 simp_all
theorem Lk.cell0(h:Lk C S A B){a:Addr}{v:Value}(hc:A.cell? a=some v):¬S.dead a.block/\a.block<A.heap.size/\∃u,B.cell? a=some u/\(¬S.part a.block a.off->u=v):=by
 have hn:¬S.dead a.block:=by
  intro hs;obtain⟨c,e,fr,h1,_⟩:=h.dead _ hs;simp[World.cell?,h1] at hc
 rcases hx:A.heap[a.block]? with _|o
 .simp[World.cell?,hx] at hc
 refine⟨hn,(cT.1 hx).1,?_⟩;unfold World.cell? at hc ⊢;rw[hx] at hc
 cases o<;>first|cases hc|skip
 obtain⟨cB,h1,h2,h3⟩:=h.HV hn hx;rw[h1]
 grind
theorem Lk.cell(h:Lk C S A B){a:Addr}{v:Value}(hc:A.cell? a=some v)(hp:¬S.part a.block a.off):¬S.dead a.block/\a.block<A.heap.size/\B.cell? a=some v:=
 let ⟨h1,h2,u,h3,h4⟩:=h.cell0 hc;⟨h1,h2,h4 hp▸h3⟩
theorem Lk.np(h:Lk C S A B):NP A:=by
 intro b c e hb;by_cases hS:S.dead b
 .obtain⟨c',e',fr,h1,_⟩:=h.dead _ hS;rw[hb] at h1;cases h1
 .rcases h.same _ hS with ⟨_,ho⟩|⟨o,h1,h2,h3,_⟩|⟨_,_,_,_,h1,_⟩
  .exact ho _ hb
  .rw[hb] at h3
   cases o<;>simp[jC] at h3
  simp_all
theorem Lk.nd(h:Lk C S A B):ND A:=by
 intro b ds hb;by_cases hS:S.dead b
 .obtain⟨c',e',fr,h1,_⟩:=h.dead _ hS;rw[hb] at h1;cases h1
 .rcases h.same _ hS with ⟨_,ho⟩|⟨o,h1,h2,h3,_⟩|⟨_,_,_,_,h1,_⟩
  .have:=ho _ hb
   cases ds with
   |nil=>rfl
   |cons d r=>exact this.elim
  .rw[hb] at h3
   cases o<;>simp[jC] at h3
  simp_all
theorem Lk.frozen(h:Lk C S A B)(a:Addr):B.frozen? a=A.frozen? a:=by
 unfold World.frozen?;by_cases hS:S.dead a.block
 .obtain⟨c,e,fr,h1,h2⟩:=h.dead _ hS;rw[h1,h2]
 .rcases h.same _ hS with ⟨e,_⟩|⟨o,h1,h2,h3,_⟩|⟨_,_,_,_,h1,h2,_⟩
  .rw[e]
  .rw[h1,h3]
   cases o<;>first|rfl|exact absurd trivial h2
  grind
theorem Lk.shape(h:Lk C S A B)(r:Nat):A.shape? r=B.shape? r\/∃e n,A.shape? r=some (e,0)/\B.shape? r=some (e,n):=by
 unfold World.shape?;by_cases hS:S.dead r
 .obtain⟨c,e,fr,h1,h2⟩:=h.dead _ hS;rw[h1,h2];simp
 .rcases h.same _ hS with ⟨e,_⟩|⟨o,h1,h2,h3,_⟩|⟨_,_,_,_,h1,h2,h3,_⟩
  .rw[e];exact .inl rfl
  .rw[h1,h3]
   cases o<;>first|exact .inl rfl|exact absurd trivial h2
  simp_all
theorem Lk.push(h:Lk C S A B){o:Obj}(ho:okO C o):Lk C S { A with heap:=A.heap.push o } { B with heap:=B.heap.push o }:=by
 refine⟨by simp[h.size],λb hb=>by have:=h.low b hb;simp;omega,λb hb=>?_,λb hb=>?_,h.os,h.output⟩
 .simp only[pL,h.size];split
  .simp_all
  .exact h.same b hb
 .have:=h.low b hb;obtain⟨c,e,fr,h1,h2⟩:=h.dead _ hb
  grind
theorem Lk.set(h:Lk C S A B){r:Nat}(hr:¬S.dead r){o:Obj}(ho:okO C o):Lk C S { A with heap:=A.heap.setIfInBounds r o } { B with heap:=B.heap.setIfInBounds r o }:=by
 refine⟨by simp[h.size],λb hb=>by simpa using h.low b hb,λb hb=>?_,λb hb=>?_,h.os,h.output⟩
 .simp only[iX,h.size];split
  .simp_all
  .exact h.same b hb
 .have hw:r≠b:=λe=>hr (e▸hb)
  simp only[iX,bN hw];exact h.dead b hb
theorem Lk.setCell(h:Lk C S A B){a:Addr}{u:Value}(hc:A.cell? a=some u)(v:Value):Lk C S (A.setCell a v) (B.setCell a v):=by
 obtain⟨hn,hg,_⟩:=h.cell0 hc;refine⟨by simp[World.setCell,h.size],λb hb=>by simpa[World.setCell] using h.low b hb,λb hb=>?_,λb hb=>?_,h.os,h.output⟩
 .simp only[World.setCell,fB];split
  .rename_i e;subst e
   rcases hx:A.heap[a.block]? with _|o
   .simp_all
   .cases o<;>simp[World.cell?,hx] at hc
    obtain⟨cB,h1,h2,h3⟩:=h.HV hn hx;rw[h1]
    grind
  .exact h.same b hb
 .have hw:a.block≠b:=λe=>hn (e▸hb)
  simp only[World.setCell,fB,bN hw];exact h.dead b hb
theorem Lk.far(h:Lk C S A B)(p:Program)(a:Addr)(at_:Bool):∃e,A.farLoad p a at_=.error e:=by
 unfold World.farLoad
 rcases hx:A.heap[a.block]? with _|o
 .simp
 .cases o<;>first|exact⟨_,rfl⟩|skip
  rename_i v u
  have hv:v.block=a.block:=by
   by_cases hS:S.dead a.block
   .obtain⟨c,e,fr,h1,_⟩:=h.dead _ hS;rw[hx] at h1;cases h1
   .rcases h.same _ hS with ⟨_,ho⟩|⟨o,h1,h2,h3,_⟩|⟨_,_,_,_,h1,_⟩
    .exact (ho _ hx).elim
    .rw[hx] at h3
     cases o<;>simp[jC] at h3
     rw[h3.1]
    .rw[hx] at h1;cases h1
  have hs:∀k,∃e,A.seen p v u k at_=.error e:=λk=>by
   rcases hy:A.seen p v u k at_ with e|x
   .exact⟨e,rfl⟩
   .exfalso;unfold World.seen at hy;rw[hv,hx] at hy;simp only[bind,Except.bind,throw,throwThe,MonadExceptOf.throw,pure,Except.pure] at hy
    repeat' split at hy
    all_goals first|cases hy|skip
  obtain⟨e,he⟩:=hs a;simp only[World.viewLoad,he,bind,Except.bind];simp
theorem Lk.BB(h:Lk C S A B)(p:Program)(a:Addr)(v:Value)(at_:Bool):∃e,A.farStore p a v at_=.error e:=by
 unfold World.farStore
 rcases hx:A.heap[a.block]? with _|o
 .simp
 .cases o<;>first|exact⟨_,rfl⟩|skip
  rename_i w u
  have hv:w.block=a.block:=by
   by_cases hS:S.dead a.block
   .obtain⟨c,e,fr,h1,_⟩:=h.dead _ hS;rw[hx] at h1;cases h1
   .rcases h.same _ hS with ⟨_,ho⟩|⟨o,h1,h2,h3,_⟩|⟨_,_,_,_,h1,_⟩
    .exact (ho _ hx).elim
    .rw[hx] at h3
     cases o<;>simp[jC] at h3
     rw[h3.1]
    simp_all
  have hs:∀k,∃e,A.seen p w u k at_=.error e:=λk=>by
   rcases hy:A.seen p w u k at_ with e|x
   .simp
   .exfalso;unfold World.seen at hy;rw[hv,hx] at hy;simp only[bind,Except.bind,throw,throwThe,MonadExceptOf.throw,pure,Except.pure] at hy
    repeat' split at hy
    all_goals first|cases hy|skip
  obtain⟨e,he⟩:=hs a
  rcases hz:A.viewStore p w u a v at_ with e|x
  .simp_all
  .exfalso;unfold World.viewStore at hz;simp only[he,bind,Except.bind,throw,throwThe,MonadExceptOf.throw,pure,Except.pure] at hz
   grind
structure Kept(es:Array Event)(B B':World):Prop where
 os:B'.os=B.os
 output:B'.output=B.output
 size:B.heap.size<=B'.heap.size
 obj:∀b,b<B.heap.size->((∀c ty fr,B.heap[b]?≠some (.cells c ty fr))\/∀e∈es,e.write=true->∀a,e.loc=.cell a->a.block≠b)->(∀e∈es,e.write=true->e.loc≠.obj b)->B'.heap[b]?=B.heap[b]?
 cell:∀b c ty fr,B.heap[b]?=some (.cells c ty fr)->∃c',B'.heap[b]?=some (.cells c' ty fr)/\c'.size=c.size/\∀i,(∀e∈es,e.write=true->∀a,e.loc=.cell a->a.block=b->a.off≠i)->c'[i]?=c[i]?
theorem EvT.mono{S:Sh}{es:Array Event}{w w':World}{e:Event}(h:EvT S w e)(k:Kept es w w'):EvT S w' e:=by
 rcases h with ⟨a,wr,rfl,⟨c,ty,fr,h1⟩,h2⟩|⟨r,wr,sy,rfl,h1,h2⟩|rfl
 .obtain⟨c',h3,_⟩:=k.cell _ c ty fr h1;exact .inl ⟨a,wr,rfl,⟨c',ty,fr,h3⟩,h2⟩
 .exact .inr (.inl ⟨r,wr,sy,rfl,lO h1 k.size,h2⟩)
 .exact .inr (.inr rfl)
theorem Kept.refl(es:Array Event)(B:World):Kept es B B:=⟨rfl,rfl,bU _,λ_ _ _ _=>rfl,λb c ty fr h=>⟨c,h,rfl,λ_ _=>rfl⟩⟩
theorem Kept.trans{e n:Array Event}{B B1 B2:World}(h:Kept e B B1)(k:Kept n B1 B2):Kept (e++n) B B2:=by
 refine⟨k.os.trans h.os,k.output.trans h.output,dN h.size k.size,λb hb h1 h2=>?_,λb c ty fr hc=>?_⟩
 .have e1:=h.obj b hb (h1.imp id λh1 x hx=>h1 x (Jj _ hx)) (λx hx=>h2 x (Jj _ hx));exact (k.obj b (lO hb h.size) (h1.imp (λh1=>by rw[e1];exact h1) λh1 x hx=>h1 x (Jk _ hx)) (λx hx=>h2 x (Jk _ hx))).trans e1
 .obtain⟨c1,a1,a2,a3⟩:=h.cell b c ty fr hc;obtain⟨c2,b1,b2,b3⟩:=k.cell b c1 ty fr a1
  grind
theorem Kept.draw(B:World)(d:Nat):Kept #[] B { B with drawn:=d }:=⟨rfl,rfl,bU _,λ_ _ _ _=>rfl,λb c ty fr h=>⟨c,h,rfl,λ_ _=>rfl⟩⟩
theorem Kept.push(B:World)(o:Obj):Kept #[] B { B with heap:=B.heap.push o }:=by
 have e:∀b,b<B.heap.size->(B.heap.push o)[b]?=B.heap[b]?:=λb hb=>by rw[pL,bN ab]
 exact⟨rfl,rfl,ae,λb hb _ _=>e b hb,λb c ty fr h=>⟨c,(e b (cT.1 h).1).trans h,rfl,λ_ _=>rfl⟩⟩
theorem Kept.setCell(B:World)(a:Addr)(v:Value)(sy:Bool):Kept #[⟨.cell a,true,sy⟩] B (B.setCell a v):=by
 refine⟨rfl,rfl,ae,λb hb h1 h2=>?_,λb c ty fr h=>?_⟩
 .rcases h1 with h1|h1
  .by_cases hh:a.block=b
   .subst hh
    rcases hx:B.heap[a.block]? with _|o
    .simp_all
    .cases o<;>first|exact absurd hx (h1 _ _ _)|simp[World.setCell,fB,hx]
   .simp[World.setCell,fB,hh]
  .have:=h1 ⟨.cell a,true,sy⟩ ae rfl a rfl;simp[World.setCell,fB,this]
 .by_cases hb:a.block=b
  .subst hb;refine⟨if a.spot.isSome then c else c.setIfInBounds a.off v,by simp[World.setCell,fB,h],by split<;>simp,λi hi=>?_⟩;have:=hi ⟨.cell a,true,sy⟩ ae rfl a rfl rfl
   grind
  .exact⟨c,by simp[World.setCell,fB,hb,h],rfl,λ_ _=>rfl⟩
theorem Kept.setObj(B:World)(r:Nat)(o o1:Obj)(h0:B.heap[r]?=some o1)(hn:¬∃c e f,o1=.cells c e f)(sy:Bool):Kept #[⟨.obj r,true,sy⟩] B { B with heap:=B.heap.setIfInBounds r o }:=by
 refine⟨rfl,rfl,ae,λb hb h1 h2=>?_,λb c ty fr h=>?_⟩
 .have:r≠b:=λe=>h2 ⟨.obj r,true,sy⟩ ae rfl (by rw[e])
  simp[iX,this]
 grind
structure Alike(P':Program)(C:Cx)(S:Sh){α:Type}(t:Sem α)(Q:α->α->Prop)(A B:World)(es fs:Array Event)(a:α)(A':World)(h5:Array Event):Prop where
 drawn:A.drawn<=A'.drawn
 tape:A'.tape=A.tape
 size:A.heap.size<=A'.heap.size
 alike:(∀j,A.drawn+j<A'.drawn->B.tape (B.drawn+j)=A.tape (A.drawn+j)) ->
  ∃(b:α)(B':World)(new:Array Event),t.runT P' B fs=(.ok b B',fs++new)/\h5=es++new/\Q a b/\Lk C S A' B' /\
   B'.tape=B.tape/\B'.drawn=B.drawn+(A'.drawn-A.drawn)/\Kept new B B'/\∀e∈new,EvT S B' e
theorem Alike.step{α:Type}{t t':Sem α}{Q:α->α->Prop}{A B A1 B1 A':World}{es fs h5:Array Event}{a:α}(e:Array Event)(c:Nat)(h2:(∀j,j<c->B.tape (B.drawn+j)=A.tape (A.drawn+j))->t.runT P' B fs=t'.runT P' B1 (fs++e))(hd:A1.drawn=A.drawn+c)(hdB:B1.drawn=B.drawn+c)(ht:A1.tape=A.tape)(htB:B1.tape=B.tape)(a5:Kept e B B1)(hs:A.heap.size<=A1.heap.size)(ev:∀x∈e,EvT S B1 x)(x:Alike P' C S t' Q A1 B1 (es++e) (fs++e) a A' h5):Alike P' C S t Q A B es fs a A' h5:=by
 have x1:=x.drawn;have x4:=x.size;refine⟨ab,x.tape.trans ht,ab,?_⟩;intro ag;rw[h2 λj hj=>ag j ab]
 obtain⟨b,B',new,y1,y2,y7,y3,y4,y5,y8,y6⟩:=x.alike λj hj=>by
  have:=ag (c+j) ab;rw[htB,ht,hd,hdB,pN,pN];exact this
 refine⟨b,B',e++new,by rw[y1,uS],by rw[y2,uS],y7,y3,y4.trans htB,by rw[y5];omega,a5.trans y8,λz hz=>?_⟩
 rcases xT.1 hz with hz|hz
 .exact (ev z hz).mono y8
 simp_all
theorem lS(es:Array Event)(e:Event):es.push e=es++#[e]:=ae
theorem JI{α:Type}{s:Sem α}{A:World}{es h5:Array Event}(h:(s.runT P A es).2=h5):∀e∈es,e∈h5:=by
 intro e he;rw[<-h,Sem.runT_eq];show e∈s.events P A es;rw[Sem.events_acc];simp_all
theorem uZ{α:Type}{D:α->Prop}{Q:α->α->Prop}{s t:Sem α}(h:RT P P' C D Q s t):∀(A B:World)(es fs:Array Event)(a:α)(A':World)(h5:Array Event),Lk C S A B->s.runT P A es=(.ok a A',h5)->(∀e∈h5,S.fj e)->D a\/Alike P' C S t Q A B es fs a A' h5:=by
 induction h with
 |nS a t hd=>
  intro A B es fs a0 A' h5 hl hr h9;simp only[Sem.runT,dz,Result.ok.injEq] at hr;exact .inl (hr.1.1▸hd)
 |pure a b hq=>
  intro A B es fs a0 A' h5 hl hr h9;simp only[Sem.runT,dz,Result.ok.injEq] at hr;obtain⟨⟨rfl,rfl⟩,rfl⟩:=hr;exact .inr ⟨bU _,rfl,bU _,λ_=>⟨b,B,#[],by simp[Sem.runT],ae,hq,hl,rfl,ae,.refl _ _,ae⟩⟩
 |bad s t hb=>
  intro A B es fs a0 A' h5 hl hr h9;have:=hb A es hl.np;rw[hr] at this;exact this.elim
 |load a k k' _ ih=>
  intro A B es fs a0 A' h5 hl hr h9
  rcases hx:A.cell? a with _|v
  .obtain⟨e,he⟩:=hl.far P a (Mode.plain == .atomic);simp[-Sem.runT_eq,Sem.runT,hx,he] at hr
  .have hp:¬S.part a.block a.off:=h9 ⟨.cell a,false,false⟩ (by
    simp only[Sem.runT,hx] at hr
    exact JI (congrArg Prod.snd hr) _ ae) a rfl
   obtain⟨h1,h2,h3⟩:=hl.cell hx hp
   have e1:(Sem.load .plain a k).runT P A es=(k v).runT P A (es++#[⟨.cell a,false,false⟩]):=by rw[<-lS];simp only[Sem.runT,hx];rfl
   have e2:(Sem.load .plain a k').runT P' B fs=(k' v).runT P' B (fs++#[⟨.cell a,false,false⟩]):=by rw[<-lS];simp only[Sem.runT,h3];rfl
   rw[e1] at hr
   refine (ih v A B _ _ a0 A' h5 hl hr h9).imp id λx=>.step _ 0 (λ_=>e2) rfl rfl rfl rfl (.refl _ _) (bU _) (λx hx=>?_) x
   obtain rfl:x=_:=by simpa using hx
   exact .inl ⟨a,false,rfl,Dl h3,h1⟩
 |store a v k k' _ ih=>
  intro A B es fs a0 A' h5 hl hr h9;by_cases hv:(∃cs,v=.agg cs)\/∃cs,v=.tuple cs
  .exfalso
   rcases hv with ⟨cs,rfl⟩|⟨cs,rfl⟩<;>simp[-Sem.runT_eq,Sem.runT] at hr
  rcases hx:A.cell? a with _|u
  .obtain⟨e,he⟩:=hl.BB P a v (Mode.plain == .atomic)
   cases v<;>first|exact absurd (.inl ⟨_,rfl⟩) hv|exact absurd (.inr ⟨_,rfl⟩) hv|(simp[-Sem.runT_eq,Sem.runT,hx,he] at hr)
  .obtain⟨h1,h2,u2,h3,_⟩:=hl.cell0 hx;have a4:=hl.frozen a
   rcases hz:A.frozen? a with _|_
   .have e1:(Sem.store .plain a v k).runT P A es=k.runT P (A.setCell a v) (es++#[⟨.cell a,true,false⟩]):=by
     rw[<-lS]
     cases v<;>first|exact absurd (.inl ⟨_,rfl⟩) hv|exact absurd (.inr ⟨_,rfl⟩) hv|(simp only[Sem.runT,hx,hz];rfl)
    have e2:(Sem.store .plain a v k').runT P' B fs=k'.runT P' (B.setCell a v) (fs++#[⟨.cell a,true,false⟩]):=by
     rw[<-lS]
     cases v<;>first|exact absurd (.inl ⟨_,rfl⟩) hv|exact absurd (.inr ⟨_,rfl⟩) hv|(simp only[Sem.runT,h3,a4,hz];rfl)
    rw[e1] at hr
    refine (ih _ _ _ _ a0 A' h5 (hl.setCell hx v) hr h9).imp id λx=>.step (A1:=A.setCell a v) _ 0 (λ_=>e2) rfl rfl rfl rfl (.setCell _ _ _ _) (by simp[World.setCell]) (λx hx=>?_) x
    obtain rfl:x=_:=by simpa using hx
    obtain⟨c,ty,fr,hc⟩:=Dl h3;exact .inl ⟨a,true,rfl,let ⟨c',h,_⟩:=(Kept.setCell B a v false).cell _ _ _ _ hc;⟨c',_,_,h⟩,h1⟩
   .exfalso
    cases v<;>first|exact absurd (.inl ⟨_,rfl⟩) hv|exact absurd (.inr ⟨_,rfl⟩) hv|(simp[-Sem.runT_eq,Sem.runT,hx,hz] at hr)
 |new o k k' ho _ ih=>
  intro A B es fs a0 A' h5 hl hr h9
  have e1:(Sem.new o k).runT P A es=(k A.heap.size).runT P { A with heap:=A.heap.push o } (es++#[]):=by simp[-Sem.runT_eq,Sem.runT]
  have e2:(Sem.new o k').runT P' B fs=(k' A.heap.size).runT P' { B with heap:=B.heap.push o } (fs++#[]):=by simp[-Sem.runT_eq,Sem.runT,hl.size]
  rw[e1] at hr
  exact (ih _ _ _ _ _ a0 A' h5 (hl.push ho) hr h9).imp id λx=>.step (A1:={ A with heap:=A.heap.push o }) #[] 0 (λ_=>e2) rfl rfl rfl rfl (.push _ _) ae ae x
 |oY o s t k k' ho hs ht _ ih=>
  intro A B es fs a0 A' h5 hl hr h9
  have e1:s.runT P A es=(k A.heap.size).runT P { A with heap:=A.heap.push o } (es++#[]):=by rw[hs,mN]
  have e2:t.runT P' B fs=(k' A.heap.size).runT P' { B with heap:=B.heap.push o } (fs++#[]):=by rw[ht,mN,hl.size]
  rw[e1] at hr
  exact (ih _ _ _ _ _ a0 A' h5 (hl.push ho) hr h9).imp id λx=>.step (A1:={ A with heap:=A.heap.push o }) #[] 0 (λ_=>e2) rfl rfl rfl rfl (.push _ _) ae ae x
 |shape r k k' _ _ ih1 ih2=>
  intro A B es fs a0 A' h5 hl hr h9
  have e1:(Sem.shape r k).runT P A es=(k (A.shape? r)).runT P A (es++#[]):=by simp[-Sem.runT_eq,Sem.runT]
  have e2:(Sem.shape r k').runT P' B fs=(k' (B.shape? r)).runT P' B (fs++#[]):=by simp[-Sem.runT_eq,Sem.runT]
  rw[e1] at hr
  rcases hl.shape r with e|⟨e,n,h1,h2⟩
  .rw[<-e] at e2
   exact (ih1 _ _ _ _ _ a0 A' h5 hl hr h9).imp id λx=>.step #[] 0 (λ_=>e2) rfl rfl rfl rfl (.refl _ _) (bU _) ae x
  .rw[h1] at hr;rw[h2] at e2
   exact (ih2 _ _ _ _ _ _ a0 A' h5 hl hr h9).imp id λx=>.step #[] 0 (λ_=>e2) rfl rfl rfl rfl (.refl _ _) (bU _) ae x
 |frozen a k k' _ ih=>
  intro A B es fs a0 A' h5 hl hr h9
  have e1:(Sem.frozen a k).runT P A es=(k (A.frozen? a)).runT P A (es++#[]):=by simp[-Sem.runT_eq,Sem.runT]
  have e2:(Sem.frozen a k').runT P' B fs=(k' (A.frozen? a)).runT P' B (fs++#[]):=by simp[-Sem.runT_eq,Sem.runT,hl.frozen]
  rw[e1] at hr
  exact (ih _ _ _ _ _ a0 A' h5 hl hr h9).imp id λx=>.step #[] 0 (λ_=>e2) rfl rfl rfl rfl (.refl _ _) (bU _) ae x
 |getObj r k k' _ _ ih1 ih2=>
  intro A B es fs a0 A' h5 hl hr h9;by_cases hS:S.dead r
  .obtain⟨c,e,fr,h1,_⟩:=hl.dead r hS;simp[-Sem.runT_eq,Sem.runT,h1] at hr
  rcases hx:A.heap[r]? with _|o
  .simp[-Sem.runT_eq,Sem.runT,hx] at hr
  by_cases h8:∃c e f,o=.cells c e f
  .obtain⟨c,e,f,rfl⟩:=h8;simp[-Sem.runT_eq,Sem.runT,hx] at hr
  have e1:(Sem.getObj r k).runT P A es=(k o).runT P A (es++#[⟨.obj r,false,o.isChan⟩]):=by
   rw[<-lS];cases o<;>first|exact absurd ⟨_,_,_,rfl⟩ h8|(simp only[Sem.runT,hx])
  rw[e1] at hr;have hg:=(cT.1 hx).1
  rcases hl.same r hS with ⟨e,ho⟩|⟨o',h1,h2,h3,_⟩|⟨_,_,_,_,h1,_⟩
  .rw[hx] at e
   have e2:(Sem.getObj r k').runT P' B fs=(k' o).runT P' B (fs++#[⟨.obj r,false,o.isChan⟩]):=by
    rw[<-lS];cases o<;>first|exact absurd ⟨_,_,_,rfl⟩ h8|(simp only[Sem.runT,<-e])
   refine (ih1 o (ho o hx) A B _ _ a0 A' h5 hl hr h9).imp id λx=>.step _ 0 (λ_=>e2) rfl rfl rfl rfl (.refl _ _) (bU _) (λx hk=>?_) x
   obtain rfl:x=_:=by simpa using hk
   exact .inr (.inl ⟨r,false,_,rfl,hl.size▸hg,hS⟩)
  .rw[hx] at h3;obtain rfl:=fK h3
   have e2:(Sem.getObj r k').runT P' B fs=(k' o').runT P' B (fs++#[⟨.obj r,false,(jC r o').isChan⟩]):=by
    rw[<-lS];cases o'<;>first|exact absurd trivial h2|(simp only[Sem.runT,h1];rfl)
   refine (ih2 o' h2 A B _ _ a0 A' h5 hl hr h9).imp id λx=>.step _ 0 (λ_=>e2) rfl rfl rfl rfl (.refl _ _) (bU _) (λx hk=>?_) x
   obtain rfl:x=_:=by simpa using hk
   exact .inr (.inl ⟨r,false,_,rfl,hl.size▸hg,hS⟩)
  .rw[hx] at h1;exact absurd ⟨_,_,_,fK h1⟩ h8
 |setObj r o k k' ho _ ih=>
  intro A B es fs a0 A' h5 hl hr h9;by_cases hS:S.dead r
  .obtain⟨c,e,fr,h1,_⟩:=hl.dead r hS;simp[-Sem.runT_eq,Sem.runT,h1] at hr
  rcases hx:A.heap[r]? with _|o0
  .simp[-Sem.runT_eq,Sem.runT,hx] at hr
  by_cases h8:∃c e f,o0=.cells c e f
  .obtain⟨c,e,f,rfl⟩:=h8;simp[-Sem.runT_eq,Sem.runT,hx] at hr
  have hg:=(cT.1 hx).1
  have hB:∃o1,B.heap[r]?=some o1/\¬∃c e f,o1=.cells c e f:=by
   rcases hl.same r hS with ⟨e,_⟩|⟨o',h1,h2,h3,_⟩|⟨_,_,_,_,h1,_⟩
   .exact⟨o0,by rw[<-e];exact hx,h8⟩
   .refine⟨o',h1,?_⟩
    rintro⟨c,e,f,rfl⟩
    exact h2 trivial
   .rw[hx] at h1;exact absurd ⟨_,_,_,fK h1⟩ h8
  obtain⟨o1,hB1,hB2⟩:=hB
  have e1:(Sem.setObj r o k).runT P A es=k.runT P { A with heap:=A.heap.setIfInBounds r o } (es++#[⟨.obj r,true,o.isChan⟩]):=by
   rw[<-lS];cases o0<;>first|exact absurd ⟨_,_,_,rfl⟩ h8|(simp only[Sem.runT,hx])
  have e2:(Sem.setObj r o k').runT P' B fs=k'.runT P' { B with heap:=B.heap.setIfInBounds r o } (fs++#[⟨.obj r,true,o.isChan⟩]):=by
   rw[<-lS];cases o1<;>first|exact absurd ⟨_,_,_,rfl⟩ hB2|(simp only[Sem.runT,hB1])
  rw[e1] at hr
  refine (ih _ _ _ _ a0 A' h5 (hl.set hS ho) hr h9).imp id λx=>.step (A1:={ A with heap:=A.heap.setIfInBounds r o }) _ 0 (λ_=>e2) rfl rfl rfl rfl (.setObj _ _ _ _ hB1 hB2 _) ae (λx hk=>?_) x
  obtain rfl:x=_:=by simpa using hk
  exact .inr (.inl ⟨r,true,_,rfl,by simpa[<-hl.size] using hg,hS⟩)
 |choose q k k' _ ih=>
  intro A B es fs a0 A' h5 hl hr h9;by_cases hq:q.forced=true
  .have e1:(Sem.choose q k).runT P A es=(k 0).runT P A (es++#[]):=by simp[-Sem.runT_eq,Sem.runT,hq]
   have e2:(Sem.choose q k').runT P' B fs=(k' 0).runT P' B (fs++#[]):=by simp[-Sem.runT_eq,Sem.runT,hq]
   rw[e1] at hr
   exact (ih 0 _ _ _ _ a0 A' h5 hl hr h9).imp id λx=>.step #[] 0 (λ_=>e2) rfl rfl rfl rfl (.refl _ _) (bU _) ae x
  .have e1:(Sem.choose q k).runT P A es=(k (q.cut (A.tape A.drawn q))).runT P { A with drawn:=A.drawn+1 } (es++#[]):=by simp[-Sem.runT_eq,Sem.runT,hq]
   rw[e1] at hr
   refine (ih _ { A with drawn:=A.drawn+1 } { B with drawn:=B.drawn+1 } (es++#[]) (fs++#[]) a0 A' h5 ⟨hl.size,hl.low,hl.same,hl.dead,hl.os,hl.output⟩ hr h9).imp id λx=>.step (A1:={ A with drawn:=A.drawn+1 }) #[] 1 (B1:={ B with drawn:=B.drawn+1 }) (λag=>?_) rfl rfl rfl rfl (.draw _ _) (bU _) ae x
   have:=ag 0 ab;simp only[oH] at this;simp[-Sem.runT_eq,Sem.runT,hq,this]
 |program k k' _ ih=>
  intro A B es fs a0 A' h5 hl hr h9;have x:=ih A B es fs a0 A' h5 hl hr h9
  exact x.imp id λx=>⟨x.drawn,x.tape,x.size,x.alike⟩
 |mark k k' _ ih=>
  intro A B es fs a0 A' h5 hl hr h9
  have e1:(Sem.mark .noRoom k).runT P A es=k.runT P A (es++#[⟨.mark .noRoom,false,true⟩]):=by rw[<-lS];rfl
  have e2:(Sem.mark .noRoom k').runT P' B fs=k'.runT P' B (fs++#[⟨.mark .noRoom,false,true⟩]):=by rw[<-lS];rfl
  rw[e1] at hr
  refine (ih _ _ _ _ a0 A' h5 hl hr h9).imp id λx=>.step _ 0 (λ_=>e2) rfl rfl rfl rfl (.refl _ _) (bU _) (λx hx=>?_) x
  obtain rfl:x=_:=by simpa using hx
  exact .inr (.inr rfl)
theorem JJ{w:World}(h:NP w){p:Program}{a:Addr}{b:Bool}{e:Halt}(he:w.farLoad p a b=.error e):rH e:=by
 unfold World.farLoad World.noCell at he
 repeat' split at he
 all_goals first|cases he|skip
 all_goals first|trivial|exact absurd ‹w.heap[a.block]?=some (Obj.pending _ _)› (h _ _ _)|skip
theorem JK{w:World}(h:NP w){p:Program}{a:Addr}{v:Value}{b:Bool}{e:Halt}(he:w.farStore p a v b=.error e):rH e:=by
 unfold World.farStore World.noCell at he
 repeat' split at he
 all_goals first|cases he|skip
 all_goals first|trivial|exact absurd ‹w.heap[a.block]?=some (Obj.pending _ _)› (h _ _ _)|skip
theorem JL{α:Type}{D:α->Prop}{Q:α->α->Prop}{s t:Sem α}(h:RT P P' C D Q s t):∀(A B:World)(es:Array Event)(x:Halt)(A':World)(h5:Array Event),Lk C S A B->s.runT P A es=(.halt x A',h5)->rH x/\ND A':=by
 induction h with
 |pure a b hq=>simp
 |nS a t hd=>simp
 |bad s t hb=>intro A B es x A' h5 hl hr;have:=hb A es hl.np;rw[hr] at this;exact⟨this.1,this.2 hl.nd⟩
 |load a k k' _ ih=>
  intro A B es x A' h5 hl hr
  rcases hx:A.cell? a with _|v
  .obtain⟨e,he⟩:=hl.far P a (Mode.plain == .atomic);simp only[Sem.runT,hx,he,dz,Result.halt.injEq] at hr;exact⟨hr.1.1▸JJ hl.np he,hr.1.2▸hl.nd⟩
  .simp only[Sem.runT,hx] at hr
   grind
 |store a v k k' _ ih=>
  intro A B es x A' h5 hl hr;by_cases hv:(∃cs,v=.agg cs)\/∃cs,v=.tuple cs
  .rcases hv with ⟨cs,rfl⟩|⟨cs,rfl⟩<;>(simp only[Sem.runT,dz,Result.halt.injEq] at hr;exact⟨hr.1.1▸trivial,hr.1.2▸hl.nd⟩)
  rcases hx:A.cell? a with _|u
  .obtain⟨e,he⟩:=hl.BB P a v (Mode.plain == .atomic)
   cases v<;>first|exact absurd (.inl ⟨_,rfl⟩) hv|exact absurd (.inr ⟨_,rfl⟩) hv|(simp only[Sem.runT,hx,he,dz,Result.halt.injEq] at hr;exact⟨hr.1.1▸JK hl.np he,hr.1.2▸hl.nd⟩)
  .rcases hz:A.frozen? a with _|_
   .have h':k.runT P (A.setCell a v) (es.push ⟨.cell a,true,Mode.plain == .atomic⟩)=(.halt x A',h5):=by
     cases v<;>first|exact absurd (.inl ⟨_,rfl⟩) hv|exact absurd (.inr ⟨_,rfl⟩) hv|(simp only[Sem.runT,hx,hz] at hr;exact hr)
    exact ih _ _ _ x A' h5 (hl.setCell hx v) h'
   .cases v<;>first|exact absurd (.inl ⟨_,rfl⟩) hv|exact absurd (.inr ⟨_,rfl⟩) hv|(simp only[Sem.runT,hx,hz,cz,dz,Result.halt.injEq] at hr;exact⟨hr.1.1▸trivial,hr.1.2▸hl.nd⟩)
 |new o k k' ho _ ih=>intro A B es x A' h5 hl hr;exact ih _ _ _ _ x A' h5 (hl.push ho) hr
 |oY o s t k k' ho hs ht _ ih=>intro A B es x A' h5 hl hr;rw[hs] at hr;exact ih _ _ _ _ x A' h5 (hl.push ho) hr
 |shape r k k' _ _ ih1 ih2=>intro A B es x A' h5 hl hr;exact ih1 _ A B _ x A' h5 hl hr
 |frozen a k k' _ ih=>intro A B es x A' h5 hl hr;exact ih _ A B _ x A' h5 hl hr
 |getObj r k k' _ _ ih1 ih2=>
  intro A B es x A' h5 hl hr
  rcases hx:A.heap[r]? with _|o
  .simp only[Sem.runT,hx,dz,Result.halt.injEq] at hr;exact⟨hr.1.1▸trivial,hr.1.2▸hl.nd⟩
  by_cases h8:∃c e f,o=.cells c e f
  .obtain⟨c,e,f,rfl⟩:=h8;simp only[Sem.runT,hx,dz,Result.halt.injEq] at hr;exact⟨hr.1.1▸trivial,hr.1.2▸hl.nd⟩
  have h':(k o).runT P A (es.push ⟨.obj r,false,o.isChan⟩)=(.halt x A',h5):=by
   cases o<;>first|exact absurd ⟨_,_,_,rfl⟩ h8|(simp only[Sem.runT,hx] at hr;exact hr)
  have hS:¬S.dead r:=λhS=>by obtain⟨c,e,fr,h1,_⟩:=hl.dead r hS;rw[hx] at h1;exact h8 ⟨_,_,_,fK h1⟩
  rcases hl.same r hS with ⟨_,ho⟩|⟨o',h1,h2,h3,_⟩|⟨_,_,_,_,h1,_⟩
  .exact ih1 o (ho o hx) A B _ x A' h5 hl h'
  .rw[hx] at h3;obtain rfl:=fK h3;exact ih2 o' h2 A B _ x A' h5 hl h'
  grind
 |setObj r o k k' ho _ ih=>
  intro A B es x A' h5 hl hr
  rcases hx:A.heap[r]? with _|o0
  .simp only[Sem.runT,hx,dz,Result.halt.injEq] at hr;exact⟨hr.1.1▸trivial,hr.1.2▸hl.nd⟩
  by_cases h8:∃c e f,o0=.cells c e f
  .obtain⟨c,e,f,rfl⟩:=h8;simp only[Sem.runT,hx,dz,Result.halt.injEq] at hr;exact⟨hr.1.1▸trivial,hr.1.2▸hl.nd⟩
  have h':k.runT P { A with heap:=A.heap.setIfInBounds r o } (es.push ⟨.obj r,true,o.isChan⟩)=(.halt x A',h5):=by
   cases o0<;>first|exact absurd ⟨_,_,_,rfl⟩ h8|(simp only[Sem.runT,hx] at hr;exact hr)
  have hS:¬S.dead r:=λhS=>by obtain⟨c,e,fr,h1,_⟩:=hl.dead r hS;rw[hx] at h1;simp_all
  exact ih _ { B with heap:=B.heap.setIfInBounds r o } _ x A' h5 (hl.set hS ho) h'
 |choose q k k' _ ih=>
  intro A B es x A' h5 hl hr;by_cases hq:q.forced=true
  .simp only[Sem.runT,hq,cz] at hr
   grind
  .simp only[Sem.runT,hq,cP] at hr;exact ih _ { A with drawn:=A.drawn+1 } B _ x A' h5 ⟨hl.size,hl.low,hl.same,hl.dead,hl.os,hl.output⟩ hr
 |program k k' _ ih=>trivial
 |mark k k' _ ih=>intro A B es x A' h5 hl hr;exact ih A B _ x A' h5 hl hr
theorem xk{α:Type}{D:α->Prop}{Q:α->α->Prop}{s t:Sem α}(h:RT P P' C D Q s t):∀(A B:World)(es:Array Event)(a0:α)(A':World)(h5:Array Event),Lk C S A B->s.runT P A es=(.ok a0 A',h5)->(D a0\/∃b,Q a0 b)/\∀e∈h5,e∈es\/∀g,e.loc≠.mark (.extern g):=by
 have pu:∀{es h5:Array Event}{x:Event},(∀g,x.loc≠.mark (.extern g))->(∀e∈h5,e∈es.push x\/∀g,e.loc≠.mark (.extern g))->∀e∈h5,e∈es\/∀g,e.loc≠.mark (.extern g):=λhx h e he=>by
  grind
 induction h with
 |pure a b hq=>intro A B es a0 A' h5 hl hr;simp only[Sem.runT,dz,Result.ok.injEq] at hr;grind
 |nS a t hd=>intro A B es a0 A' h5 hl hr;simp_all
 |bad s t hb=>intro A B es a0 A' h5 hl hr;have:=hb A es hl.np;rw[hr] at this;trivial
 |load a k k' _ ih=>
  intro A B es a0 A' h5 hl hr
  rcases hx:A.cell? a with _|v
  .obtain⟨e,he⟩:=hl.far P a (Mode.plain == .atomic);simp[-Sem.runT_eq,Sem.runT,hx,he] at hr
  .simp only[Sem.runT,hx] at hr;exact (ih v A B _ a0 A' h5 hl hr).imp id (pu ae)
 |store a v k k' _ ih=>
  intro A B es a0 A' h5 hl hr;by_cases hv:(∃cs,v=.agg cs)\/∃cs,v=.tuple cs
  .rcases hv with ⟨cs,rfl⟩|⟨cs,rfl⟩<;>(simp[-Sem.runT_eq,Sem.runT] at hr)
  rcases hx:A.cell? a with _|u
  .obtain⟨e,he⟩:=hl.BB P a v (Mode.plain == .atomic)
   cases v<;>first|exact absurd (.inl ⟨_,rfl⟩) hv|exact absurd (.inr ⟨_,rfl⟩) hv|(simp[-Sem.runT_eq,Sem.runT,hx,he] at hr)
  .rcases hz:A.frozen? a with _|_
   .have h':k.runT P (A.setCell a v) (es.push ⟨.cell a,true,Mode.plain == .atomic⟩)=(.ok a0 A',h5):=by
     cases v<;>first|exact absurd (.inl ⟨_,rfl⟩) hv|exact absurd (.inr ⟨_,rfl⟩) hv|(simp only[Sem.runT,hx,hz] at hr;exact hr)
    exact (ih _ _ _ a0 A' h5 (hl.setCell hx v) h').imp id (pu ae)
   .cases v<;>first|exact absurd (.inl ⟨_,rfl⟩) hv|exact absurd (.inr ⟨_,rfl⟩) hv|(simp[-Sem.runT_eq,Sem.runT,hx,hz] at hr)
 |new o k k' ho _ ih=>intro A B es a0 A' h5 hl hr;exact ih _ _ _ _ a0 A' h5 (hl.push ho) hr
 |oY o s t k k' ho hs ht _ ih=>intro A B es a0 A' h5 hl hr;rw[hs] at hr;exact ih _ _ _ _ a0 A' h5 (hl.push ho) hr
 |shape r k k' _ _ ih1 ih2=>intro A B es a0 A' h5 hl hr;exact ih1 _ A B _ a0 A' h5 hl hr
 |frozen a k k' _ ih=>intro A B es a0 A' h5 hl hr;exact ih _ A B _ a0 A' h5 hl hr
 |getObj r k k' _ _ ih1 ih2=>
  intro A B es a0 A' h5 hl hr
  rcases hx:A.heap[r]? with _|o
  .simp[-Sem.runT_eq,Sem.runT,hx] at hr
  by_cases h8:∃c e f,o=.cells c e f
  .obtain⟨c,e,f,rfl⟩:=h8;simp[-Sem.runT_eq,Sem.runT,hx] at hr
  have h':(k o).runT P A (es.push ⟨.obj r,false,o.isChan⟩)=(.ok a0 A',h5):=by
   cases o<;>first|exact absurd ⟨_,_,_,rfl⟩ h8|(simp only[Sem.runT,hx] at hr;exact hr)
  have hS:¬S.dead r:=λhS=>by obtain⟨c,e,fr,h1,_⟩:=hl.dead r hS;rw[hx] at h1;exact h8 ⟨_,_,_,fK h1⟩
  rcases hl.same r hS with ⟨_,ho⟩|⟨o',h1,h2,h3,_⟩|⟨_,_,_,_,h1,_⟩
  .exact (ih1 o (ho o hx) A B _ a0 A' h5 hl h').imp id (pu ae)
  .rw[hx] at h3;obtain rfl:=fK h3;exact (ih2 o' h2 A B _ a0 A' h5 hl h').imp id (pu ae)
  grind
 |setObj r o k k' ho _ ih=>
  intro A B es a0 A' h5 hl hr
  rcases hx:A.heap[r]? with _|o0
  .simp[-Sem.runT_eq,Sem.runT,hx] at hr
  by_cases h8:∃c e f,o0=.cells c e f
  .obtain⟨c,e,f,rfl⟩:=h8;simp[-Sem.runT_eq,Sem.runT,hx] at hr
  have h':k.runT P { A with heap:=A.heap.setIfInBounds r o } (es.push ⟨.obj r,true,o.isChan⟩)=(.ok a0 A',h5):=by
   cases o0<;>first|exact absurd ⟨_,_,_,rfl⟩ h8|(simp only[Sem.runT,hx] at hr;exact hr)
  have hS:¬S.dead r:=λhS=>by obtain⟨c,e,fr,h1,_⟩:=hl.dead r hS;rw[hx] at h1;simp_all
  exact (ih _ { B with heap:=B.heap.setIfInBounds r o } _ a0 A' h5 (hl.set hS ho) h').imp id (pu ae)
 |choose q k k' _ ih=>
  intro A B es a0 A' h5 hl hr;by_cases hq:q.forced=true
  .simp only[Sem.runT,hq,cz] at hr;exact ih 0 A B _ a0 A' h5 hl hr
  .simp only[Sem.runT,hq,cP] at hr;exact ih _ { A with drawn:=A.drawn+1 } B _ a0 A' h5 ⟨hl.size,hl.low,hl.same,hl.dead,hl.os,hl.output⟩ hr
 |program k k' _ ih=>trivial
 |mark k k' _ ih=>intro A B es a0 A' h5 hl hr;exact (ih A B _ a0 A' h5 hl hr).imp id (pu ae)
end
structure Kin(P P':Program):Prop where
 eq:∃fs,P' = { P with funcs:=fs }
section
variable{P P':Program}{C:Cx}
theorem Kin.info(h:Kin P P')(t:TypeId):P'.info? t=P.info? t:=by obtain⟨fs,rfl⟩:=h.eq;rfl
theorem Kin.underlying(h:Kin P P')(t:TypeId):P'.underlying t=P.underlying t:=by obtain⟨fs,rfl⟩:=h.eq;rfl
theorem Kin.rt(h:Kin P P'):P'.rt=P.rt:=by obtain⟨fs,rfl⟩:=h.eq;rfl
theorem Kin.globals(h:Kin P P'):P'.globals=P.globals:=by obtain⟨fs,rfl⟩:=h.eq;rfl
theorem Kin.depth(h:Kin P P'):P'.depth=P.depth:=by obtain⟨fs,rfl⟩:=h.eq;rfl
abbrev RE(P P':Program)(C:Cx){α:Type}(s t:Sem α):Prop:=RT P P' C (λ_=>False) Eq s t
theorem bQ{α:Type}(a:α):RE P P' C (pure a) (pure a):=.pure a a rfl
theorem bS{α β:Type}{s t:Sem α}{f g:α->Sem β}{D:β->Prop}{Q:β->β->Prop}(h:RE P P' C s t)(hf:∀a,RT P P' C D Q (f a) (g a)):RT P P' C D Q (s >>= f) (t >>= g):=
 RT.bind h λa b e=>by simp_all
theorem jW{α β:Type}{s t:Sem α}{f g:α->Sem β}{M:α->α->Prop}{D:β->Prop}{Q:β->β->Prop}(h:RT P P' C (λ_=>False) M s t)(hf:∀a b,M a b->RT P P' C D Q (f a) (g b)):RT P P' C D Q (s >>= f) (t >>= g):=
 RT.bind h hf
theorem EA{α β:Type}{s t:Sem α}(h:RE P P' C s t)(f:α->β):RE P P' C (f <$> s) (f <$> t):=RT.bind h λa b e=>by subst e;exact .pure _ _ rfl
theorem b8{α:Type}(m:String)(t:Sem α){D:α->Prop}{Q:α->α->Prop}:RT P P' C D Q (stuck m) t:=.halt (h:=.stuck m) trivial _
theorem dG{α:Type}(u:Unsupported)(t:Sem α){D:α->Prop}{Q:α->α->Prop}(hu:rH (.unsupported u):=by trivial):RT P P' C D Q (unsupported u) t:=.halt hu _
theorem oP{α:Type}(v:Value)(t:Sem α){D:α->Prop}{Q:α->α->Prop}:RT P P' C D Q (goPanic v) t:=.halt (h:=.panic v) trivial _
theorem iL{β:Type}{f g:Program->Sem β}{D:β->Prop}{Q:β->β->Prop}(h:RT P P' C D Q (f P) (g P')):RT P P' C D Q (program >>= f) (program >>= g):=RT.program _ _ h
theorem EB(a:Addr):RE P P' C (load a) (load a):=.load a _ _ λv=>.pure v v rfl
theorem Lo(a:Addr)(v:Value):RE P P' C (store a v) (store a v):=.store a v _ _ (.pure _ _ rfl)
theorem rl{o:Obj}(h:okO C o):RE P P' C (newObj o) (newObj o):=.new o _ _ h λr=>.pure r r rfl
theorem jX(q:Question):RE P P' C (choose q) (choose q):=.choose q _ _ λn=>.pure n n rfl
theorem oQ(r:Nat){o:Obj}(h:okO C o):RE P P' C (setObj r o) (setObj r o):=.setObj r o _ _ h (.pure _ _ rfl)
theorem Ae(n:Nat):RE P P' C (askRoom n) (askRoom n):=by
 unfold askRoom;split
 .exact .mark _ _ (.pure _ _ rfl)
 .exact bQ _
variable(h:Kin P P')
include h
theorem mW(t:TypeId):RE P P' C (typeInfo t) (typeInfo t):=by
 refine iL ?_;rw[h.info]
 cases P.info? t with
 |none=>exact b8 _ _
 |some i=>exact bQ _
theorem fp(t:TypeId):RE P P' C (Go.underlying t) (Go.underlying t):=by
 refine iL ?_;rw[h.underlying]
 cases P.underlying t with
 |none=>exact b8 _ _
 |some i=>exact bQ _
theorem gJ(t:TypeId):RE P P' C (Go.sizeOf t) (Go.sizeOf t):=bS (mW h t) λi=>bQ _
theorem oR(t:TypeId):RE P P' C (zeroValue t) (zeroValue t):=by
 refine bS (mW h t) λi=>?_
 cases i.zero with
 |none=>exact dG _ _
 |some v=>exact bQ _
theorem EC(t:TypeId):RE P P' C (isAgg t) (isAgg t):=by
 refine bS (fp h t) λd=>?_
 cases d<;>exact bQ _
omit h in
theorem ED(a:Addr):∀(n i:Nat)(acc:Array Value),RE P P' C (loadCellsFrom a i n acc) (loadCellsFrom a i n acc)
 |0,_,acc=>bQ acc
 |n+1,i,acc=>bS (EB _) λv=>ED a n (i+1) (acc.push v)
omit h in
theorem EE(a:Addr)(n:Nat):RE P P' C (loadCells a n) (loadCells a n):=ED a n 0 #[]
omit h in
theorem qd(a:Addr):∀(vs:List Value)(i:Nat),RE P P' C (storeCells a vs i) (storeCells a vs i)
 |[],_=>bQ ()
 |v::r,i=>bS (Lo _ v) λ_=>qd a r (i+1)
theorem wj(t:TypeId)(a:Addr):RE P P' C (loadVar t a) (loadVar t a):=by
 refine bS (EC h t) λb=>?_
 cases b
 .exact EB a
 .exact bS (gJ h t) λn=>bS (EE a n) λcs=>bQ _
theorem Lp(t:TypeId)(a:Addr)(v:Value):RE P P' C (storeVar t a v) (storeVar t a v):=by
 refine bS (gJ h t) λn=>?_
 split
 .exact bS (b8 _ _) λ_=>qd a _ 0
 .exact qd a _ 0
omit h in
theorem tH(e:TypeId)(cs:Array Value):RE P P' C (newRow e cs) (newRow e cs):=bS (rl (o:=.cells cs e) trivial) λr=>bQ _
omit h in
theorem wm(e:TypeId)(v:Value):RE P P' C (newVar e v) (newVar e v):=tH e _
theorem EG(t:TypeId):RE P P' C (elemOf t) (elemOf t):=by
 refine bS (fp h t) λd=>?_
 cases d<;>first|exact bQ _|exact b8 _ _
theorem nO(t:TypeId)(cs:Array Value)(off:Nat):RE P P' C (part t cs off) (part t cs off):=by
 refine bS (EC h t) λb=>?_
 cases b
 .simp only[dB,cP]
  cases cs[off]? with
  |none=>exact b8 _ _
  |some v=>exact bQ _
 .exact bS (gJ h t) λn=>bQ _
theorem gK{α:Type}{D:α->Prop}{Q:α->α->Prop}(e:RuntimeError):RT P P' C D Q (runtimePanic e:Sem α) (runtimePanic e):=by
 refine iL ?_;rw[h.rt]
 cases e with
 |bounds x y s c=>exact oP _ _
 |error m=>exact oP _ _
 |plain m=>exact oP _ _
 |nilDeref=>exact oP _ _
 |unhashable t=>exact oP _ _
 |typeAssertion i c a m=>
  refine bS (EG h _) λt=>?_
  refine bS ?_ λr=>oP _ _
  have e2:∀t:TypeId,typeHandle P' t=typeHandle P t:=λt=>by unfold typeHandle;rw[h.globals]
  simp only[e2];exact wm _ _
 |panicNil=>exact bS (EG h _) λt=>bS (wm _ _) λr=>oP _ _
theorem Af{α:Type}(k:IntKind)(x y:Int)(code:BoundsCode):RE P P' C (boundsPanic k x y code:Sem α) (boundsPanic k x y code):=by
 unfold boundsPanic;split
 .exact bS (EA (jX _) _) λs=>gK h _
 .exact bS (bQ _) λs=>gK h _
omit h in
theorem wo(v:Value):RE P P' C (asIntOf v) (asIntOf v):=by
 unfold asIntOf;split
 .exact bQ _
 .exact dG _ _
 .exact b8 _ _
omit h in
theorem tI(v:Value):RE P P' C (asInt v) (asInt v):=bS (wo v) λx=>bQ _
omit h in
theorem wq(v:Value):RE P P' C (asBool v) (asBool v):=by
 unfold asBool;split
 .exact bQ _
 .exact b8 _ _
omit h in
theorem Lq(v:Value):RE P P' C (asAgg v) (asAgg v):=by
 unfold asAgg;split
 .exact bQ _
 .exact b8 _ _
theorem wx(v:Value):RE P P' C (asAddr v) (asAddr v):=by
 unfold asAddr;split
 .exact bQ _
 .exact gK h _
 .exact b8 _ _
end
section
variable{P P':Program}{C:Cx}
theorem tJ{α:Type}{f g:Option (TypeId×Nat)->Sem α}{D:α->Prop}{Q:α->α->Prop}(r:Nat)(h1:∀x,RT P P' C D Q (f x) (g x))(h2:∀e n,RT P P' C D Q (f (some (e,0))) (g (some (e,n)))):RT P P' C D Q (shape r >>= f) (shape r >>= g):=.shape r _ _ h1 h2
theorem nP{α:Type}{f g:Obj->Sem α}{D:α->Prop}{Q:α->α->Prop}(r:Nat)(h1:∀o,okO C o->RT P P' C D Q (f o) (g o))(h2:∀o,¬okO C o->RT P P' C D Q (f (jC r o)) (g o)):RT P P' C D Q (getObj r >>= f) (getObj r >>= g):=.getObj r _ _ h1 h2
theorem EH(op:BinOp)(k:FloatKind)(x y:Nat):RE P P' C (Op.floatArith op k x y) (Op.floatArith op k x y):=by
 unfold Op.floatArith
 cases op<;>first|exact bS (b8 _ _) (λr=>by cases r<;>first|exact bQ _|exact bS (jX _) λn=>bQ _)|exact bS (bQ _) (λr=>by cases r<;>first|exact bQ _|exact bS (jX _) λn=>bQ _)
theorem EI(op:BinOp)(k:FloatKind)(x y:Nat):RE P P' C (Op.floatCmp op k x y) (Op.floatCmp op k x y):=by
 unfold Op.floatCmp
 cases op<;>first|exact bQ _|exact b8 _ _
theorem Ag(op:BinOp)(x y:ByteArray):RE P P' C (Op.stringOp op x y) (Op.stringOp op x y):=by
 unfold Op.stringOp
 cases op<;>first|exact bQ _|exact b8 _ _|(dsimp only;split<;>first|exact bQ _|exact dG _ _)
theorem EJ(op:BinOp)(k:IntKind)(x y:Int):RE P P' C (Op.intArith op k x y) (Op.intArith op k x y):=by
 unfold Op.intArith
 cases op<;>first|exact bQ _|exact b8 _ _
theorem EK(op:BinOp)(k:IntKind)(x y:Int):RE P P' C (Op.intBits op k x y) (Op.intBits op k x y):=by
 unfold Op.intBits
 cases op<;>first|exact bQ _|exact b8 _ _
theorem Lr(op:BinOp)(x y:Int):RE P P' C (Op.intCmp op x y) (Op.intCmp op x y):=by
 unfold Op.intCmp
 cases op<;>first|exact bQ _|exact b8 _ _
theorem EL(op:BinOp)(k:FloatKind)(x y:Nat):RE P P' C (Op.Complex.arith op k x y) (Op.Complex.arith op k x y):=
 bS (EH op k x y) λv=>by cases v<;>first|exact bQ _|exact b8 _ _
theorem EM(op:BinOp)(k:FloatKind)(x y:Nat):RE P P' C (Op.Complex.cmp op k x y) (Op.Complex.cmp op k x y):=
 bS (EI op k x y) λv=>wq v
theorem Ls(src:FloatKind)(x:Nat)(dst:FloatKind):RE P P' C (Conv.floatToFloat src x dst) (Conv.floatToFloat src x dst):=by
 unfold Conv.floatToFloat
 repeat' first|exact bQ _|exact b8 _ _|exact dG _ _|exact jX _|refine bS ?_ λ_=>?_|split|dsimp only
theorem Lt(src:FloatKind)(x:Nat)(dst:FloatKind):RE P P' C (Op.Complex.conv src x dst) (Op.Complex.conv src x dst):=by
 unfold Op.Complex.conv;split
 .exact bQ _
 .exact bS (Ls _ _ _) λv=>by cases v<;>first|exact bQ _|exact b8 _ _
theorem Lu(a b c d:Nat):RE P P' C (Op.Complex.quotient a b c d) (Op.Complex.quotient a b c d):=by
 unfold Op.Complex.quotient Op.Complex.corrected
 repeat' first|exact bQ _|exact EL _ _ _ _|exact EM _ _ _ _|refine bS ?_ λ_=>?_|split|dsimp only
theorem Lv(op:BinOp)(k:FloatKind)(a b c d:Nat):RE P P' C (Op.complexOp op k a b c d) (Op.complexOp op k a b c d):=by
 unfold Op.complexOp Op.Complex.product
 cases op<;>repeat' first|exact bQ _|exact b8 _ _|exact EL _ _ _ _|exact EM _ _ _ _|exact Lt _ _ _|exact Lu _ _ _ _|refine bS ?_ λ_=>?_|split|dsimp only
theorem Lw(op:UnOp)(x:Value):RE P P' C (Op.unary op x) (Op.unary op x):=by
 unfold Op.unary
 split<;>first|exact EJ _ _ _ _|exact EK _ _ _ _|exact bQ _|exact dG _ _|exact b8 _ _
theorem EN(r:Nat):RT P P' C (λ_=>False) (λa b=>a.isSome=b.isSome) (viewAt r) (viewAt r):=by
 refine tJ r (λx=>?_) (λe n=>?_)
 .cases x with
  |some x=>exact .pure _ _ rfl
  |none=>
   refine nP r (λo ho=>?_) (λo ho=>?_)
   .cases o<;>exact .pure _ _ rfl
   .cases o<;>first|exact .pure _ _ rfl|exact absurd trivial ho
 .exact .pure _ _ rfl
theorem Lx(a:Addr):RE P P' C (noView a) (noView a):=by
 refine jW (EN a.block) λx y e=>?_
 rw[e];split
 .exact dG _ _
 .exact bQ _
theorem EP(r:Nat):RE P P' C (numberAt r) (numberAt r):=by
 refine tJ r (λx=>?_) (λe n=>?_)
 .cases x with
  |some x=>exact bQ _
  |none=>
   refine nP r (λo ho=>?_) (λo ho=>?_)
   .cases o<;>exact bQ _
   .cases o<;>first|exact bQ _|exact absurd trivial ho
 .exact bQ _
theorem Ah(n:Addr):RE P P' C (behindNumber n) (behindNumber n):=bS (EP _) λx=>bQ _
theorem Ly(a:Addr)(l:Bool):RE P P' C (asNumber a l) (asNumber a l):=bS (rl (o:=.number a l) trivial) λx=>bQ _
variable(h:Kin P P')
include h
theorem Lz(op:BinOp)(k:IntKind)(x y:Int):RE P P' C (Op.intDiv op k x y) (Op.intDiv op k x y):=by
 unfold Op.intDiv;split
 .exact gK h _
 .cases op<;>first|exact bQ _|exact b8 _ _
theorem LA(op:BinOp)(k:IntKind)(x:Int)(k':IntKind)(y:Int):RE P P' C (Op.shift op k x k' y) (Op.shift op k x k' y):=by
 unfold Op.shift;split
 .exact gK h _
 .cases op<;>first|exact bQ _|exact b8 _ _
theorem Aj(t:TypeId):P'.cellsOf t=P.cellsOf t:=by obtain⟨fs,rfl⟩:=h.eq;rfl
theorem ER(t:TypeId):P'.bytesOf t=P.bytesOf t:=by obtain⟨fs,rfl⟩:=h.eq;rfl
theorem ES(d:Nat)(t:TypeId)(k:Nat):byteOfCell P' d t k=byteOfCell P d t k:=by
 obtain⟨fs,rfl⟩:=h.eq
 induction d generalizing t k with
 |zero=>rfl
 |succ d ih=>simp only[byteOfCell,ih];rfl
theorem jY(a:Addr):RE P P' C (byteOf a) (byteOf a):=by
 unfold byteOf;split
 .exact bQ _
 .refine iL ?_
  refine bS (Lx a) λ_=>?_
  have key:∀(e:TypeId)(n m:Nat),RE P P' C (have s:=P.cellsOf e;if s=0 then (pure 0:Sem Nat) else match byteOfCell P P.depth e (a.off%s) with|some b=>pure (a.off / s*P.bytesOf e+b)|_=>stuck "byteOf: no such cell")
   (have s:=P'.cellsOf e;if s=0 then (pure 0:Sem Nat) else match byteOfCell P' P'.depth e (a.off%s) with|some b=>pure (a.off / s*P'.bytesOf e+b)|_=>stuck "byteOf: no such cell"):=λe n m=>by
   simp only[Aj h,ER h,ES h,h.depth];split
   .exact bQ _
   .split
    .exact bQ _
    .exact b8 _ _
  refine tJ _ (λx=>?_) (λe n=>?_)
  .cases x with
   |none=>exact b8 _ _
   |some x=>exact key x.1 0 0
  .exact key e 0 0
end
section
variable{P P':Program}{C:Cx}(h:Kin P P')
include h
theorem LF(d:Nat)(t:TypeId)(k:Nat):cellOfByte P' d t k=cellOfByte P d t k:=by
 obtain⟨fs,rfl⟩:=h.eq
 induction d generalizing t k with
 |zero=>rfl
 |succ d ih=>simp only[cellOfByte,ih];rfl
theorem LG(d:Nat)(t:TypeId)(n k:Nat)(by_:Int):cellAtBytes P' d t n k by_=cellAtBytes P d t n k by_:=by
 unfold cellAtBytes;simp only[Aj h,ER h,ES h,LF h]
omit h in
theorem LH(d:Nat)(t:TypeId)(k:Nat)(by_:Int):cellAtBytes P d t 0 k by_=none:=by
 unfold cellAtBytes;simp only[bind,Option.bind]
 grind
theorem LI(a:Addr)(c b:Nat):RE P P' C (partAt a c b) (partAt a c b):=by
 unfold partAt
 exact bS (jY h a) λx=>bS (jY h _) λy=>bQ _
theorem ET(a:Addr)(f:Field):RE P P' C (fieldPlace a f) (fieldPlace a f):=by
 unfold fieldPlace
 refine bS (gJ h _) λn=>?_
 split
 .exact LI h _ _ _
 .exact bQ _
theorem wy(ts:Array TypeId)(t:TypeId)(x len:Value):RE P P' C (Builtin.unsafeAdd_ ts t #[x,len]) (Builtin.unsafeAdd_ ts t #[x,len]):=by
 have key:∀(ptr:Option Addr)(n:Int),RE P P' C (do
  let some a:=ptr|unsupported (.unsafePointer "Add")
  let some (e,cells) <-shape a.block|unsupported (.unsafePointer "Add")
  let p <-program
  match cellAtBytes p p.depth e (cells / p.cellsOf e) a.off n with
  |some off=>pure (Value.pointer (some { a with off }))
  |none=>unsupported (.unsafePointer "Add")) (do
  let some a:=ptr|unsupported (.unsafePointer "Add")
  let some (e,cells) <-shape a.block|unsupported (.unsafePointer "Add")
  let p <-program
  match cellAtBytes p p.depth e (cells / p.cellsOf e) a.off n with
  |some off=>pure (Value.pointer (some { a with off }))
  |none=>unsupported (.unsafePointer "Add")):=λptr n=>by
  cases ptr with
  |none=>exact dG _ _
  |some a=>
   refine tJ _ (λx=>?_) (λe m=>?_)
   .cases x with
    |none=>exact dG _ _
    |some x=>
     refine iL ?_;simp only[Aj h,LG h,h.depth];split
     .exact bQ _
     .exact dG _ _
   .refine iL ?_;simp only[Nat.zero_div,LH];exact dG _ _
 cases x with
 |pointer ptr=>
  show RE P P' C (asInt len >>= _) (asInt len >>= _)
  refine bS (tI _) λn=>?_
  dsimp only;split
  .cases ptr with
   |none=>exact dG _ _
   |some a=>
    refine jW (EN a.block) λx y e=>?_
    rw[e];split
    .exact bS (dG _ _) λ_=>bQ _
    .exact bQ _
  .split
   .exact bS (dG _ _) λ_=>key ptr n
   .exact key ptr n
 |_=>exact b8 _ _
theorem LJ(k:IntKind)(a b:Addr):RE P P' C (Op.addrSub k a b) (Op.addrSub k a b):=by
 unfold Op.addrSub Op.twoPlaces
 refine bS (iL ?_) λx=>bQ _
 rw[h.globals];split
 .exact bS (dG _ _) λ_=>bS (jY h a) λx=>bS (jY h b) λy=>bQ _
 .exact bS (jY h a) λx=>bS (jY h b) λy=>bQ _
theorem LL(op:BinOp)(a b:Addr):RE P P' C (Op.addrCmp op a b) (Op.addrCmp op a b):=by
 unfold Op.addrCmp Op.twoPlaces
 refine bS (iL ?_) λx=>?_
 .rw[h.globals];split
  .exact bS (dG _ _) λ_=>bS (jY h a) λx=>bS (jY h b) λy=>bQ _
  .exact bS (jY h a) λx=>bS (jY h b) λy=>bQ _
 .cases op<;>first|exact bQ _|exact dG _ _
theorem LM(k:IntKind)(a:Addr)(n:Int):RE P P' C (Op.addrMod k a n) (Op.addrMod k a n):=by
 have key:∀e:TypeId,RE P P' C (do
  let align:=(<-typeInfo e).align
  if n<1 || n.toNat>align || align%n.toNat != 0 then unsupported .addressObserved
  pure (Value.int k ((<-byteOf a)%n.toNat:Nat))) (do
  let align:=(<-typeInfo e).align
  if n<1 || n.toNat>align || align%n.toNat != 0 then unsupported .addressObserved
  pure (Value.int k ((<-byteOf a)%n.toNat:Nat))):=λe=>by
  refine bS (mW h e) λi=>?_
  dsimp only;split
  .exact bS (dG _ _) λ_=>bS (jY h a) λx=>bQ _
  .exact bS (jY h a) λx=>bQ _
 unfold Op.addrMod;refine tJ _ (λx=>?_) (λe m=>?_)
 .cases x with
  |none=>exact dG _ _
  |some x=>exact key x.1
 grind
theorem EU(t:TypeId)(x y:Value):RE P P' C (movedNumber t x y) (movedNumber t x y):=by
 unfold movedNumber
 refine bS (fp h t) λd=>?_
 dsimp only
 repeat' first|exact dG _ _|exact wy h _ _ _ _|exact Ly _ _|exact Ah _|exact bQ _|refine bS ?_ λ_=>?_|split|dsimp only
theorem LN(t:TypeId)(x y:Value):RE P P' C (movedPointer t x y) (movedPointer t x y):=by
 unfold movedPointer;split
 .refine bS (EP _) λz=>?_
  split
  .exact bS (dG _ _) λ_=>wy h _ _ _ _
  .exact wy h _ _ _ _
 .exact wy h _ _ _ _
end
def gR(P:Program):Nat->TypeId->Bool
 |0,_=>false
 |d+1,t=>match P.underlying t with
  |some (.int _)|some .string|some .bool|some (.slice _)=>true
  |some (.array _ e)=>gR P d e
  |_=>false
section
variable{P P':Program}{C:Cx}
theorem EW{β γ:Type}(f g:γ->β->Sem (ForInStep β))(hf:∀a b,RE P P' C (f a b) (g a b)):∀(l:List γ)(b:β),RE P P' C (forIn l b f) (forIn l b g)
 |[],b=>by simp only[List.forIn_nil];exact bQ _
 |a::l,b=>by
  simp only[List.forIn_cons]
  refine bS (hf a b) λr=>?_
  cases r with
  |done b=>exact bQ _
  |yield b=>exact EW f g hf l b
theorem Al{β:Type}(f g:Nat->β->Sem (ForInStep β))(hf:∀a b,RE P P' C (f a b) (g a b))(r:Std.Legacy.Range)(b:β):RE P P' C (forIn r b f) (forIn r b g):=by
 simp only[Std.Legacy.Range.forIn_eq_forIn_range'];exact EW f g hf _ b
variable(h:Kin P P')
include h
theorem jZ{α:Type}{f g:TypeDesc->Sem α}{D:α->Prop}{Q:α->α->Prop}{t:TypeId}{td:TypeDesc}(e:P.underlying t=some td)(hf:RT P P' C D Q (f td) (g td)):RT P P' C D Q (Go.underlying t >>= f) (Go.underlying t >>= g):=by
 refine jW (M:=λa b=>a=td/\b=td) ?_ (λa b hh=>by rw[hh.1,hh.2];exact hf);refine iL ?_;rw[h.underlying,e];exact .pure _ _ ⟨rfl,rfl⟩
theorem Am(d:Nat):∀(t:TypeId),gR P d t=true->∀(n:Nat)(x y:Value),RE P P' C (Op.equalIn n t x y) (Op.equalIn n t x y):=by
 induction d with
 |zero=>intro t ht;cases ht
 |succ d ih=>
  intro t ht n x y
  cases n with
  |zero=>exact dG _ _
  |succ n=>
   unfold gR at ht;unfold Op.equalIn
   rcases hu:P.underlying t with _|td
   .rw[hu] at ht;cases ht
   rw[hu] at ht;refine jZ h hu ?_
   cases td with
   |int k=>
    dsimp only
    repeat' first|contradiction|exact bQ _|exact b8 _ _|exact dG _ _|exact Ah _|exact jY h _|exact mW h _|(refine iL ?_;rw[h.globals])|refine bS ?_ λ_=>?_|split|dsimp only
   |string=>
    dsimp only
    repeat' first|contradiction|exact bQ _|exact b8 _ _|split
   |bool=>
    dsimp only
    repeat' first|contradiction|exact bQ _|exact b8 _ _|split
   |slice e=>
    dsimp only
    repeat' first|contradiction|exact bQ _|exact b8 _ _|split
   |array len e=>
    have hx:=ih e ht n
    cases x<;>first|exact b8 _ _|skip
    cases y<;>first|exact b8 _ _|skip
    dsimp only
    refine bS (gJ h _) λz=>?_
    refine bS (Al _ _ (λ_ _=>?_) _ _) λ_=>?_
    .repeat' first|exact bQ _|exact hx _ _|exact nO h _ _ _|refine bS ?_ λ_=>?_|split|dsimp only
    .repeat' first|exact bQ _|split|dsimp only
   |_=>cases ht
theorem EY(d:Nat):∀(t:TypeId),gR P d t=true->∀(n:Nat)(x y:Value),RE P P' C (Op.eqGuardIn n t x y) (Op.eqGuardIn n t x y):=by
 induction d with
 |zero=>intro t ht;cases ht
 |succ d ih=>
  intro t ht n x y
  cases n with
  |zero=>exact dG _ _
  |succ n=>
   unfold gR at ht;unfold Op.eqGuardIn
   rcases hu:P.underlying t with _|td
   .rw[hu] at ht;cases ht
   rw[hu] at ht;refine jZ h hu ?_
   cases td with
   |int k=>exact bQ _
   |string=>exact bQ _
   |bool=>exact bQ _
   |slice e=>exact bQ _
   |array len e=>
    have hx:=ih e ht n
    cases x<;>first|exact bQ _|skip
    cases y<;>first|exact bQ _|skip
    dsimp only
    refine bS (gJ h _) λz=>?_
    refine bS (Al _ _ (λ_ _=>?_) _ _) λ_=>?_
    .repeat' first|exact bQ _|exact hx _ _|exact nO h _ _ _|refine bS ?_ λ_=>?_|split|dsimp only
    .repeat' first|exact bQ _|split|dsimp only
   |_=>cases ht
theorem LQ:∀(n:Nat)(t u:TypeId),P'.alikeButTags n t u=P.alikeButTags n t u:=by
 obtain⟨fs,rfl⟩:=h.eq;intro n
 induction n with
 |zero=>intro t u;rfl
 |succ n ih=>intro t u;simp only[Program.alikeButTags,ih]
theorem LU(t:TypeId):P'.stoodInHeld t=P.stoodInHeld t:=by
 have e:=LQ h;obtain⟨fs,rfl⟩:=h.eq;unfold Program.stoodInHeld Program.stoodInAs;simp only[e];rfl
omit h in
theorem An{β γ:Type}(f g:γ->β->Sem (ForInStep β)):∀(l:List γ)(b:β),(∀a,a∈l->∀b,RE P P' C (f a b) (g a b))->RE P P' C (forIn l b f) (forIn l b g)
 |[],b,_=>by simp only[List.forIn_nil];exact bQ _
 |a::l,b,hf=>by
  simp only[List.forIn_cons]
  refine bS (hf a (iZ ..) b) λr=>?_
  cases r with
  |done b=>exact bQ _
  |yield b=>exact An f g l b λa ha=>hf a (eY _ ha)
def nk(P:Program)(t:TypeId):Bool:=gR P 10 t || match P.underlying t with|some (.struct fs)=>fs.toList.all λf=>gR P 10 f.type|_=>false
theorem LV(t:TypeId)(ht:nk P t=true)(n:Nat)(x y:Value):RE P P' C (Op.equalIn n t x y) (Op.equalIn n t x y):=by
 unfold nk at ht;rw[sT] at ht
 rcases ht with ht|ht
 .exact Am h 10 t ht n x y
 cases n with
 |zero=>exact dG _ _
 |succ n=>
  unfold Op.equalIn
  rcases hu:P.underlying t with _|td
  .rw[hu] at ht;cases ht
  rw[hu] at ht;refine jZ h hu ?_
  cases td with
  |struct fs=>
   have ht:∀f,f∈fs.toList->gR P 10 f.type=true:=gm.1 ht
   cases x<;>first|exact b8 _ _|skip
   cases y<;>first|exact b8 _ _|skip
   dsimp only;refine iL ?_;rw[LU h];split
   all_goals try refine bS (dG _ _) λ_=>?_
   all_goals
    rw[<-Array.forIn_toList]
    refine bS (An _ _ _ _ λf hf _=>?_) λ_=>?_
    .have hx:=Am (P':=P') (C:=C) h 10 _ (ht f hf) n
     repeat' first|exact bQ _|exact hx _ _|exact nO h _ _ _|refine bS ?_ λ_=>?_|split|dsimp only
    .split<;>exact bQ _
  |_=>cases ht
theorem EZ(t:TypeId)(ht:nk P t=true)(n:Nat)(x y:Value):RE P P' C (Op.eqGuardIn n t x y) (Op.eqGuardIn n t x y):=by
 unfold nk at ht;rw[sT] at ht
 rcases ht with ht|ht
 .exact EY h 10 t ht n x y
 cases n with
 |zero=>exact dG _ _
 |succ n=>
  unfold Op.eqGuardIn
  rcases hu:P.underlying t with _|td
  .rw[hu] at ht;cases ht
  rw[hu] at ht;refine jZ h hu ?_
  cases td with
  |struct fs=>
   have ht:∀f,f∈fs.toList->gR P 10 f.type=true:=gm.1 ht
   cases x<;>first|exact bQ _|skip
   cases y<;>first|exact bQ _|skip
   dsimp only
   all_goals
    rw[<-Array.forIn_toList]
    refine bS (An _ _ _ _ λf hf _=>?_) λ_=>?_
    .have hx:=EY (P':=P') (C:=C) h 10 _ (ht f hf) n
     repeat' first|exact bQ _|exact hx _ _|exact nO h _ _ _|refine bS ?_ λ_=>?_|split|dsimp only
    .split<;>exact bQ _
  |_=>cases ht
theorem LX(d:Nat)(t:TypeId):P'.eqGuardType d t=P.eqGuardType d t:=by
 obtain⟨fs,rfl⟩:=h.eq
 induction d generalizing t with
 |zero=>rfl
 |succ d ih=>simp only[Program.eqGuardType,ih];rfl
theorem LY{op:BinOp}{t:TypeId}(x y:Operand)(a b:Value)(hp:op=.eql\/op=.neq->nk P t=true):RE P P' C (eqGuard op t x y a b) (eqGuard op t x y a b):=by
 unfold eqGuard
 have key:nk P t=true->RE P P' C (do
  match a,b with
  |.nilIface,.nilIface=>
   if (x matches .const _) || (y matches .const _) then return
   if <-Op.eqGuardIn Op.maxDepth t a b then unsupported (.noEntry "binop/eql: two nil values of an interface type with methods, neither of them the literal nil")
  |.agg _,.agg _=>
   if !(<-program).eqGuardType (<-program).depth t then return
   if <-Op.eqGuardIn Op.maxDepth t a b then unsupported (.noEntry "binop/eql: two nil values of an interface type with methods, in a part of a struct or an array")
  |_,_=>pure ()) (do
  match a,b with
  |.nilIface,.nilIface=>
   if (x matches .const _) || (y matches .const _) then return
   if <-Op.eqGuardIn Op.maxDepth t a b then unsupported (.noEntry "binop/eql: two nil values of an interface type with methods, neither of them the literal nil")
  |.agg _,.agg _=>
   if !(<-program).eqGuardType (<-program).depth t then return
   if <-Op.eqGuardIn Op.maxDepth t a b then unsupported (.noEntry "binop/eql: two nil values of an interface type with methods, in a part of a struct or an array")
  |_,_=>pure ()):=λhx=>by
  skip
  split
  .repeat' first|exact bQ _|exact dG _ _|exact EZ h t hx _ _ _|refine bS ?_ λ_=>?_|split|dsimp only
  .refine iL (iL ?_);rw[LX h,h.depth]
   repeat' first|exact bQ _|exact dG _ _|exact EZ h t hx _ _ _|refine bS ?_ λ_=>?_|split|dsimp only
  .exact bQ _
 cases op with
 |eql=>grind
 |neq=>grind
 |_=>exact bQ _
theorem L3{op:BinOp}{t:TypeId}(a b:Value)(hp:op=.eql\/op=.neq->nk P t=true):RE P P' C (binOp op t a b) (binOp op t a b):=by
 unfold binOp
 split<;>first
  |exact LA h _ _ _ _ _
  |exact Ag _ _ _
  |exact EU h _ _ _
  |exact dG _ _
  |exact b8 _ _
  |exact bS (LV h t (hp ae) _ _ _) λ_=>bQ _
  |(repeat' first|contradiction|exact bQ _|exact b8 _ _|exact dG _ _|exact EJ _ _ _ _|exact Lz h _ _ _ _|exact EK _ _ _ _|exact Lr _ _ _|exact EH _ _ _ _|exact EI _ _ _ _|exact Lv _ _ _ _ _ _|exact Ah _|exact LJ h _ _ _|exact LL h _ _ _|exact LM h _ _ _|exact fp h _|exact EU h _ _ _|exact LN h _ _ _|refine bS ?_ λ_=>?_|split|dsimp only)
end
section
variable{P P':Program}{C:Cx}(h:Kin P P')
include h
omit h in
theorem E4{α β:Type}(f:α->Sem β)(hf:∀a,RE P P' C (f a) (f a))(l:Array α):RE P P' C (l.mapM f) (l.mapM f):=by
 rw[sL];refine EA ?_ _
 induction l.toList with
 |nil=>rw[List.mapM_nil];exact bQ _
 |cons a l ih=>rw[sK];exact bS (hf a) λb=>bS ih λbs=>bQ _
theorem L4(t:TypeId)(v:Value):RE P P' C (Instr.alloc t true v) (Instr.alloc t true v):=by
 unfold Instr.alloc
 refine bS (oR h t) λz=>?_
 dsimp only
 exact bS (wm _ _) λa=>bQ _
omit h in
theorem L5(t:TypeId)(v:Value):RE P P' C (Instr.box t v) (Instr.box t v):=bS (wm _ _) λa=>bQ _
theorem L6(t:TypeId)(ps:Array (Nat×Value)):RE P P' C (Instr.build t ps) (Instr.build t ps):=by
 unfold Instr.build
 repeat' first|exact bQ _|exact b8 _ _|exact oR h _|exact fp h _|exact gJ h _|exact E4 _ (λf=>bS (gJ h _) λn=>bQ _) _|refine bS ?_ λ_=>?_|split|dsimp only
theorem L8(t:TypeId)(n:Nat)(ps:Array (Nat×Value)):RE P P' C (Instr.buildSlice t n ps) (Instr.buildSlice t n ps):=by
 unfold Instr.buildSlice
 repeat' first|exact bQ _|exact b8 _ _|exact dG _ _|exact oR h _|exact fp h _|exact gJ h _|exact tH _ _|refine bS ?_ λ_=>?_|split|dsimp only
omit h in
theorem tK(v:Value):RE P P' C (Instr.sureAddr v) (Instr.sureAddr v):=by
 unfold Instr.sureAddr;split
 .exact bQ _
 .exact b8 _ _
theorem L9(t:TypeId)(v:Value):RE P P' C (Instr.loadAt t v) (Instr.loadAt t v):=bS (tK v) λa=>wj h t a
theorem Ma(t:TypeId)(v x:Value):RE P P' C (Instr.storeAt t v x) (Instr.storeAt t v x):=bS (tK v) λa=>Lp h t a x
theorem Mb(s:TypeId)(v:Value)(k:Nat):RE P P' C (Instr.fieldAt s v k) (Instr.fieldAt s v k):=by
 unfold Instr.fieldAt
 repeat' first|exact bQ _|exact b8 _ _|exact fp h _|exact tK _|exact ET h _ _|refine bS ?_ λ_=>?_|split|dsimp only
theorem Mc(t:TypeId)(x i:Value):RE P P' C (Instr.indexAt t x i) (Instr.indexAt t x i):=by
 unfold Instr.indexAt
 repeat' first|exact bQ _|exact b8 _ _|exact dG _ _|exact fp h _|exact tK _|exact gJ h _|exact wo _|exact Af h _ _ _ _|refine bS ?_ λ_=>?_|split|dsimp only
theorem Md(t:TypeId)(x i:Value):RE P P' C (Instr.index t x i) (Instr.index t x i):=by
 unfold Instr.index
 repeat' first|exact bQ _|exact b8 _ _|exact dG _ _|exact fp h _|exact nO h _ _ _|exact gJ h _|exact wo _|exact Af h _ _ _ _|refine bS ?_ λ_=>?_|split|dsimp only
omit h in
theorem Me(x:Value)(i:Nat):RE P P' C (Instr.extract x i) (Instr.extract x i):=by
 unfold Instr.extract
 repeat' first|exact bQ _|exact b8 _ _|split
theorem Mf(t:TypeId)(x:Value)(i:Nat):RE P P' C (Instr.field t x i) (Instr.field t x i):=by
 unfold Instr.field
 repeat' first|exact bQ _|exact b8 _ _|exact fp h _|exact nO h _ _ _|exact Lq _|refine bS ?_ λ_=>?_|split|dsimp only
theorem Mg(t:TypeId)(x:Value):RE P P' C (Instr.makeInterface t x) (Instr.makeInterface t x):=by
 unfold Instr.makeInterface
 repeat' first|exact bQ _|exact b8 _ _|exact fp h _|refine bS ?_ λ_=>?_|split|dsimp only
theorem Mh(t:TypeId)(r:Option Value):RE P P' C (Instr.makeMap t r) (Instr.makeMap t r):=by
 unfold Instr.makeMap
 repeat' first|exact bQ _|exact b8 _ _|exact fp h _|exact tI _|exact rl (o:=.map #[] 0) trivial|refine bS ?_ λ_=>?_|split|dsimp only
theorem Mi(t:TypeId)(x y:Value):RE P P' C (Instr.makeSlice t x y) (Instr.makeSlice t x y):=by
 unfold Instr.makeSlice
 repeat' first|exact bQ _|exact b8 _ _|exact fp h _|exact tI _|exact mW h _|exact gJ h _|exact oR h _|exact tH _ _|exact Ae _|exact gK h _|exact jX _|refine bS ?_ λ_=>?_|split|dsimp only
theorem Mj(x:Value)(y:Nat)(c:BoundsCode):RE P P' C (Instr.sliceBound x y c) (Instr.sliceBound x y c):=by
 unfold Instr.sliceBound
 repeat' first|exact bQ _|exact wo _|exact Af h _ _ _ _|refine bS ?_ λ_=>?_|split|dsimp only
theorem E5(b:Bool)(n c:Nat)(x y z:Option Value):RE P P' C (Instr.sliceBounds b n c x y z) (Instr.sliceBounds b n c x y z):=by
 unfold Instr.sliceBounds
 repeat' first|exact bQ _|exact b8 _ _|exact Mj h _ _ _|refine bS ?_ λ_=>?_|split|dsimp only
theorem Ml(t:TypeId)(x:Value)(a b c:Option Value):RE P P' C (Instr.slice t x a b c) (Instr.slice t x a b c):=by
 unfold Instr.slice
 repeat' first|exact bQ _|exact b8 _ _|exact fp h _|exact E5 h _ _ _ _ _ _|exact gJ h _|exact wx h _|refine bS ?_ λ_=>?_|split|dsimp only
theorem Mn(t:TypeId)(x:Value)(a b c:Option Value):RE P P' C (Instr.sliceAt t x a b c) (Instr.sliceAt t x a b c):=by
 unfold Instr.sliceAt
 repeat' first|exact bQ _|exact b8 _ _|exact fp h _|exact E5 h _ _ _ _ _ _|exact gJ h _|exact tK _|exact Ml h _ _ _ _ _|refine bS ?_ λ_=>?_|split|dsimp only
end
end Go.Fc
