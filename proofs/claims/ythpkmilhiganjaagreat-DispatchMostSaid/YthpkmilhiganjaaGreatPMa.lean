/- Lemmas. -/
import Derived.Test.YthpkmilhiganjaaGreatPAa
import Derived.Conc.Beside
set_option linter.all false
set_option maxHeartbeats 32000000
set_option maxRecDepth 100000
namespace Go.Fc
open Go
structure Cx where
 code:Code->Prop
 fn:Nat->Prop
 xf:Nat->Prop
def okO(C:Cx):Obj->Prop
 |.cells .. | .map .. | .number ..=>True
 |.deferred (some []) | .deferred none=>True
 |.loop l=>C.code l.assign/\C.code l.body/\C.fn l.fn/\∀c,l.pending=some c->C.code c
 |_=>False
def gH(b:Nat):Obj->Obj
 |.view _ u=>.view ⟨b,0,none⟩ u
 |.chan ..=>.chan 0 #[] false 0 0 false
 |_=>.coro none
def r7:Halt->Prop
 |.panic _ | .stuck _=>True
 |.unsupported (.initOrder _)=>False
 |.unsupported _=>True
 |_=>False
def ND(w:World):Prop:=∀(b:Nat)(ds:List Deferred),w.heap[b]?=some (Obj.deferred (some ds))->ds=[]
def pn{α:Type}(w:World):Result α->Prop
 |.halt h w'=>r7 h/\(ND w->ND w')
 |.ok _ _=>False
def NP(w:World):Prop:=∀(b:Nat)(c:Array Value)(e:TypeId),w.heap[b]?≠some (Obj.pending c e)
inductive RT(P P':Program)(C:Cx){α:Type}(D:α->Prop)(Q:α->α->Prop):Sem α->Sem α->Prop
 |pure (a b:α):Q a b->RT P P' C D Q (.pure a) (.pure b)
 |oB (a:α) (t:Sem α):D a->RT P P' C D Q (.pure a) t
 |bad (s t:Sem α):(∀w es,NP w->pn w (s.runT P w es).1)->RT P P' C D Q s t
 |load (a:Addr) (k k':Value->Sem α):(∀v,RT P P' C D Q (k v) (k' v))->RT P P' C D Q (.load .plain a k) (.load .plain a k')
 |store (a:Addr) (v:Value) (k k':Sem α):RT P P' C D Q k k'->RT P P' C D Q (.store .plain a v k) (.store .plain a v k')
 |new (o:Obj) (k k':Nat->Sem α):okO C o->(∀r,RT P P' C D Q (k r) (k' r))->RT P P' C D Q (.new o k) (.new o k')
 |pq (o:Obj) (s t:Sem α) (k k':Nat->Sem α):okO C o->(∀p w es,s.runT p w es=(k w.heap.size).runT p { w with heap:=w.heap.push o } es)->(∀p w es,t.runT p w es=(k' w.heap.size).runT p { w with heap:=w.heap.push o } es) ->
   (∀r,RT P P' C D Q (k r) (k' r))->RT P P' C D Q s t
 |shape (r:Nat) (k k':Option (TypeId×Nat)->Sem α):(∀x,RT P P' C D Q (k x) (k' x))->(∀e n,RT P P' C D Q (k (some (e,0))) (k' (some (e,n)))) ->
   RT P P' C D Q (.shape r k) (.shape r k')
 |frozen (a:Addr) (k k':Bool->Sem α):(∀x,RT P P' C D Q (k x) (k' x))->RT P P' C D Q (.frozen a k) (.frozen a k')
 |getObj (r:Nat) (k k':Obj->Sem α):(∀o,okO C o->RT P P' C D Q (k o) (k' o))->(∀o,¬okO C o->RT P P' C D Q (k (gH r o)) (k' o)) ->
   RT P P' C D Q (.getObj r k) (.getObj r k')
 |setObj (r:Nat) (o:Obj) (k k':Sem α):okO C o->RT P P' C D Q k k'->RT P P' C D Q (.setObj r o k) (.setObj r o k')
 |choose (q:Question) (k k':Nat->Sem α):(∀n,RT P P' C D Q (k n) (k' n))->RT P P' C D Q (.choose q k) (.choose q k')
 |program (k k':Program->Sem α):RT P P' C D Q (k P) (k' P')->RT P P' C D Q (.program k) (.program k')
 |mark (k k':Sem α):RT P P' C D Q k k'->RT P P' C D Q (.mark .noRoom k) (.mark .noRoom k')
section
variable{P P':Program}{C:Cx}{α β:Type}
theorem RT.mono{s t:Sem α}{D D':α->Prop}{Q Q':α->α->Prop}(h:RT P P' C D Q s t)(hd:∀a,D a->D' a)(hq:∀a b,Q a b->Q' a b):RT P P' C D' Q' s t:=by
 induction h with
 |pure a b h=>exact .pure a b (hq a b h)
 |oB a t h=>exact .oB a t (hd a h)
 |bad s t h=>exact .bad s t h
 |load a k k' _ ih=>exact .load a k k' ih
 |store a v k k' _ ih=>exact .store a v k k' ih
 |new o k k' ho _ ih=>exact .new o k k' ho ih
 |pq o s t k k' ho hs ht _ ih=>exact .pq o s t k k' ho hs ht ih
 |shape r k k' _ _ ih1 ih2=>exact .shape r k k' ih1 ih2
 |frozen a k k' _ ih=>exact .frozen a k k' ih
 |getObj r k k' _ _ ih1 ih2=>exact .getObj r k k' ih1 ih2
 |setObj r o k k' ho _ ih=>exact .setObj r o k k' ho ih
 |choose q k k' _ ih=>exact .choose q k k' ih
 |program k k' _ ih=>exact .program k k' ih
 |mark k k' _ ih=>exact .mark k k' ih
theorem RT.halt{h:Halt}(hc:r7 h)(t:Sem α){D:α->Prop}{Q:α->α->Prop}:RT P P' C D Q (.halt h) t:=.bad _ _ λw es _=>⟨hc,id⟩
theorem RT.bind{s t:Sem α}{f g:α->Sem β}{M:α->α->Prop}{D:β->Prop}{Q:β->β->Prop}(h:RT P P' C (λ_=>False) M s t)(hf:∀a b,M a b->RT P P' C D Q (f a) (g b)):RT P P' C D Q (s.bind f) (t.bind g):=by
 induction h with
 |pure a b h=>exact hf a b h
 |oB a t h=>exact h.elim
 |bad s t h=>
  refine .bad _ _ λw es hn=>?_
  have hx:=h w es hn;rw[Sem.runT_bind']
  rcases hr:s.runT P w es with ⟨r,h5⟩
  rw[hr] at hx
  cases r with
  |ok a0 w0=>exact hx.elim
  |halt h0 w0=>exact hx
 |load a k k' _ ih=>exact .load a _ _ ih
 |store a v k k' _ ih=>exact .store a v _ _ ih
 |new o k k' ho _ ih=>exact .new o _ _ ho ih
 |pq o s t k k' ho hs ht _ ih=>exact .pq o _ _ (λr=>(k r).bind f) (λr=>(k' r).bind g) ho (λp w es=>by rw[Sem.runT_bind',Sem.runT_bind',hs]) (λp w es=>by rw[Sem.runT_bind',Sem.runT_bind',ht]) ih
 |shape r k k' _ _ ih1 ih2=>exact .shape r _ _ ih1 ih2
 |frozen a k k' _ ih=>exact .frozen a _ _ ih
 |getObj r k k' _ _ ih1 ih2=>exact .getObj r _ _ ih1 ih2
 |setObj r o k k' ho _ ih=>exact .setObj r o _ _ ho ih
 |choose q k k' _ ih=>exact .choose q _ _ ih
 |program k k' _ ih=>exact .program _ _ ih
 |mark k k' _ ih=>exact .mark _ _ ih
end
structure Sh where
 dead:Nat->Prop
 part:Nat->Nat->Prop
 old:Nat->Obj->Prop
def Sh.fS(S:Sh)(e:Event):Prop:=∀a,e.loc=.cell a->¬S.part a.block a.off
structure Lk(C:Cx)(S:Sh)(A B:World):Prop where
 size:A.heap.size=B.heap.size
 low:∀b,S.dead b->b<A.heap.size
 same:∀b,¬S.dead b->(A.heap[b]?=B.heap[b]?/\∀o,A.heap[b]?=some o->okO C o)\/(∃o,B.heap[b]?=some o/\¬okO C o/\A.heap[b]?=some (gH b o)/\S.old b o) \/
  ∃cA cB e fr,A.heap[b]?=some (.cells cA e fr)/\B.heap[b]?=some (.cells cB e fr)/\cA.size=cB.size/\∀i,¬S.part b i->cA[i]?=cB[i]?
 dead:∀b,S.dead b->∃c e fr,A.heap[b]?=some (.cells #[] e fr)/\B.heap[b]?=some (.cells c e fr)
 os:A.os=B.os
 output:A.output=B.output
def EvT(S:Sh)(w:World)(e:Event):Prop:=
 (∃a wr,e=⟨.cell a,wr,false⟩/\(∃c ty fr,w.heap[a.block]?=some (.cells c ty fr))/\¬S.dead a.block)\/(∃r wr sy,e=⟨.obj r,wr,sy⟩/\r<w.heap.size/\¬S.dead r)\/e=⟨.mark .noRoom,false,true⟩
theorem DZ{w:World}{a:Addr}{v:Value}(h:w.cell? a=some v):∃c ty fr,w.heap[a.block]?=some (.cells c ty fr):=by
 unfold World.cell? at h
 grind
section
variable{P P':Program}{C:Cx}{S:Sh}{A B:World}
theorem Lk.Il(h:Lk C S A B){b:Nat}{c:Array Value}{e:TypeId}{f:Nat×Nat}(hS:¬S.dead b)(hb:A.heap[b]?=some (.cells c e f)):∃cB,B.heap[b]?=some (.cells cB e f)/\c.size=cB.size/\∀i,¬S.part b i->c[i]?=cB[i]?:=by
 rcases h.same b hS with ⟨e,_⟩|⟨o',h1,h2,h3,_⟩|⟨cA,cB,e,f,h1,h2,h3,h4⟩
 .exact⟨c,by rw[<-e];exact hb,rfl,λ_ _=>rfl⟩
 .rw[h3] at hb
  cases o'<;>first|exact absurd trivial h2|cases hb
 simp_all
theorem Lk.cell0(h:Lk C S A B){a:Addr}{v:Value}(hc:A.cell? a=some v):¬S.dead a.block/\a.block<A.heap.size/\∃u,B.cell? a=some u/\(¬S.part a.block a.off->u=v):=by
 have hn:¬S.dead a.block:=by
  intro hs;obtain⟨c,e,fr,h1,_⟩:=h.dead _ hs;simp[World.cell?,h1] at hc
 rcases hx:A.heap[a.block]? with _|o
 .simp[World.cell?,hx] at hc
 refine⟨hn,(cY.1 hx).1,?_⟩;unfold World.cell? at hc ⊢;rw[hx] at hc
 cases o<;>first|cases hc|skip
 obtain⟨cB,h1,h2,h3⟩:=h.Il hn hx;rw[h1]
 grind
theorem Lk.cell(h:Lk C S A B){a:Addr}{v:Value}(hc:A.cell? a=some v)(hp:¬S.part a.block a.off):¬S.dead a.block/\a.block<A.heap.size/\B.cell? a=some v:=
 let ⟨h1,h2,u,h3,h4⟩:=h.cell0 hc;⟨h1,h2,h4 hp▸h3⟩
theorem Lk.np(h:Lk C S A B):NP A:=by
 intro b c e hb;by_cases hS:S.dead b
 .obtain⟨c',e',fr,h1,_⟩:=h.dead _ hS;rw[hb] at h1;cases h1
 .rcases h.same _ hS with ⟨_,ho⟩|⟨o,h1,h2,h3,_⟩|⟨_,_,_,_,h1,_⟩
  .exact ho _ hb
  .rw[hb] at h3
   cases o<;>simp[gH] at h3
  simp_all
theorem Lk.nd(h:Lk C S A B):ND A:=by
 intro b ds hb;by_cases hS:S.dead b
 .obtain⟨c',e',fr,h1,_⟩:=h.dead _ hS;rw[hb] at h1;cases h1
 .rcases h.same _ hS with ⟨_,ho⟩|⟨o,h1,h2,h3,_⟩|⟨_,_,_,_,h1,_⟩
  .have:=ho _ hb
   cases ds with
   |nil=>rfl
   |cons d r=>exact this.elim
  .rw[hb] at h3
   cases o<;>simp[gH] at h3
  simp_all
theorem Lk.frozen(h:Lk C S A B)(a:Addr):B.frozen? a=A.frozen? a:=by
 unfold World.frozen?;by_cases hS:S.dead a.block
 .obtain⟨c,e,fr,h1,h2⟩:=h.dead _ hS;rw[h1,h2]
 .rcases h.same _ hS with ⟨e,_⟩|⟨o,h1,h2,h3,_⟩|⟨_,_,_,_,h1,h2,_⟩
  .rw[e]
  .rw[h1,h3]
   cases o<;>first|rfl|exact absurd trivial h2
  grind
theorem Lk.shape(h:Lk C S A B)(r:Nat):A.shape? r=B.shape? r\/∃e n,A.shape? r=some (e,0)/\B.shape? r=some (e,n):=by
 unfold World.shape?;by_cases hS:S.dead r
 .obtain⟨c,e,fr,h1,h2⟩:=h.dead _ hS;rw[h1,h2];simp
 .rcases h.same _ hS with ⟨e,_⟩|⟨o,h1,h2,h3,_⟩|⟨_,_,_,_,h1,h2,h3,_⟩
  .rw[e];exact .inl rfl
  .rw[h1,h3]
   cases o<;>first|exact .inl rfl|exact absurd trivial h2
  simp_all
theorem Lk.push(h:Lk C S A B){o:Obj}(ho:okO C o):Lk C S { A with heap:=A.heap.push o } { B with heap:=B.heap.push o }:=by
 refine⟨by simp[h.size],λb hb=>by have:=h.low b hb;simp;omega,λb hb=>?_,λb hb=>?_,h.os,h.output⟩
 .simp only[qg,h.size];split
  .simp_all
  .exact h.same b hb
 .have:=h.low b hb;obtain⟨c,e,fr,h1,h2⟩:=h.dead _ hb
  grind
theorem Lk.set(h:Lk C S A B){r:Nat}(hr:¬S.dead r){o:Obj}(ho:okO C o):Lk C S { A with heap:=A.heap.setIfInBounds r o } { B with heap:=B.heap.setIfInBounds r o }:=by
 refine⟨by simp[h.size],λb hb=>by simpa using h.low b hb,λb hb=>?_,λb hb=>?_,h.os,h.output⟩
 .simp only[iU,h.size];split
  .simp_all
  .exact h.same b hb
 .have hm:r≠b:=λe=>hr (e▸hb)
  simp only[iU,bP hm];exact h.dead b hb
theorem Lk.setCell(h:Lk C S A B){a:Addr}{u:Value}(hc:A.cell? a=some u)(v:Value):Lk C S (A.setCell a v) (B.setCell a v):=by
 obtain⟨hn,hg,_⟩:=h.cell0 hc;refine⟨by simp[World.setCell,h.size],λb hb=>by simpa[World.setCell] using h.low b hb,λb hb=>?_,λb hb=>?_,h.os,h.output⟩
 .simp only[World.setCell,fu];split
  .rename_i e;subst e
   rcases hx:A.heap[a.block]? with _|o
   .simp_all
   .cases o<;>simp[World.cell?,hx] at hc
    obtain⟨cB,h1,h2,h3⟩:=h.Il hn hx;rw[h1]
    grind
  .exact h.same b hb
 .have hm:a.block≠b:=λe=>hn (e▸hb)
  simp only[World.setCell,fu,bP hm];exact h.dead b hb
theorem Lk.far(h:Lk C S A B)(p:Program)(a:Addr)(at_:Bool):∃e,A.farLoad p a at_=.error e:=by
 unfold World.farLoad
 rcases hx:A.heap[a.block]? with _|o
 .simp
 .cases o<;>first|exact⟨_,rfl⟩|skip
  rename_i v u
  have hv:v.block=a.block:=by
   by_cases hS:S.dead a.block
   .obtain⟨c,e,fr,h1,_⟩:=h.dead _ hS;rw[hx] at h1;cases h1
   .rcases h.same _ hS with ⟨_,ho⟩|⟨o,h1,h2,h3,_⟩|⟨_,_,_,_,h1,_⟩
    .exact (ho _ hx).elim
    .rw[hx] at h3
     cases o<;>simp[gH] at h3
     rw[h3.1]
    .rw[hx] at h1;cases h1
  have hs:∀k,∃e,A.seen p v u k at_=.error e:=λk=>by
   rcases hy:A.seen p v u k at_ with e|x
   .exact⟨e,rfl⟩
   .exfalso;unfold World.seen at hy;rw[hv,hx] at hy;simp only[bind,Except.bind,throw,throwThe,MonadExceptOf.throw,pure,Except.pure] at hy
    repeat' split at hy
    all_goals first|cases hy|skip
  obtain⟨e,he⟩:=hs a;simp only[World.viewLoad,he,bind,Except.bind];simp
theorem Lk.Cf(h:Lk C S A B)(p:Program)(a:Addr)(v:Value)(at_:Bool):∃e,A.farStore p a v at_=.error e:=by
 unfold World.farStore
 rcases hx:A.heap[a.block]? with _|o
 .simp
 .cases o<;>first|exact⟨_,rfl⟩|skip
  rename_i w u
  have hv:w.block=a.block:=by
   by_cases hS:S.dead a.block
   .obtain⟨c,e,fr,h1,_⟩:=h.dead _ hS;rw[hx] at h1;cases h1
   .rcases h.same _ hS with ⟨_,ho⟩|⟨o,h1,h2,h3,_⟩|⟨_,_,_,_,h1,_⟩
    .exact (ho _ hx).elim
    .rw[hx] at h3
     cases o<;>simp[gH] at h3
     rw[h3.1]
    simp_all
  have hs:∀k,∃e,A.seen p w u k at_=.error e:=λk=>by
   rcases hy:A.seen p w u k at_ with e|x
   .simp
   .exfalso;unfold World.seen at hy;rw[hv,hx] at hy;simp only[bind,Except.bind,throw,throwThe,MonadExceptOf.throw,pure,Except.pure] at hy
    repeat' split at hy
    all_goals first|cases hy|skip
  obtain⟨e,he⟩:=hs a
  rcases hz:A.viewStore p w u a v at_ with e|x
  .simp_all
  .exfalso;unfold World.viewStore at hz;simp only[he,bind,Except.bind,throw,throwThe,MonadExceptOf.throw,pure,Except.pure] at hz
   grind
structure Kept(es:Array Event)(B B':World):Prop where
 os:B'.os=B.os
 output:B'.output=B.output
 size:B.heap.size<=B'.heap.size
 obj:∀b,b<B.heap.size->((∀c ty fr,B.heap[b]?≠some (.cells c ty fr))\/∀e∈es,e.write=true->∀a,e.loc=.cell a->a.block≠b)->(∀e∈es,e.write=true->e.loc≠.obj b)->B'.heap[b]?=B.heap[b]?
 cell:∀b c ty fr,B.heap[b]?=some (.cells c ty fr)->∃c',B'.heap[b]?=some (.cells c' ty fr)/\c'.size=c.size/\∀i,(∀e∈es,e.write=true->∀a,e.loc=.cell a->a.block=b->a.off≠i)->c'[i]?=c[i]?
theorem EvT.mono{S:Sh}{es:Array Event}{w w':World}{e:Event}(h:EvT S w e)(k:Kept es w w'):EvT S w' e:=by
 rcases h with ⟨a,wr,rfl,⟨c,ty,fr,h1⟩,h2⟩|⟨r,wr,sy,rfl,h1,h2⟩|rfl
 .obtain⟨c',h3,_⟩:=k.cell _ c ty fr h1;exact .inl ⟨a,wr,rfl,⟨c',ty,fr,h3⟩,h2⟩
 .exact .inr (.inl ⟨r,wr,sy,rfl,lY h1 k.size,h2⟩)
 .exact .inr (.inr rfl)
theorem Kept.refl(es:Array Event)(B:World):Kept es B B:=⟨rfl,rfl,bS _,λ_ _ _ _=>rfl,λb c ty fr h=>⟨c,h,rfl,λ_ _=>rfl⟩⟩
theorem Kept.trans{e n:Array Event}{B B1 B2:World}(h:Kept e B B1)(k:Kept n B1 B2):Kept (e++n) B B2:=by
 refine⟨k.os.trans h.os,k.output.trans h.output,dJ h.size k.size,λb hb h1 h2=>?_,λb c ty fr hc=>?_⟩
 .have e1:=h.obj b hb (h1.imp id λh1 x hx=>h1 x (JH _ hx)) (λx hx=>h2 x (JH _ hx));exact (k.obj b (lY hb h.size) (h1.imp (λh1=>by rw[e1];exact h1) λh1 x hx=>h1 x (JI _ hx)) (λx hx=>h2 x (JI _ hx))).trans e1
 .obtain⟨c1,a1,a2,a3⟩:=h.cell b c ty fr hc;obtain⟨c2,b1,b2,b3⟩:=k.cell b c1 ty fr a1
  grind
theorem Kept.draw(B:World)(d:Nat):Kept #[] B { B with drawn:=d }:=⟨rfl,rfl,bS _,λ_ _ _ _=>rfl,λb c ty fr h=>⟨c,h,rfl,λ_ _=>rfl⟩⟩
theorem Kept.push(B:World)(o:Obj):Kept #[] B { B with heap:=B.heap.push o }:=by
 have e:∀b,b<B.heap.size->(B.heap.push o)[b]?=B.heap[b]?:=λb hb=>by rw[qg,bP ab]
 exact⟨rfl,rfl,ae,λb hb _ _=>e b hb,λb c ty fr h=>⟨c,(e b (cY.1 h).1).trans h,rfl,λ_ _=>rfl⟩⟩
theorem Kept.setCell(B:World)(a:Addr)(v:Value)(sy:Bool):Kept #[⟨.cell a,true,sy⟩] B (B.setCell a v):=by
 refine⟨rfl,rfl,ae,λb hb h1 h2=>?_,λb c ty fr h=>?_⟩
 .rcases h1 with h1|h1
  .by_cases hh:a.block=b
   .subst hh
    rcases hx:B.heap[a.block]? with _|o
    .simp_all
    .cases o<;>first|exact absurd hx (h1 _ _ _)|simp[World.setCell,fu,hx]
   .simp[World.setCell,fu,hh]
  .have:=h1 ⟨.cell a,true,sy⟩ ae rfl a rfl;simp[World.setCell,fu,this]
 .by_cases hb:a.block=b
  .subst hb;refine⟨if a.spot.isSome then c else c.setIfInBounds a.off v,by simp[World.setCell,fu,h],by split<;>simp,λi hi=>?_⟩;have:=hi ⟨.cell a,true,sy⟩ ae rfl a rfl rfl
   grind
  .exact⟨c,by simp[World.setCell,fu,hb,h],rfl,λ_ _=>rfl⟩
theorem Kept.setObj(B:World)(r:Nat)(o o1:Obj)(h0:B.heap[r]?=some o1)(hn:¬∃c e f,o1=.cells c e f)(sy:Bool):Kept #[⟨.obj r,true,sy⟩] B { B with heap:=B.heap.setIfInBounds r o }:=by
 refine⟨rfl,rfl,ae,λb hb h1 h2=>?_,λb c ty fr h=>?_⟩
 .have:r≠b:=λe=>h2 ⟨.obj r,true,sy⟩ ae rfl (by rw[e])
  simp[iU,this]
 grind
structure Alike(P':Program)(C:Cx)(S:Sh){α:Type}(t:Sem α)(Q:α->α->Prop)(A B:World)(es fs:Array Event)(a:α)(A':World)(h5:Array Event):Prop where
 drawn:A.drawn<=A'.drawn
 tape:A'.tape=A.tape
 size:A.heap.size<=A'.heap.size
 alike:(∀j,A.drawn+j<A'.drawn->B.tape (B.drawn+j)=A.tape (A.drawn+j)) ->
  ∃(b:α)(B':World)(new:Array Event),t.runT P' B fs=(.ok b B',fs++new)/\h5=es++new/\Q a b/\Lk C S A' B' /\
   B'.tape=B.tape/\B'.drawn=B.drawn+(A'.drawn-A.drawn)/\Kept new B B'/\∀e∈new,EvT S B' e
theorem Alike.step{α:Type}{t t':Sem α}{Q:α->α->Prop}{A B A1 B1 A':World}{es fs h5:Array Event}{a:α}(e:Array Event)(c:Nat)(h2:(∀j,j<c->B.tape (B.drawn+j)=A.tape (A.drawn+j))->t.runT P' B fs=t'.runT P' B1 (fs++e))(hd:A1.drawn=A.drawn+c)(hdB:B1.drawn=B.drawn+c)(ht:A1.tape=A.tape)(htB:B1.tape=B.tape)(a4:Kept e B B1)(hs:A.heap.size<=A1.heap.size)(ev:∀x∈e,EvT S B1 x)(x:Alike P' C S t' Q A1 B1 (es++e) (fs++e) a A' h5):Alike P' C S t Q A B es fs a A' h5:=by
 have x1:=x.drawn;have x4:=x.size;refine⟨ab,x.tape.trans ht,ab,?_⟩;intro ag;rw[h2 λj hj=>ag j ab]
 obtain⟨b,B',new,y1,y2,y7,y3,y4,y5,y8,y6⟩:=x.alike λj hj=>by
  have:=ag (c+j) ab;rw[htB,ht,hd,hdB,qh,qh];exact this
 refine⟨b,B',e++new,by rw[y1,vl],by rw[y2,vl],y7,y3,y4.trans htB,by rw[y5];omega,a4.trans y8,λz hz=>?_⟩
 rcases yw.1 hz with hz|hz
 .exact (ev z hz).mono y8
 simp_all
theorem l8(es:Array Event)(e:Event):es.push e=es++#[e]:=ae
theorem J2{α:Type}{s:Sem α}{A:World}{es h5:Array Event}(h:(s.runT P A es).2=h5):∀e∈es,e∈h5:=by
 intro e he;rw[<-h,Sem.runT_eq];show e∈s.events P A es;rw[Sem.events_acc];simp_all
theorem rG{α:Type}{D:α->Prop}{Q:α->α->Prop}{s t:Sem α}(h:RT P P' C D Q s t):∀(A B:World)(es fs:Array Event)(a:α)(A':World)(h5:Array Event),Lk C S A B->s.runT P A es=(.ok a A',h5)->(∀e∈h5,S.fS e)->D a\/Alike P' C S t Q A B es fs a A' h5:=by
 induction h with
 |oB a t hd=>
  intro A B es fs a0 A' h5 hl hr h9;simp only[Sem.runT,dC,Result.ok.injEq] at hr;exact .inl (hr.1.1▸hd)
 |pure a b hq=>
  intro A B es fs a0 A' h5 hl hr h9;simp only[Sem.runT,dC,Result.ok.injEq] at hr;obtain⟨⟨rfl,rfl⟩,rfl⟩:=hr;exact .inr ⟨bS _,rfl,bS _,λ_=>⟨b,B,#[],by simp[Sem.runT],ae,hq,hl,rfl,ae,.refl _ _,ae⟩⟩
 |bad s t hb=>
  intro A B es fs a0 A' h5 hl hr h9;have:=hb A es hl.np;rw[hr] at this;exact this.elim
 |load a k k' _ ih=>
  intro A B es fs a0 A' h5 hl hr h9
  rcases hx:A.cell? a with _|v
  .obtain⟨e,he⟩:=hl.far P a (Mode.plain == .atomic);simp[-Sem.runT_eq,Sem.runT,hx,he] at hr
  .have hp:¬S.part a.block a.off:=h9 ⟨.cell a,false,false⟩ (by
    simp only[Sem.runT,hx] at hr
    exact J2 (congrArg Prod.snd hr) _ ae) a rfl
   obtain⟨h1,h2,h3⟩:=hl.cell hx hp
   have e1:(Sem.load .plain a k).runT P A es=(k v).runT P A (es++#[⟨.cell a,false,false⟩]):=by rw[<-l8];simp only[Sem.runT,hx];rfl
   have e2:(Sem.load .plain a k').runT P' B fs=(k' v).runT P' B (fs++#[⟨.cell a,false,false⟩]):=by rw[<-l8];simp only[Sem.runT,h3];rfl
   rw[e1] at hr
   refine (ih v A B _ _ a0 A' h5 hl hr h9).imp id λx=>.step _ 0 (λ_=>e2) rfl rfl rfl rfl (.refl _ _) (bS _) (λx hx=>?_) x
   obtain rfl:x=_:=by simpa using hx
   exact .inl ⟨a,false,rfl,DZ h3,h1⟩
 |store a v k k' _ ih=>
  intro A B es fs a0 A' h5 hl hr h9;by_cases hv:(∃cs,v=.agg cs)\/∃cs,v=.tuple cs
  .exfalso
   rcases hv with ⟨cs,rfl⟩|⟨cs,rfl⟩<;>simp[-Sem.runT_eq,Sem.runT] at hr
  rcases hx:A.cell? a with _|u
  .obtain⟨e,he⟩:=hl.Cf P a v (Mode.plain == .atomic)
   cases v<;>first|exact absurd (.inl ⟨_,rfl⟩) hv|exact absurd (.inr ⟨_,rfl⟩) hv|(simp[-Sem.runT_eq,Sem.runT,hx,he] at hr)
  .obtain⟨h1,h2,u2,h3,_⟩:=hl.cell0 hx;have hw:=hl.frozen a
   rcases hz:A.frozen? a with _|_
   .have e1:(Sem.store .plain a v k).runT P A es=k.runT P (A.setCell a v) (es++#[⟨.cell a,true,false⟩]):=by
     rw[<-l8]
     cases v<;>first|exact absurd (.inl ⟨_,rfl⟩) hv|exact absurd (.inr ⟨_,rfl⟩) hv|(simp only[Sem.runT,hx,hz];rfl)
    have e2:(Sem.store .plain a v k').runT P' B fs=k'.runT P' (B.setCell a v) (fs++#[⟨.cell a,true,false⟩]):=by
     rw[<-l8]
     cases v<;>first|exact absurd (.inl ⟨_,rfl⟩) hv|exact absurd (.inr ⟨_,rfl⟩) hv|(simp only[Sem.runT,h3,hw,hz];rfl)
    rw[e1] at hr
    refine (ih _ _ _ _ a0 A' h5 (hl.setCell hx v) hr h9).imp id λx=>.step (A1:=A.setCell a v) _ 0 (λ_=>e2) rfl rfl rfl rfl (.setCell _ _ _ _) (by simp[World.setCell]) (λx hx=>?_) x
    obtain rfl:x=_:=by simpa using hx
    obtain⟨c,ty,fr,hc⟩:=DZ h3;exact .inl ⟨a,true,rfl,let ⟨c',h,_⟩:=(Kept.setCell B a v false).cell _ _ _ _ hc;⟨c',_,_,h⟩,h1⟩
   .exfalso
    cases v<;>first|exact absurd (.inl ⟨_,rfl⟩) hv|exact absurd (.inr ⟨_,rfl⟩) hv|(simp[-Sem.runT_eq,Sem.runT,hx,hz] at hr)
 |new o k k' ho _ ih=>
  intro A B es fs a0 A' h5 hl hr h9
  have e1:(Sem.new o k).runT P A es=(k A.heap.size).runT P { A with heap:=A.heap.push o } (es++#[]):=by simp[-Sem.runT_eq,Sem.runT]
  have e2:(Sem.new o k').runT P' B fs=(k' A.heap.size).runT P' { B with heap:=B.heap.push o } (fs++#[]):=by simp[-Sem.runT_eq,Sem.runT,hl.size]
  rw[e1] at hr
  exact (ih _ _ _ _ _ a0 A' h5 (hl.push ho) hr h9).imp id λx=>.step (A1:={ A with heap:=A.heap.push o }) #[] 0 (λ_=>e2) rfl rfl rfl rfl (.push _ _) ae ae x
 |pq o s t k k' ho hs ht _ ih=>
  intro A B es fs a0 A' h5 hl hr h9
  have e1:s.runT P A es=(k A.heap.size).runT P { A with heap:=A.heap.push o } (es++#[]):=by rw[hs,m7]
  have e2:t.runT P' B fs=(k' A.heap.size).runT P' { B with heap:=B.heap.push o } (fs++#[]):=by rw[ht,m7,hl.size]
  rw[e1] at hr
  exact (ih _ _ _ _ _ a0 A' h5 (hl.push ho) hr h9).imp id λx=>.step (A1:={ A with heap:=A.heap.push o }) #[] 0 (λ_=>e2) rfl rfl rfl rfl (.push _ _) ae ae x
 |shape r k k' _ _ ih1 ih2=>
  intro A B es fs a0 A' h5 hl hr h9
  have e1:(Sem.shape r k).runT P A es=(k (A.shape? r)).runT P A (es++#[]):=by simp[-Sem.runT_eq,Sem.runT]
  have e2:(Sem.shape r k').runT P' B fs=(k' (B.shape? r)).runT P' B (fs++#[]):=by simp[-Sem.runT_eq,Sem.runT]
  rw[e1] at hr
  rcases hl.shape r with e|⟨e,n,h1,h2⟩
  .rw[<-e] at e2
   exact (ih1 _ _ _ _ _ a0 A' h5 hl hr h9).imp id λx=>.step #[] 0 (λ_=>e2) rfl rfl rfl rfl (.refl _ _) (bS _) ae x
  .rw[h1] at hr;rw[h2] at e2
   exact (ih2 _ _ _ _ _ _ a0 A' h5 hl hr h9).imp id λx=>.step #[] 0 (λ_=>e2) rfl rfl rfl rfl (.refl _ _) (bS _) ae x
 |frozen a k k' _ ih=>
  intro A B es fs a0 A' h5 hl hr h9
  have e1:(Sem.frozen a k).runT P A es=(k (A.frozen? a)).runT P A (es++#[]):=by simp[-Sem.runT_eq,Sem.runT]
  have e2:(Sem.frozen a k').runT P' B fs=(k' (A.frozen? a)).runT P' B (fs++#[]):=by simp[-Sem.runT_eq,Sem.runT,hl.frozen]
  rw[e1] at hr
  exact (ih _ _ _ _ _ a0 A' h5 hl hr h9).imp id λx=>.step #[] 0 (λ_=>e2) rfl rfl rfl rfl (.refl _ _) (bS _) ae x
 |getObj r k k' _ _ ih1 ih2=>
  intro A B es fs a0 A' h5 hl hr h9;by_cases hS:S.dead r
  .obtain⟨c,e,fr,h1,_⟩:=hl.dead r hS;simp[-Sem.runT_eq,Sem.runT,h1] at hr
  rcases hx:A.heap[r]? with _|o
  .simp[-Sem.runT_eq,Sem.runT,hx] at hr
  by_cases h8:∃c e f,o=.cells c e f
  .obtain⟨c,e,f,rfl⟩:=h8;simp[-Sem.runT_eq,Sem.runT,hx] at hr
  have e1:(Sem.getObj r k).runT P A es=(k o).runT P A (es++#[⟨.obj r,false,o.isChan⟩]):=by
   rw[<-l8];cases o<;>first|exact absurd ⟨_,_,_,rfl⟩ h8|(simp only[Sem.runT,hx])
  rw[e1] at hr;have hg:=(cY.1 hx).1
  rcases hl.same r hS with ⟨e,ho⟩|⟨o',h1,h2,h3,_⟩|⟨_,_,_,_,h1,_⟩
  .rw[hx] at e
   have e2:(Sem.getObj r k').runT P' B fs=(k' o).runT P' B (fs++#[⟨.obj r,false,o.isChan⟩]):=by
    rw[<-l8];cases o<;>first|exact absurd ⟨_,_,_,rfl⟩ h8|(simp only[Sem.runT,<-e])
   refine (ih1 o (ho o hx) A B _ _ a0 A' h5 hl hr h9).imp id λx=>.step _ 0 (λ_=>e2) rfl rfl rfl rfl (.refl _ _) (bS _) (λx hk=>?_) x
   obtain rfl:x=_:=by simpa using hk
   exact .inr (.inl ⟨r,false,_,rfl,hl.size▸hg,hS⟩)
  .rw[hx] at h3;obtain rfl:=fL h3
   have e2:(Sem.getObj r k').runT P' B fs=(k' o').runT P' B (fs++#[⟨.obj r,false,(gH r o').isChan⟩]):=by
    rw[<-l8];cases o'<;>first|exact absurd trivial h2|(simp only[Sem.runT,h1];rfl)
   refine (ih2 o' h2 A B _ _ a0 A' h5 hl hr h9).imp id λx=>.step _ 0 (λ_=>e2) rfl rfl rfl rfl (.refl _ _) (bS _) (λx hk=>?_) x
   obtain rfl:x=_:=by simpa using hk
   exact .inr (.inl ⟨r,false,_,rfl,hl.size▸hg,hS⟩)
  .rw[hx] at h1;exact absurd ⟨_,_,_,fL h1⟩ h8
 |setObj r o k k' ho _ ih=>
  intro A B es fs a0 A' h5 hl hr h9;by_cases hS:S.dead r
  .obtain⟨c,e,fr,h1,_⟩:=hl.dead r hS;simp[-Sem.runT_eq,Sem.runT,h1] at hr
  rcases hx:A.heap[r]? with _|o0
  .simp[-Sem.runT_eq,Sem.runT,hx] at hr
  by_cases h8:∃c e f,o0=.cells c e f
  .obtain⟨c,e,f,rfl⟩:=h8;simp[-Sem.runT_eq,Sem.runT,hx] at hr
  have hg:=(cY.1 hx).1
  have hB:∃o1,B.heap[r]?=some o1/\¬∃c e f,o1=.cells c e f:=by
   rcases hl.same r hS with ⟨e,_⟩|⟨o',h1,h2,h3,_⟩|⟨_,_,_,_,h1,_⟩
   .exact⟨o0,by rw[<-e];exact hx,h8⟩
   .refine⟨o',h1,?_⟩
    rintro⟨c,e,f,rfl⟩
    exact h2 trivial
   .rw[hx] at h1;exact absurd ⟨_,_,_,fL h1⟩ h8
  obtain⟨o1,hB1,hB2⟩:=hB
  have e1:(Sem.setObj r o k).runT P A es=k.runT P { A with heap:=A.heap.setIfInBounds r o } (es++#[⟨.obj r,true,o.isChan⟩]):=by
   rw[<-l8];cases o0<;>first|exact absurd ⟨_,_,_,rfl⟩ h8|(simp only[Sem.runT,hx])
  have e2:(Sem.setObj r o k').runT P' B fs=k'.runT P' { B with heap:=B.heap.setIfInBounds r o } (fs++#[⟨.obj r,true,o.isChan⟩]):=by
   rw[<-l8];cases o1<;>first|exact absurd ⟨_,_,_,rfl⟩ hB2|(simp only[Sem.runT,hB1])
  rw[e1] at hr
  refine (ih _ _ _ _ a0 A' h5 (hl.set hS ho) hr h9).imp id λx=>.step (A1:={ A with heap:=A.heap.setIfInBounds r o }) _ 0 (λ_=>e2) rfl rfl rfl rfl (.setObj _ _ _ _ hB1 hB2 _) ae (λx hk=>?_) x
  obtain rfl:x=_:=by simpa using hk
  exact .inr (.inl ⟨r,true,_,rfl,by simpa[<-hl.size] using hg,hS⟩)
 |choose q k k' _ ih=>
  intro A B es fs a0 A' h5 hl hr h9;by_cases hq:q.forced=true
  .have e1:(Sem.choose q k).runT P A es=(k 0).runT P A (es++#[]):=by simp[-Sem.runT_eq,Sem.runT,hq]
   have e2:(Sem.choose q k').runT P' B fs=(k' 0).runT P' B (fs++#[]):=by simp[-Sem.runT_eq,Sem.runT,hq]
   rw[e1] at hr
   exact (ih 0 _ _ _ _ a0 A' h5 hl hr h9).imp id λx=>.step #[] 0 (λ_=>e2) rfl rfl rfl rfl (.refl _ _) (bS _) ae x
  .have e1:(Sem.choose q k).runT P A es=(k (q.cut (A.tape A.drawn q))).runT P { A with drawn:=A.drawn+1 } (es++#[]):=by simp[-Sem.runT_eq,Sem.runT,hq]
   rw[e1] at hr
   refine (ih _ { A with drawn:=A.drawn+1 } { B with drawn:=B.drawn+1 } (es++#[]) (fs++#[]) a0 A' h5 ⟨hl.size,hl.low,hl.same,hl.dead,hl.os,hl.output⟩ hr h9).imp id λx=>.step (A1:={ A with drawn:=A.drawn+1 }) #[] 1 (B1:={ B with drawn:=B.drawn+1 }) (λag=>?_) rfl rfl rfl rfl (.draw _ _) (bS _) ae x
   have:=ag 0 ab;simp only[m8] at this;simp[-Sem.runT_eq,Sem.runT,hq,this]
 |program k k' _ ih=>
  intro A B es fs a0 A' h5 hl hr h9;have x:=ih A B es fs a0 A' h5 hl hr h9
  exact x.imp id λx=>⟨x.drawn,x.tape,x.size,x.alike⟩
 |mark k k' _ ih=>
  intro A B es fs a0 A' h5 hl hr h9
  have e1:(Sem.mark .noRoom k).runT P A es=k.runT P A (es++#[⟨.mark .noRoom,false,true⟩]):=by rw[<-l8];rfl
  have e2:(Sem.mark .noRoom k').runT P' B fs=k'.runT P' B (fs++#[⟨.mark .noRoom,false,true⟩]):=by rw[<-l8];rfl
  rw[e1] at hr
  refine (ih _ _ _ _ a0 A' h5 hl hr h9).imp id λx=>.step _ 0 (λ_=>e2) rfl rfl rfl rfl (.refl _ _) (bS _) (λx hx=>?_) x
  obtain rfl:x=_:=by simpa using hx
  exact .inr (.inr rfl)
theorem J3{w:World}(h:NP w){p:Program}{a:Addr}{b:Bool}{e:Halt}(he:w.farLoad p a b=.error e):r7 e:=by
 unfold World.farLoad World.noCell at he
 repeat' split at he
 all_goals first|cases he|skip
 all_goals first|trivial|exact absurd ‹w.heap[a.block]?=some (Obj.pending _ _)› (h _ _ _)|skip
theorem J4{w:World}(h:NP w){p:Program}{a:Addr}{v:Value}{b:Bool}{e:Halt}(he:w.farStore p a v b=.error e):r7 e:=by
 unfold World.farStore World.noCell at he
 repeat' split at he
 all_goals first|cases he|skip
 all_goals first|trivial|exact absurd ‹w.heap[a.block]?=some (Obj.pending _ _)› (h _ _ _)|skip
theorem yQ{α:Type}{D:α->Prop}{Q:α->α->Prop}{s t:Sem α}(h:RT P P' C D Q s t):∀(A B:World)(es:Array Event)(x:Halt)(A':World)(h5:Array Event),Lk C S A B->s.runT P A es=(.halt x A',h5)->r7 x/\ND A':=by
 induction h with
 |pure a b hq=>simp
 |oB a t hd=>simp
 |bad s t hb=>intro A B es x A' h5 hl hr;have:=hb A es hl.np;rw[hr] at this;exact⟨this.1,this.2 hl.nd⟩
 |load a k k' _ ih=>
  intro A B es x A' h5 hl hr
  rcases hx:A.cell? a with _|v
  .obtain⟨e,he⟩:=hl.far P a (Mode.plain == .atomic);simp only[Sem.runT,hx,he,dC,Result.halt.injEq] at hr;exact⟨hr.1.1▸J3 hl.np he,hr.1.2▸hl.nd⟩
  .simp only[Sem.runT,hx] at hr
   grind
 |store a v k k' _ ih=>
  intro A B es x A' h5 hl hr;by_cases hv:(∃cs,v=.agg cs)\/∃cs,v=.tuple cs
  .rcases hv with ⟨cs,rfl⟩|⟨cs,rfl⟩<;>(simp only[Sem.runT,dC,Result.halt.injEq] at hr;exact⟨hr.1.1▸trivial,hr.1.2▸hl.nd⟩)
  rcases hx:A.cell? a with _|u
  .obtain⟨e,he⟩:=hl.Cf P a v (Mode.plain == .atomic)
   cases v<;>first|exact absurd (.inl ⟨_,rfl⟩) hv|exact absurd (.inr ⟨_,rfl⟩) hv|(simp only[Sem.runT,hx,he,dC,Result.halt.injEq] at hr;exact⟨hr.1.1▸J4 hl.np he,hr.1.2▸hl.nd⟩)
  .rcases hz:A.frozen? a with _|_
   .have h':k.runT P (A.setCell a v) (es.push ⟨.cell a,true,Mode.plain == .atomic⟩)=(.halt x A',h5):=by
     cases v<;>first|exact absurd (.inl ⟨_,rfl⟩) hv|exact absurd (.inr ⟨_,rfl⟩) hv|(simp only[Sem.runT,hx,hz] at hr;exact hr)
    exact ih _ _ _ x A' h5 (hl.setCell hx v) h'
   .cases v<;>first|exact absurd (.inl ⟨_,rfl⟩) hv|exact absurd (.inr ⟨_,rfl⟩) hv|(simp only[Sem.runT,hx,hz,cz,dC,Result.halt.injEq] at hr;exact⟨hr.1.1▸trivial,hr.1.2▸hl.nd⟩)
 |new o k k' ho _ ih=>intro A B es x A' h5 hl hr;exact ih _ _ _ _ x A' h5 (hl.push ho) hr
 |pq o s t k k' ho hs ht _ ih=>intro A B es x A' h5 hl hr;rw[hs] at hr;exact ih _ _ _ _ x A' h5 (hl.push ho) hr
 |shape r k k' _ _ ih1 ih2=>intro A B es x A' h5 hl hr;exact ih1 _ A B _ x A' h5 hl hr
 |frozen a k k' _ ih=>intro A B es x A' h5 hl hr;exact ih _ A B _ x A' h5 hl hr
 |getObj r k k' _ _ ih1 ih2=>
  intro A B es x A' h5 hl hr
  rcases hx:A.heap[r]? with _|o
  .simp only[Sem.runT,hx,dC,Result.halt.injEq] at hr;exact⟨hr.1.1▸trivial,hr.1.2▸hl.nd⟩
  by_cases h8:∃c e f,o=.cells c e f
  .obtain⟨c,e,f,rfl⟩:=h8;simp only[Sem.runT,hx,dC,Result.halt.injEq] at hr;exact⟨hr.1.1▸trivial,hr.1.2▸hl.nd⟩
  have h':(k o).runT P A (es.push ⟨.obj r,false,o.isChan⟩)=(.halt x A',h5):=by
   cases o<;>first|exact absurd ⟨_,_,_,rfl⟩ h8|(simp only[Sem.runT,hx] at hr;exact hr)
  have hS:¬S.dead r:=λhS=>by obtain⟨c,e,fr,h1,_⟩:=hl.dead r hS;rw[hx] at h1;exact h8 ⟨_,_,_,fL h1⟩
  rcases hl.same r hS with ⟨_,ho⟩|⟨o',h1,h2,h3,_⟩|⟨_,_,_,_,h1,_⟩
  .exact ih1 o (ho o hx) A B _ x A' h5 hl h'
  .rw[hx] at h3;obtain rfl:=fL h3;exact ih2 o' h2 A B _ x A' h5 hl h'
  grind
 |setObj r o k k' ho _ ih=>
  intro A B es x A' h5 hl hr
  rcases hx:A.heap[r]? with _|o0
  .simp only[Sem.runT,hx,dC,Result.halt.injEq] at hr;exact⟨hr.1.1▸trivial,hr.1.2▸hl.nd⟩
  by_cases h8:∃c e f,o0=.cells c e f
  .obtain⟨c,e,f,rfl⟩:=h8;simp only[Sem.runT,hx,dC,Result.halt.injEq] at hr;exact⟨hr.1.1▸trivial,hr.1.2▸hl.nd⟩
  have h':k.runT P { A with heap:=A.heap.setIfInBounds r o } (es.push ⟨.obj r,true,o.isChan⟩)=(.halt x A',h5):=by
   cases o0<;>first|exact absurd ⟨_,_,_,rfl⟩ h8|(simp only[Sem.runT,hx] at hr;exact hr)
  have hS:¬S.dead r:=λhS=>by obtain⟨c,e,fr,h1,_⟩:=hl.dead r hS;rw[hx] at h1;simp_all
  exact ih _ { B with heap:=B.heap.setIfInBounds r o } _ x A' h5 (hl.set hS ho) h'
 |choose q k k' _ ih=>
  intro A B es x A' h5 hl hr;by_cases hq:q.forced=true
  .simp only[Sem.runT,hq,cz] at hr
   grind
  .simp only[Sem.runT,hq,cT] at hr;exact ih _ { A with drawn:=A.drawn+1 } B _ x A' h5 ⟨hl.size,hl.low,hl.same,hl.dead,hl.os,hl.output⟩ hr
 |program k k' _ ih=>trivial
 |mark k k' _ ih=>intro A B es x A' h5 hl hr;exact ih A B _ x A' h5 hl hr
theorem uM{α:Type}{D:α->Prop}{Q:α->α->Prop}{s t:Sem α}(h:RT P P' C D Q s t):∀(A B:World)(es:Array Event)(a0:α)(A':World)(h5:Array Event),Lk C S A B->s.runT P A es=(.ok a0 A',h5)->(D a0\/∃b,Q a0 b)/\∀e∈h5,e∈es\/∀g,e.loc≠.mark (.extern g):=by
 have pu:∀{es h5:Array Event}{x:Event},(∀g,x.loc≠.mark (.extern g))->(∀e∈h5,e∈es.push x\/∀g,e.loc≠.mark (.extern g))->∀e∈h5,e∈es\/∀g,e.loc≠.mark (.extern g):=λhx h e he=>by
  grind
 induction h with
 |pure a b hq=>intro A B es a0 A' h5 hl hr;simp only[Sem.runT,dC,Result.ok.injEq] at hr;grind
 |oB a t hd=>intro A B es a0 A' h5 hl hr;simp_all
 |bad s t hb=>intro A B es a0 A' h5 hl hr;have:=hb A es hl.np;rw[hr] at this;trivial
 |load a k k' _ ih=>
  intro A B es a0 A' h5 hl hr
  rcases hx:A.cell? a with _|v
  .obtain⟨e,he⟩:=hl.far P a (Mode.plain == .atomic);simp[-Sem.runT_eq,Sem.runT,hx,he] at hr
  .simp only[Sem.runT,hx] at hr;exact (ih v A B _ a0 A' h5 hl hr).imp id (pu ae)
 |store a v k k' _ ih=>
  intro A B es a0 A' h5 hl hr;by_cases hv:(∃cs,v=.agg cs)\/∃cs,v=.tuple cs
  .rcases hv with ⟨cs,rfl⟩|⟨cs,rfl⟩<;>(simp[-Sem.runT_eq,Sem.runT] at hr)
  rcases hx:A.cell? a with _|u
  .obtain⟨e,he⟩:=hl.Cf P a v (Mode.plain == .atomic)
   cases v<;>first|exact absurd (.inl ⟨_,rfl⟩) hv|exact absurd (.inr ⟨_,rfl⟩) hv|(simp[-Sem.runT_eq,Sem.runT,hx,he] at hr)
  .rcases hz:A.frozen? a with _|_
   .have h':k.runT P (A.setCell a v) (es.push ⟨.cell a,true,Mode.plain == .atomic⟩)=(.ok a0 A',h5):=by
     cases v<;>first|exact absurd (.inl ⟨_,rfl⟩) hv|exact absurd (.inr ⟨_,rfl⟩) hv|(simp only[Sem.runT,hx,hz] at hr;exact hr)
    exact (ih _ _ _ a0 A' h5 (hl.setCell hx v) h').imp id (pu ae)
   .cases v<;>first|exact absurd (.inl ⟨_,rfl⟩) hv|exact absurd (.inr ⟨_,rfl⟩) hv|(simp[-Sem.runT_eq,Sem.runT,hx,hz] at hr)
 |new o k k' ho _ ih=>intro A B es a0 A' h5 hl hr;exact ih _ _ _ _ a0 A' h5 (hl.push ho) hr
 |pq o s t k k' ho hs ht _ ih=>intro A B es a0 A' h5 hl hr;rw[hs] at hr;exact ih _ _ _ _ a0 A' h5 (hl.push ho) hr
 |shape r k k' _ _ ih1 ih2=>intro A B es a0 A' h5 hl hr;exact ih1 _ A B _ a0 A' h5 hl hr
 |frozen a k k' _ ih=>intro A B es a0 A' h5 hl hr;exact ih _ A B _ a0 A' h5 hl hr
 |getObj r k k' _ _ ih1 ih2=>
  intro A B es a0 A' h5 hl hr
  rcases hx:A.heap[r]? with _|o
  .simp[-Sem.runT_eq,Sem.runT,hx] at hr
  by_cases h8:∃c e f,o=.cells c e f
  .obtain⟨c,e,f,rfl⟩:=h8;simp[-Sem.runT_eq,Sem.runT,hx] at hr
  have h':(k o).runT P A (es.push ⟨.obj r,false,o.isChan⟩)=(.ok a0 A',h5):=by
   cases o<;>first|exact absurd ⟨_,_,_,rfl⟩ h8|(simp only[Sem.runT,hx] at hr;exact hr)
  have hS:¬S.dead r:=λhS=>by obtain⟨c,e,fr,h1,_⟩:=hl.dead r hS;rw[hx] at h1;exact h8 ⟨_,_,_,fL h1⟩
  rcases hl.same r hS with ⟨_,ho⟩|⟨o',h1,h2,h3,_⟩|⟨_,_,_,_,h1,_⟩
  .exact (ih1 o (ho o hx) A B _ a0 A' h5 hl h').imp id (pu ae)
  .rw[hx] at h3;obtain rfl:=fL h3;exact (ih2 o' h2 A B _ a0 A' h5 hl h').imp id (pu ae)
  grind
 |setObj r o k k' ho _ ih=>
  intro A B es a0 A' h5 hl hr
  rcases hx:A.heap[r]? with _|o0
  .simp[-Sem.runT_eq,Sem.runT,hx] at hr
  by_cases h8:∃c e f,o0=.cells c e f
  .obtain⟨c,e,f,rfl⟩:=h8;simp[-Sem.runT_eq,Sem.runT,hx] at hr
  have h':k.runT P { A with heap:=A.heap.setIfInBounds r o } (es.push ⟨.obj r,true,o.isChan⟩)=(.ok a0 A',h5):=by
   cases o0<;>first|exact absurd ⟨_,_,_,rfl⟩ h8|(simp only[Sem.runT,hx] at hr;exact hr)
  have hS:¬S.dead r:=λhS=>by obtain⟨c,e,fr,h1,_⟩:=hl.dead r hS;rw[hx] at h1;simp_all
  exact (ih _ { B with heap:=B.heap.setIfInBounds r o } _ a0 A' h5 (hl.set hS ho) h').imp id (pu ae)
 |choose q k k' _ ih=>
  intro A B es a0 A' h5 hl hr;by_cases hq:q.forced=true
  .simp only[Sem.runT,hq,cz] at hr;exact ih 0 A B _ a0 A' h5 hl hr
  .simp only[Sem.runT,hq,cT] at hr;exact ih _ { A with drawn:=A.drawn+1 } B _ a0 A' h5 ⟨hl.size,hl.low,hl.same,hl.dead,hl.os,hl.output⟩ hr
 |program k k' _ ih=>trivial
 |mark k k' _ ih=>intro A B es a0 A' h5 hl hr;exact (ih A B _ a0 A' h5 hl hr).imp id (pu ae)
end
structure Kin(P P':Program):Prop where
 eq:∃fs,P' = { P with funcs:=fs }
section
variable{P P':Program}{C:Cx}
theorem Kin.info(h:Kin P P')(t:TypeId):P'.info? t=P.info? t:=by obtain⟨fs,rfl⟩:=h.eq;rfl
theorem Kin.underlying(h:Kin P P')(t:TypeId):P'.underlying t=P.underlying t:=by obtain⟨fs,rfl⟩:=h.eq;rfl
theorem Kin.rt(h:Kin P P'):P'.rt=P.rt:=by obtain⟨fs,rfl⟩:=h.eq;rfl
theorem Kin.globals(h:Kin P P'):P'.globals=P.globals:=by obtain⟨fs,rfl⟩:=h.eq;rfl
theorem Kin.depth(h:Kin P P'):P'.depth=P.depth:=by obtain⟨fs,rfl⟩:=h.eq;rfl
abbrev RE(P P':Program)(C:Cx){α:Type}(s t:Sem α):Prop:=RT P P' C (λ_=>False) Eq s t
theorem bU{α:Type}(a:α):RE P P' C (pure a) (pure a):=.pure a a rfl
theorem bV{α β:Type}{s t:Sem α}{f g:α->Sem β}{D:β->Prop}{Q:β->β->Prop}(h:RE P P' C s t)(hf:∀a,RT P P' C D Q (f a) (g a)):RT P P' C D Q (s >>= f) (t >>= g):=
 RT.bind h λa b e=>by simp_all
theorem j6{α β:Type}{s t:Sem α}{f g:α->Sem β}{M:α->α->Prop}{D:β->Prop}{Q:β->β->Prop}(h:RT P P' C (λ_=>False) M s t)(hf:∀a b,M a b->RT P P' C D Q (f a) (g b)):RT P P' C D Q (s >>= f) (t >>= g):=
 RT.bind h hf
theorem Ea{α β:Type}{s t:Sem α}(h:RE P P' C s t)(f:α->β):RE P P' C (f <$> s) (f <$> t):=RT.bind h λa b e=>by subst e;exact .pure _ _ rfl
theorem cu{α:Type}(m:String)(t:Sem α){D:α->Prop}{Q:α->α->Prop}:RT P P' C D Q (stuck m) t:=.halt (h:=.stuck m) trivial _
theorem dL{α:Type}(u:Unsupported)(t:Sem α){D:α->Prop}{Q:α->α->Prop}(hu:r7 (.unsupported u):=by trivial):RT P P' C D Q (unsupported u) t:=.halt hu _
theorem oW{α:Type}(v:Value)(t:Sem α){D:α->Prop}{Q:α->α->Prop}:RT P P' C D Q (goPanic v) t:=.halt (h:=.panic v) trivial _
theorem jc{β:Type}{f g:Program->Sem β}{D:β->Prop}{Q:β->β->Prop}(h:RT P P' C D Q (f P) (g P')):RT P P' C D Q (program >>= f) (program >>= g):=RT.program _ _ h
theorem Eb(a:Addr):RE P P' C (load a) (load a):=.load a _ _ λv=>.pure v v rfl
theorem J5(a:Addr)(v:Value):RE P P' C (store a v) (store a v):=.store a v _ _ (.pure _ _ rfl)
theorem rH{o:Obj}(h:okO C o):RE P P' C (newObj o) (newObj o):=.new o _ _ h λr=>.pure r r rfl
theorem j7(q:Question):RE P P' C (choose q) (choose q):=.choose q _ _ λn=>.pure n n rfl
theorem oX(r:Nat){o:Obj}(h:okO C o):RE P P' C (setObj r o) (setObj r o):=.setObj r o _ _ h (.pure _ _ rfl)
theorem yR(n:Nat):RE P P' C (askRoom n) (askRoom n):=by
 unfold askRoom;split
 .exact .mark _ _ (.pure _ _ rfl)
 .exact bU _
variable(h:Kin P P')
include h
theorem ng(t:TypeId):RE P P' C (typeInfo t) (typeInfo t):=by
 refine jc ?_;rw[h.info]
 cases P.info? t with
 |none=>exact cu _ _
 |some i=>exact bU _
theorem fB(t:TypeId):RE P P' C (Go.underlying t) (Go.underlying t):=by
 refine jc ?_;rw[h.underlying]
 cases P.underlying t with
 |none=>exact cu _ _
 |some i=>exact bU _
theorem gP(t:TypeId):RE P P' C (Go.sizeOf t) (Go.sizeOf t):=bV (ng h t) λi=>bU _
theorem oY(t:TypeId):RE P P' C (zeroValue t) (zeroValue t):=by
 refine bV (ng h t) λi=>?_
 cases i.zero with
 |none=>exact dL _ _
 |some v=>exact bU _
theorem Ec(t:TypeId):RE P P' C (isAgg t) (isAgg t):=by
 refine bV (fB h t) λd=>?_
 cases d<;>exact bU _
omit h in
theorem Ed(a:Addr):∀(n i:Nat)(acc:Array Value),RE P P' C (loadCellsFrom a i n acc) (loadCellsFrom a i n acc)
 |0,_,acc=>bU acc
 |n+1,i,acc=>bV (Eb _) λv=>Ed a n (i+1) (acc.push v)
omit h in
theorem Ee(a:Addr)(n:Nat):RE P P' C (loadCells a n) (loadCells a n):=Ed a n 0 #[]
omit h in
theorem qp(a:Addr):∀(vs:List Value)(i:Nat),RE P P' C (storeCells a vs i) (storeCells a vs i)
 |[],_=>bU ()
 |v::r,i=>bV (J5 _ v) λ_=>qp a r (i+1)
theorem vw(t:TypeId)(a:Addr):RE P P' C (loadVar t a) (loadVar t a):=by
 refine bV (Ec h t) λb=>?_
 cases b
 .exact Eb a
 .exact bV (gP h t) λn=>bV (Ee a n) λcs=>bU _
theorem J6(t:TypeId)(a:Addr)(v:Value):RE P P' C (storeVar t a v) (storeVar t a v):=by
 refine bV (gP h t) λn=>?_
 split
 .exact bV (cu _ _) λ_=>qp a _ 0
 .exact qp a _ 0
omit h in
theorem tK(e:TypeId)(cs:Array Value):RE P P' C (newRow e cs) (newRow e cs):=bV (rH (o:=.cells cs e) trivial) λr=>bU _
omit h in
theorem vA(e:TypeId)(v:Value):RE P P' C (newVar e v) (newVar e v):=tK e _
theorem Ef(t:TypeId):RE P P' C (elemOf t) (elemOf t):=by
 refine bV (fB h t) λd=>?_
 cases d<;>first|exact bU _|exact cu _ _
theorem nY(t:TypeId)(cs:Array Value)(off:Nat):RE P P' C (part t cs off) (part t cs off):=by
 refine bV (Ec h t) λb=>?_
 cases b
 .simp only[dz,cT]
  cases cs[off]? with
  |none=>exact cu _ _
  |some v=>exact bU _
 .exact bV (gP h t) λn=>bU _
theorem gR{α:Type}{D:α->Prop}{Q:α->α->Prop}(e:RuntimeError):RT P P' C D Q (runtimePanic e:Sem α) (runtimePanic e):=by
 refine jc ?_;rw[h.rt]
 cases e with
 |bounds x y s c=>exact oW _ _
 |error m=>exact oW _ _
 |plain m=>exact oW _ _
 |nilDeref=>exact oW _ _
 |unhashable t=>exact oW _ _
 |typeAssertion i c a m=>
  refine bV (Ef h _) λt=>?_
  refine bV ?_ λr=>oW _ _
  have e2:∀t:TypeId,typeHandle P' t=typeHandle P t:=λt=>by unfold typeHandle;rw[h.globals]
  simp only[e2];exact vA _ _
 |panicNil=>exact bV (Ef h _) λt=>bV (vA _ _) λr=>oW _ _
theorem yS{α:Type}(k:IntKind)(x y:Int)(code:BoundsCode):RE P P' C (boundsPanic k x y code:Sem α) (boundsPanic k x y code):=by
 unfold boundsPanic;split
 .exact bV (Ea (j7 _) _) λs=>gR h _
 .exact bV (bU _) λs=>gR h _
omit h in
theorem vB(v:Value):RE P P' C (asIntOf v) (asIntOf v):=by
 unfold asIntOf;split
 .exact bU _
 .exact dL _ _
 .exact cu _ _
omit h in
theorem tL(v:Value):RE P P' C (asInt v) (asInt v):=bV (vB v) λx=>bU _
omit h in
theorem vC(v:Value):RE P P' C (asBool v) (asBool v):=by
 unfold asBool;split
 .exact bU _
 .exact cu _ _
omit h in
theorem J7(v:Value):RE P P' C (asAgg v) (asAgg v):=by
 unfold asAgg;split
 .exact bU _
 .exact cu _ _
theorem vD(v:Value):RE P P' C (asAddr v) (asAddr v):=by
 unfold asAddr;split
 .exact bU _
 .exact gR h _
 .exact cu _ _
end
section
variable{P P':Program}{C:Cx}
theorem tM{α:Type}{f g:Option (TypeId×Nat)->Sem α}{D:α->Prop}{Q:α->α->Prop}(r:Nat)(h1:∀x,RT P P' C D Q (f x) (g x))(h2:∀e n,RT P P' C D Q (f (some (e,0))) (g (some (e,n)))):RT P P' C D Q (shape r >>= f) (shape r >>= g):=.shape r _ _ h1 h2
theorem nZ{α:Type}{f g:Obj->Sem α}{D:α->Prop}{Q:α->α->Prop}(r:Nat)(h1:∀o,okO C o->RT P P' C D Q (f o) (g o))(h2:∀o,¬okO C o->RT P P' C D Q (f (gH r o)) (g o)):RT P P' C D Q (getObj r >>= f) (getObj r >>= g):=.getObj r _ _ h1 h2
theorem Eg(op:BinOp)(k:FloatKind)(x y:Nat):RE P P' C (Op.floatArith op k x y) (Op.floatArith op k x y):=by
 unfold Op.floatArith
 cases op<;>first|exact bV (cu _ _) (λr=>by cases r<;>first|exact bU _|exact bV (j7 _) λn=>bU _)|exact bV (bU _) (λr=>by cases r<;>first|exact bU _|exact bV (j7 _) λn=>bU _)
theorem Eh(op:BinOp)(k:FloatKind)(x y:Nat):RE P P' C (Op.floatCmp op k x y) (Op.floatCmp op k x y):=by
 unfold Op.floatCmp
 cases op<;>first|exact bU _|exact cu _ _
theorem yT(op:BinOp)(x y:ByteArray):RE P P' C (Op.stringOp op x y) (Op.stringOp op x y):=by
 unfold Op.stringOp
 cases op<;>first|exact bU _|exact cu _ _|(dsimp only;split<;>first|exact bU _|exact dL _ _)
theorem Ei(op:BinOp)(k:IntKind)(x y:Int):RE P P' C (Op.intArith op k x y) (Op.intArith op k x y):=by
 unfold Op.intArith
 cases op<;>first|exact bU _|exact cu _ _
theorem Ej(op:BinOp)(k:IntKind)(x y:Int):RE P P' C (Op.intBits op k x y) (Op.intBits op k x y):=by
 unfold Op.intBits
 cases op<;>first|exact bU _|exact cu _ _
theorem J8(op:BinOp)(x y:Int):RE P P' C (Op.intCmp op x y) (Op.intCmp op x y):=by
 unfold Op.intCmp
 cases op<;>first|exact bU _|exact cu _ _
theorem Ek(op:BinOp)(k:FloatKind)(x y:Nat):RE P P' C (Op.Complex.arith op k x y) (Op.Complex.arith op k x y):=
 bV (Eg op k x y) λv=>by cases v<;>first|exact bU _|exact cu _ _
theorem El(op:BinOp)(k:FloatKind)(x y:Nat):RE P P' C (Op.Complex.cmp op k x y) (Op.Complex.cmp op k x y):=
 bV (Eh op k x y) λv=>vC v
theorem J9(src:FloatKind)(x:Nat)(dst:FloatKind):RE P P' C (Conv.floatToFloat src x dst) (Conv.floatToFloat src x dst):=by
 unfold Conv.floatToFloat
 repeat' first|exact bU _|exact cu _ _|exact dL _ _|exact j7 _|refine bV ?_ λ_=>?_|split|dsimp only
theorem Ka(src:FloatKind)(x:Nat)(dst:FloatKind):RE P P' C (Op.Complex.conv src x dst) (Op.Complex.conv src x dst):=by
 unfold Op.Complex.conv;split
 .exact bU _
 .exact bV (J9 _ _ _) λv=>by cases v<;>first|exact bU _|exact cu _ _
theorem Kb(a b c d:Nat):RE P P' C (Op.Complex.quotient a b c d) (Op.Complex.quotient a b c d):=by
 unfold Op.Complex.quotient Op.Complex.corrected
 repeat' first|exact bU _|exact Ek _ _ _ _|exact El _ _ _ _|refine bV ?_ λ_=>?_|split|dsimp only
theorem Kc(op:BinOp)(k:FloatKind)(a b c d:Nat):RE P P' C (Op.complexOp op k a b c d) (Op.complexOp op k a b c d):=by
 unfold Op.complexOp Op.Complex.product
 cases op<;>repeat' first|exact bU _|exact cu _ _|exact Ek _ _ _ _|exact El _ _ _ _|exact Ka _ _ _|exact Kb _ _ _ _|refine bV ?_ λ_=>?_|split|dsimp only
theorem Ke(op:UnOp)(x:Value):RE P P' C (Op.unary op x) (Op.unary op x):=by
 unfold Op.unary
 split<;>first|exact Ei _ _ _ _|exact Ej _ _ _ _|exact bU _|exact dL _ _|exact cu _ _
theorem Em(r:Nat):RT P P' C (λ_=>False) (λa b=>a.isSome=b.isSome) (viewAt r) (viewAt r):=by
 refine tM r (λx=>?_) (λe n=>?_)
 .cases x with
  |some x=>exact .pure _ _ rfl
  |none=>
   refine nZ r (λo ho=>?_) (λo ho=>?_)
   .cases o<;>exact .pure _ _ rfl
   .cases o<;>first|exact .pure _ _ rfl|exact absurd trivial ho
 .exact .pure _ _ rfl
theorem Kf(a:Addr):RE P P' C (noView a) (noView a):=by
 refine j6 (Em a.block) λx y e=>?_
 rw[e];split
 .exact dL _ _
 .exact bU _
theorem En(r:Nat):RE P P' C (numberAt r) (numberAt r):=by
 refine tM r (λx=>?_) (λe n=>?_)
 .cases x with
  |some x=>exact bU _
  |none=>
   refine nZ r (λo ho=>?_) (λo ho=>?_)
   .cases o<;>exact bU _
   .cases o<;>first|exact bU _|exact absurd trivial ho
 .exact bU _
theorem yU(n:Addr):RE P P' C (behindNumber n) (behindNumber n):=bV (En _) λx=>bU _
theorem Kg(a:Addr)(l:Bool):RE P P' C (asNumber a l) (asNumber a l):=bV (rH (o:=.number a l) trivial) λx=>bU _
variable(h:Kin P P')
include h
theorem Kh(op:BinOp)(k:IntKind)(x y:Int):RE P P' C (Op.intDiv op k x y) (Op.intDiv op k x y):=by
 unfold Op.intDiv;split
 .exact gR h _
 .cases op<;>first|exact bU _|exact cu _ _
theorem Ki(op:BinOp)(k:IntKind)(x:Int)(k':IntKind)(y:Int):RE P P' C (Op.shift op k x k' y) (Op.shift op k x k' y):=by
 unfold Op.shift;split
 .exact gR h _
 .cases op<;>first|exact bU _|exact cu _ _
theorem yV(t:TypeId):P'.cellsOf t=P.cellsOf t:=by obtain⟨fs,rfl⟩:=h.eq;rfl
theorem Eo(t:TypeId):P'.bytesOf t=P.bytesOf t:=by obtain⟨fs,rfl⟩:=h.eq;rfl
theorem Ep(d:Nat)(t:TypeId)(k:Nat):byteOfCell P' d t k=byteOfCell P d t k:=by
 obtain⟨fs,rfl⟩:=h.eq
 induction d generalizing t k with
 |zero=>rfl
 |succ d ih=>simp only[byteOfCell,ih];rfl
theorem j8(a:Addr):RE P P' C (byteOf a) (byteOf a):=by
 unfold byteOf;split
 .exact bU _
 .refine jc ?_
  refine bV (Kf a) λ_=>?_
  have key:∀(e:TypeId)(n m:Nat),RE P P' C (have s:=P.cellsOf e;if s=0 then (pure 0:Sem Nat) else match byteOfCell P P.depth e (a.off%s) with|some b=>pure (a.off / s*P.bytesOf e+b)|_=>stuck "byteOf: no such cell")
   (have s:=P'.cellsOf e;if s=0 then (pure 0:Sem Nat) else match byteOfCell P' P'.depth e (a.off%s) with|some b=>pure (a.off / s*P'.bytesOf e+b)|_=>stuck "byteOf: no such cell"):=λe n m=>by
   simp only[yV h,Eo h,Ep h,h.depth];split
   .exact bU _
   .split
    .exact bU _
    .exact cu _ _
  refine tM _ (λx=>?_) (λe n=>?_)
  .cases x with
   |none=>exact cu _ _
   |some x=>exact key x.1 0 0
  .exact key e 0 0
end
section
variable{P P':Program}{C:Cx}(h:Kin P P')
include h
theorem Kj(d:Nat)(t:TypeId)(k:Nat):cellOfByte P' d t k=cellOfByte P d t k:=by
 obtain⟨fs,rfl⟩:=h.eq
 induction d generalizing t k with
 |zero=>rfl
 |succ d ih=>simp only[cellOfByte,ih];rfl
theorem Kk(d:Nat)(t:TypeId)(n k:Nat)(by_:Int):cellAtBytes P' d t n k by_=cellAtBytes P d t n k by_:=by
 unfold cellAtBytes;simp only[yV h,Eo h,Ep h,Kj h]
omit h in
theorem Km(d:Nat)(t:TypeId)(k:Nat)(by_:Int):cellAtBytes P d t 0 k by_=none:=by
 unfold cellAtBytes;simp only[bind,Option.bind]
 grind
theorem Kn(a:Addr)(c b:Nat):RE P P' C (partAt a c b) (partAt a c b):=by
 unfold partAt
 exact bV (j8 h a) λx=>bV (j8 h _) λy=>bU _
theorem Er(a:Addr)(f:Field):RE P P' C (fieldPlace a f) (fieldPlace a f):=by
 unfold fieldPlace
 refine bV (gP h _) λn=>?_
 split
 .exact Kn h _ _ _
 .exact bU _
theorem vE(ts:Array TypeId)(t:TypeId)(x len:Value):RE P P' C (Builtin.unsafeAdd_ ts t #[x,len]) (Builtin.unsafeAdd_ ts t #[x,len]):=by
 have key:∀(ptr:Option Addr)(n:Int),RE P P' C (do
  let some a:=ptr|unsupported (.unsafePointer "Add")
  let some (e,cells) <-shape a.block|unsupported (.unsafePointer "Add")
  let p <-program
  match cellAtBytes p p.depth e (cells / p.cellsOf e) a.off n with
  |some off=>pure (Value.pointer (some { a with off }))
  |none=>unsupported (.unsafePointer "Add")) (do
  let some a:=ptr|unsupported (.unsafePointer "Add")
  let some (e,cells) <-shape a.block|unsupported (.unsafePointer "Add")
  let p <-program
  match cellAtBytes p p.depth e (cells / p.cellsOf e) a.off n with
  |some off=>pure (Value.pointer (some { a with off }))
  |none=>unsupported (.unsafePointer "Add")):=λptr n=>by
  cases ptr with
  |none=>exact dL _ _
  |some a=>
   refine tM _ (λx=>?_) (λe m=>?_)
   .cases x with
    |none=>exact dL _ _
    |some x=>
     refine jc ?_;simp only[yV h,Kk h,h.depth];split
     .exact bU _
     .exact dL _ _
   .refine jc ?_;simp only[Nat.zero_div,Km];exact dL _ _
 cases x with
 |pointer ptr=>
  show RE P P' C (asInt len >>= _) (asInt len >>= _)
  refine bV (tL _) λn=>?_
  dsimp only;split
  .cases ptr with
   |none=>exact dL _ _
   |some a=>
    refine j6 (Em a.block) λx y e=>?_
    rw[e];split
    .exact bV (dL _ _) λ_=>bU _
    .exact bU _
  .split
   .exact bV (dL _ _) λ_=>key ptr n
   .exact key ptr n
 |_=>exact cu _ _
theorem Ko(k:IntKind)(a b:Addr):RE P P' C (Op.addrSub k a b) (Op.addrSub k a b):=by
 unfold Op.addrSub Op.twoPlaces
 refine bV (jc ?_) λx=>bU _
 rw[h.globals];split
 .exact bV (dL _ _) λ_=>bV (j8 h a) λx=>bV (j8 h b) λy=>bU _
 .exact bV (j8 h a) λx=>bV (j8 h b) λy=>bU _
theorem Ks(op:BinOp)(a b:Addr):RE P P' C (Op.addrCmp op a b) (Op.addrCmp op a b):=by
 unfold Op.addrCmp Op.twoPlaces
 refine bV (jc ?_) λx=>?_
 .rw[h.globals];split
  .exact bV (dL _ _) λ_=>bV (j8 h a) λx=>bV (j8 h b) λy=>bU _
  .exact bV (j8 h a) λx=>bV (j8 h b) λy=>bU _
 .cases op<;>first|exact bU _|exact dL _ _
theorem Kt(k:IntKind)(a:Addr)(n:Int):RE P P' C (Op.addrMod k a n) (Op.addrMod k a n):=by
 have key:∀e:TypeId,RE P P' C (do
  let align:=(<-typeInfo e).align
  if n<1 || n.toNat>align || align%n.toNat != 0 then unsupported .addressObserved
  pure (Value.int k ((<-byteOf a)%n.toNat:Nat))) (do
  let align:=(<-typeInfo e).align
  if n<1 || n.toNat>align || align%n.toNat != 0 then unsupported .addressObserved
  pure (Value.int k ((<-byteOf a)%n.toNat:Nat))):=λe=>by
  refine bV (ng h e) λi=>?_
  dsimp only;split
  .exact bV (dL _ _) λ_=>bV (j8 h a) λx=>bU _
  .exact bV (j8 h a) λx=>bU _
 unfold Op.addrMod;refine tM _ (λx=>?_) (λe m=>?_)
 .cases x with
  |none=>exact dL _ _
  |some x=>exact key x.1
 grind
theorem Et(t:TypeId)(x y:Value):RE P P' C (movedNumber t x y) (movedNumber t x y):=by
 unfold movedNumber
 refine bV (fB h t) λd=>?_
 dsimp only
 repeat' first|exact dL _ _|exact vE h _ _ _ _|exact Kg _ _|exact yU _|exact bU _|refine bV ?_ λ_=>?_|split|dsimp only
theorem Ku(t:TypeId)(x y:Value):RE P P' C (movedPointer t x y) (movedPointer t x y):=by
 unfold movedPointer;split
 .refine bV (En _) λz=>?_
  split
  .exact bV (dL _ _) λ_=>vE h _ _ _ _
  .exact vE h _ _ _ _
 .exact vE h _ _ _ _
end
def gT(P:Program):Nat->TypeId->Bool
 |0,_=>false
 |d+1,t=>match P.underlying t with
  |some (.int _)|some .string|some .bool|some (.slice _)=>true
  |some (.array _ e)=>gT P d e
  |_=>false
section
variable{P P':Program}{C:Cx}
theorem Eu{β γ:Type}(f g:γ->β->Sem (ForInStep β))(hf:∀a b,RE P P' C (f a b) (g a b)):∀(l:List γ)(b:β),RE P P' C (forIn l b f) (forIn l b g)
 |[],b=>by simp only[List.forIn_nil];exact bU _
 |a::l,b=>by
  simp only[List.forIn_cons]
  refine bV (hf a b) λr=>?_
  cases r with
  |done b=>exact bU _
  |yield b=>exact Eu f g hf l b
theorem yW{β:Type}(f g:Nat->β->Sem (ForInStep β))(hf:∀a b,RE P P' C (f a b) (g a b))(r:Std.Legacy.Range)(b:β):RE P P' C (forIn r b f) (forIn r b g):=by
 simp only[Std.Legacy.Range.forIn_eq_forIn_range'];exact Eu f g hf _ b
variable(h:Kin P P')
include h
theorem kh{α:Type}{f g:TypeDesc->Sem α}{D:α->Prop}{Q:α->α->Prop}{t:TypeId}{td:TypeDesc}(e:P.underlying t=some td)(hf:RT P P' C D Q (f td) (g td)):RT P P' C D Q (Go.underlying t >>= f) (Go.underlying t >>= g):=by
 refine j6 (M:=λa b=>a=td/\b=td) ?_ (λa b hh=>by rw[hh.1,hh.2];exact hf);refine jc ?_;rw[h.underlying,e];exact .pure _ _ ⟨rfl,rfl⟩
theorem yX(d:Nat):∀(t:TypeId),gT P d t=true->∀(n:Nat)(x y:Value),RE P P' C (Op.equalIn n t x y) (Op.equalIn n t x y):=by
 induction d with
 |zero=>intro t ht;cases ht
 |succ d ih=>
  intro t ht n x y
  cases n with
  |zero=>exact dL _ _
  |succ n=>
   unfold gT at ht;unfold Op.equalIn
   rcases hu:P.underlying t with _|td
   .rw[hu] at ht;cases ht
   rw[hu] at ht;refine kh h hu ?_
   cases td with
   |int k=>
    dsimp only
    repeat' first|contradiction|exact bU _|exact cu _ _|exact dL _ _|exact yU _|exact j8 h _|exact ng h _|(refine jc ?_;rw[h.globals])|refine bV ?_ λ_=>?_|split|dsimp only
   |string=>
    dsimp only
    repeat' first|contradiction|exact bU _|exact cu _ _|split
   |bool=>
    dsimp only
    repeat' first|contradiction|exact bU _|exact cu _ _|split
   |slice e=>
    dsimp only
    repeat' first|contradiction|exact bU _|exact cu _ _|split
   |array len e=>
    have hx:=ih e ht n
    cases x<;>first|exact cu _ _|skip
    cases y<;>first|exact cu _ _|skip
    dsimp only
    refine bV (gP h _) λz=>?_
    refine bV (yW _ _ (λ_ _=>?_) _ _) λ_=>?_
    .repeat' first|exact bU _|exact hx _ _|exact nY h _ _ _|refine bV ?_ λ_=>?_|split|dsimp only
    .repeat' first|exact bU _|split|dsimp only
   |_=>cases ht
theorem Ev(d:Nat):∀(t:TypeId),gT P d t=true->∀(n:Nat)(x y:Value),RE P P' C (Op.eqGuardIn n t x y) (Op.eqGuardIn n t x y):=by
 induction d with
 |zero=>intro t ht;cases ht
 |succ d ih=>
  intro t ht n x y
  cases n with
  |zero=>exact dL _ _
  |succ n=>
   unfold gT at ht;unfold Op.eqGuardIn
   rcases hu:P.underlying t with _|td
   .rw[hu] at ht;cases ht
   rw[hu] at ht;refine kh h hu ?_
   cases td with
   |int k=>exact bU _
   |string=>exact bU _
   |bool=>exact bU _
   |slice e=>exact bU _
   |array len e=>
    have hx:=ih e ht n
    cases x<;>first|exact bU _|skip
    cases y<;>first|exact bU _|skip
    dsimp only
    refine bV (gP h _) λz=>?_
    refine bV (yW _ _ (λ_ _=>?_) _ _) λ_=>?_
    .repeat' first|exact bU _|exact hx _ _|exact nY h _ _ _|refine bV ?_ λ_=>?_|split|dsimp only
    .repeat' first|exact bU _|split|dsimp only
   |_=>cases ht
theorem Kw:∀(n:Nat)(t u:TypeId),P'.alikeButTags n t u=P.alikeButTags n t u:=by
 obtain⟨fs,rfl⟩:=h.eq;intro n
 induction n with
 |zero=>intro t u;rfl
 |succ n ih=>intro t u;simp only[Program.alikeButTags,ih]
theorem Kx(t:TypeId):P'.stoodInHeld t=P.stoodInHeld t:=by
 have e:=Kw h;obtain⟨fs,rfl⟩:=h.eq;unfold Program.stoodInHeld Program.stoodInAs;simp only[e];rfl
omit h in
theorem yY{β γ:Type}(f g:γ->β->Sem (ForInStep β)):∀(l:List γ)(b:β),(∀a,a∈l->∀b,RE P P' C (f a b) (g a b))->RE P P' C (forIn l b f) (forIn l b g)
 |[],b,_=>by simp only[List.forIn_nil];exact bU _
 |a::l,b,hf=>by
  simp only[List.forIn_cons]
  refine bV (hf a (gF ..) b) λr=>?_
  cases r with
  |done b=>exact bU _
  |yield b=>exact yY f g l b λa ha=>hf a (eH _ ha)
def nB(P:Program)(t:TypeId):Bool:=gT P 10 t || match P.underlying t with|some (.struct fs)=>fs.toList.all λf=>gT P 10 f.type|_=>false
theorem Ky(t:TypeId)(ht:nB P t=true)(n:Nat)(x y:Value):RE P P' C (Op.equalIn n t x y) (Op.equalIn n t x y):=by
 unfold nB at ht;rw[qj] at ht
 rcases ht with ht|ht
 .exact yX h 10 t ht n x y
 cases n with
 |zero=>exact dL _ _
 |succ n=>
  unfold Op.equalIn
  rcases hu:P.underlying t with _|td
  .rw[hu] at ht;cases ht
  rw[hu] at ht;refine kh h hu ?_
  cases td with
  |struct fs=>
   have ht:∀f,f∈fs.toList->gT P 10 f.type=true:=gp.1 ht
   cases x<;>first|exact cu _ _|skip
   cases y<;>first|exact cu _ _|skip
   dsimp only;refine jc ?_;rw[Kx h];split
   all_goals try refine bV (dL _ _) λ_=>?_
   all_goals
    rw[<-Array.forIn_toList]
    refine bV (yY _ _ _ _ λf hf _=>?_) λ_=>?_
    .have hx:=yX (P':=P') (C:=C) h 10 _ (ht f hf) n
     repeat' first|exact bU _|exact hx _ _|exact nY h _ _ _|refine bV ?_ λ_=>?_|split|dsimp only
    .split<;>exact bU _
  |_=>cases ht
theorem Ew(t:TypeId)(ht:nB P t=true)(n:Nat)(x y:Value):RE P P' C (Op.eqGuardIn n t x y) (Op.eqGuardIn n t x y):=by
 unfold nB at ht;rw[qj] at ht
 rcases ht with ht|ht
 .exact Ev h 10 t ht n x y
 cases n with
 |zero=>exact dL _ _
 |succ n=>
  unfold Op.eqGuardIn
  rcases hu:P.underlying t with _|td
  .rw[hu] at ht;cases ht
  rw[hu] at ht;refine kh h hu ?_
  cases td with
  |struct fs=>
   have ht:∀f,f∈fs.toList->gT P 10 f.type=true:=gp.1 ht
   cases x<;>first|exact bU _|skip
   cases y<;>first|exact bU _|skip
   dsimp only
   all_goals
    rw[<-Array.forIn_toList]
    refine bV (yY _ _ _ _ λf hf _=>?_) λ_=>?_
    .have hx:=Ev (P':=P') (C:=C) h 10 _ (ht f hf) n
     repeat' first|exact bU _|exact hx _ _|exact nY h _ _ _|refine bV ?_ λ_=>?_|split|dsimp only
    .split<;>exact bU _
  |_=>cases ht
theorem Kz(d:Nat)(t:TypeId):P'.eqGuardType d t=P.eqGuardType d t:=by
 obtain⟨fs,rfl⟩:=h.eq
 induction d generalizing t with
 |zero=>rfl
 |succ d ih=>simp only[Program.eqGuardType,ih];rfl
theorem KA{op:BinOp}{t:TypeId}(x y:Operand)(a b:Value)(hp:op=.eql\/op=.neq->nB P t=true):RE P P' C (eqGuard op t x y a b) (eqGuard op t x y a b):=by
 unfold eqGuard
 have key:nB P t=true->RE P P' C (do
  match a,b with
  |.nilIface,.nilIface=>
   if (x matches .const _) || (y matches .const _) then return
   if <-Op.eqGuardIn Op.maxDepth t a b then unsupported (.noEntry "binop/eql: two nil values of an interface type with methods, neither of them the literal nil")
  |.agg _,.agg _=>
   if !(<-program).eqGuardType (<-program).depth t then return
   if <-Op.eqGuardIn Op.maxDepth t a b then unsupported (.noEntry "binop/eql: two nil values of an interface type with methods, in a part of a struct or an array")
  |_,_=>pure ()) (do
  match a,b with
  |.nilIface,.nilIface=>
   if (x matches .const _) || (y matches .const _) then return
   if <-Op.eqGuardIn Op.maxDepth t a b then unsupported (.noEntry "binop/eql: two nil values of an interface type with methods, neither of them the literal nil")
  |.agg _,.agg _=>
   if !(<-program).eqGuardType (<-program).depth t then return
   if <-Op.eqGuardIn Op.maxDepth t a b then unsupported (.noEntry "binop/eql: two nil values of an interface type with methods, in a part of a struct or an array")
  |_,_=>pure ()):=λhx=>by
  skip
  split
  .repeat' first|exact bU _|exact dL _ _|exact Ew h t hx _ _ _|refine bV ?_ λ_=>?_|split|dsimp only
  .refine jc (jc ?_);rw[Kz h,h.depth]
   repeat' first|exact bU _|exact dL _ _|exact Ew h t hx _ _ _|refine bV ?_ λ_=>?_|split|dsimp only
  .exact bU _
 cases op with
 |eql=>grind
 |neq=>grind
 |_=>exact bU _
theorem KB{op:BinOp}{t:TypeId}(a b:Value)(hp:op=.eql\/op=.neq->nB P t=true):RE P P' C (binOp op t a b) (binOp op t a b):=by
 unfold binOp
 split<;>first
  |exact Ki h _ _ _ _ _
  |exact yT _ _ _
  |exact Et h _ _ _
  |exact dL _ _
  |exact cu _ _
  |exact bV (Ky h t (hp ae) _ _ _) λ_=>bU _
  |(repeat' first|contradiction|exact bU _|exact cu _ _|exact dL _ _|exact Ei _ _ _ _|exact Kh h _ _ _ _|exact Ej _ _ _ _|exact J8 _ _ _|exact Eg _ _ _ _|exact Eh _ _ _ _|exact Kc _ _ _ _ _ _|exact yU _|exact Ko h _ _ _|exact Ks h _ _ _|exact Kt h _ _ _|exact fB h _|exact Et h _ _ _|exact Ku h _ _ _|refine bV ?_ λ_=>?_|split|dsimp only)
end
section
variable{P P':Program}{C:Cx}(h:Kin P P')
include h
omit h in
theorem Ex{α β:Type}(f:α->Sem β)(hf:∀a,RE P P' C (f a) (f a))(l:Array α):RE P P' C (l.mapM f) (l.mapM f):=by
 rw[tA];refine Ea ?_ _
 induction l.toList with
 |nil=>rw[List.mapM_nil];exact bU _
 |cons a l ih=>rw[yx];exact bV (hf a) λb=>bV ih λbs=>bU _
theorem KC(t:TypeId)(v:Value):RE P P' C (Instr.alloc t true v) (Instr.alloc t true v):=by
 unfold Instr.alloc
 refine bV (oY h t) λz=>?_
 dsimp only
 exact bV (vA _ _) λa=>bU _
omit h in
theorem KD(t:TypeId)(v:Value):RE P P' C (Instr.box t v) (Instr.box t v):=bV (vA _ _) λa=>bU _
theorem KE(t:TypeId)(ps:Array (Nat×Value)):RE P P' C (Instr.build t ps) (Instr.build t ps):=by
 unfold Instr.build
 repeat' first|exact bU _|exact cu _ _|exact oY h _|exact fB h _|exact gP h _|exact Ex _ (λf=>bV (gP h _) λn=>bU _) _|refine bV ?_ λ_=>?_|split|dsimp only
theorem KF(t:TypeId)(n:Nat)(ps:Array (Nat×Value)):RE P P' C (Instr.buildSlice t n ps) (Instr.buildSlice t n ps):=by
 unfold Instr.buildSlice
 repeat' first|exact bU _|exact cu _ _|exact dL _ _|exact oY h _|exact fB h _|exact gP h _|exact tK _ _|refine bV ?_ λ_=>?_|split|dsimp only
omit h in
theorem tN(v:Value):RE P P' C (Instr.sureAddr v) (Instr.sureAddr v):=by
 unfold Instr.sureAddr;split
 .exact bU _
 .exact cu _ _
theorem KG(t:TypeId)(v:Value):RE P P' C (Instr.loadAt t v) (Instr.loadAt t v):=bV (tN v) λa=>vw h t a
theorem KH(t:TypeId)(v x:Value):RE P P' C (Instr.storeAt t v x) (Instr.storeAt t v x):=bV (tN v) λa=>J6 h t a x
theorem KI(s:TypeId)(v:Value)(k:Nat):RE P P' C (Instr.fieldAt s v k) (Instr.fieldAt s v k):=by
 unfold Instr.fieldAt
 repeat' first|exact bU _|exact cu _ _|exact fB h _|exact tN _|exact Er h _ _|refine bV ?_ λ_=>?_|split|dsimp only
theorem KJ(t:TypeId)(x i:Value):RE P P' C (Instr.indexAt t x i) (Instr.indexAt t x i):=by
 unfold Instr.indexAt
 repeat' first|exact bU _|exact cu _ _|exact dL _ _|exact fB h _|exact tN _|exact gP h _|exact vB _|exact yS h _ _ _ _|refine bV ?_ λ_=>?_|split|dsimp only
theorem KL(t:TypeId)(x i:Value):RE P P' C (Instr.index t x i) (Instr.index t x i):=by
 unfold Instr.index
 repeat' first|exact bU _|exact cu _ _|exact dL _ _|exact fB h _|exact nY h _ _ _|exact gP h _|exact vB _|exact yS h _ _ _ _|refine bV ?_ λ_=>?_|split|dsimp only
omit h in
theorem KM(x:Value)(i:Nat):RE P P' C (Instr.extract x i) (Instr.extract x i):=by
 unfold Instr.extract
 repeat' first|exact bU _|exact cu _ _|split
theorem KN(t:TypeId)(x:Value)(i:Nat):RE P P' C (Instr.field t x i) (Instr.field t x i):=by
 unfold Instr.field
 repeat' first|exact bU _|exact cu _ _|exact fB h _|exact nY h _ _ _|exact J7 _|refine bV ?_ λ_=>?_|split|dsimp only
theorem KO(t:TypeId)(x:Value):RE P P' C (Instr.makeInterface t x) (Instr.makeInterface t x):=by
 unfold Instr.makeInterface
 repeat' first|exact bU _|exact cu _ _|exact fB h _|refine bV ?_ λ_=>?_|split|dsimp only
theorem KP(t:TypeId)(r:Option Value):RE P P' C (Instr.makeMap t r) (Instr.makeMap t r):=by
 unfold Instr.makeMap
 repeat' first|exact bU _|exact cu _ _|exact fB h _|exact tL _|exact rH (o:=.map #[] 0) trivial|refine bV ?_ λ_=>?_|split|dsimp only
theorem KQ(t:TypeId)(x y:Value):RE P P' C (Instr.makeSlice t x y) (Instr.makeSlice t x y):=by
 unfold Instr.makeSlice
 repeat' first|exact bU _|exact cu _ _|exact fB h _|exact tL _|exact ng h _|exact gP h _|exact oY h _|exact tK _ _|exact yR _|exact gR h _|exact j7 _|refine bV ?_ λ_=>?_|split|dsimp only
theorem KR(x:Value)(y:Nat)(c:BoundsCode):RE P P' C (Instr.sliceBound x y c) (Instr.sliceBound x y c):=by
 unfold Instr.sliceBound
 repeat' first|exact bU _|exact vB _|exact yS h _ _ _ _|refine bV ?_ λ_=>?_|split|dsimp only
theorem Ey(b:Bool)(n c:Nat)(x y z:Option Value):RE P P' C (Instr.sliceBounds b n c x y z) (Instr.sliceBounds b n c x y z):=by
 unfold Instr.sliceBounds
 repeat' first|exact bU _|exact cu _ _|exact KR h _ _ _|refine bV ?_ λ_=>?_|split|dsimp only
theorem KS(t:TypeId)(x:Value)(a b c:Option Value):RE P P' C (Instr.slice t x a b c) (Instr.slice t x a b c):=by
 unfold Instr.slice
 repeat' first|exact bU _|exact cu _ _|exact fB h _|exact Ey h _ _ _ _ _ _|exact gP h _|exact vD h _|refine bV ?_ λ_=>?_|split|dsimp only
theorem KT(t:TypeId)(x:Value)(a b c:Option Value):RE P P' C (Instr.sliceAt t x a b c) (Instr.sliceAt t x a b c):=by
 unfold Instr.sliceAt
 repeat' first|exact bU _|exact cu _ _|exact fB h _|exact Ey h _ _ _ _ _ _|exact gP h _|exact tN _|exact KS h _ _ _ _ _|refine bV ?_ λ_=>?_|split|dsimp only
end
end Go.Fc
