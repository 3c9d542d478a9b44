/- Lemmas. -/
import Derived.Test.YthpkmilhiganjaaGreatPAa
import Derived.Conc.Beside
set_option linter.all false
set_option maxHeartbeats 32000000
set_option maxRecDepth 100000
namespace Go.Fc
open Go
structure Cx where
 code:Code->Prop
 fn:Nat->Prop
 xf:Nat->Prop
def okO(C:Cx):Obj->Prop
 |.cells .. | .map .. | .number ..=>True
 |.deferred (some []) | .deferred none=>True
 |.loop l=>C.code l.assign/\C.code l.body/\C.fn l.fn/\∀c,l.pending=some c->C.code c
 |_=>False
def jM(b:Nat):Obj->Obj
 |.view _ u=>.view ⟨b,0,none⟩ u
 |.chan ..=>.chan 0 #[] false 0 0 false
 |_=>.coro none
def rG:Halt->Prop
 |.panic _ | .stuck _=>True
 |.unsupported (.initOrder _)=>False
 |.unsupported _=>True
 |_=>False
def ND(w:World):Prop:=∀(b:Nat)(ds:List Deferred),w.heap[b]?=some (Obj.deferred (some ds))->ds=[]
def o6{α:Type}(w:World):Result α->Prop
 |.halt h w'=>rG h/\(ND w->ND w')
 |.ok _ _=>False
def NP(w:World):Prop:=∀(b:Nat)(c:Array Value)(e:TypeId),w.heap[b]?≠some (Obj.pending c e)
inductive RT(P P':Program)(C:Cx){α:Type}(D:α->Prop)(Q:α->α->Prop):Sem α->Sem α->Prop
 |pure (a b:α):Q a b->RT P P' C D Q (.pure a) (.pure b)
 |nY (a:α) (t:Sem α):D a->RT P P' C D Q (.pure a) t
 |bad (s t:Sem α):(∀w es,NP w->o6 w (s.runT P w es).1)->RT P P' C D Q s t
 |load (a:Addr) (k k':Value->Sem α):(∀v,RT P P' C D Q (k v) (k' v))->RT P P' C D Q (.load .plain a k) (.load .plain a k')
 |store (a:Addr) (v:Value) (k k':Sem α):RT P P' C D Q k k'->RT P P' C D Q (.store .plain a v k) (.store .plain a v k')
 |new (o:Obj) (k k':Nat->Sem α):okO C o->(∀r,RT P P' C D Q (k r) (k' r))->RT P P' C D Q (.new o k) (.new o k')
 |o7 (o:Obj) (s t:Sem α) (k k':Nat->Sem α):okO C o->(∀p w es,s.runT p w es=(k w.heap.size).runT p { w with heap:=w.heap.push o } es)->(∀p w es,t.runT p w es=(k' w.heap.size).runT p { w with heap:=w.heap.push o } es) ->
   (∀r,RT P P' C D Q (k r) (k' r))->RT P P' C D Q s t
 |shape (r:Nat) (k k':Option (TypeId×Nat)->Sem α):(∀x,RT P P' C D Q (k x) (k' x))->(∀e n,RT P P' C D Q (k (some (e,0))) (k' (some (e,n)))) ->
   RT P P' C D Q (.shape r k) (.shape r k')
 |frozen (a:Addr) (k k':Bool->Sem α):(∀x,RT P P' C D Q (k x) (k' x))->RT P P' C D Q (.frozen a k) (.frozen a k')
 |getObj (r:Nat) (k k':Obj->Sem α):(∀o,okO C o->RT P P' C D Q (k o) (k' o))->(∀o,¬okO C o->RT P P' C D Q (k (jM r o)) (k' o)) ->
   RT P P' C D Q (.getObj r k) (.getObj r k')
 |setObj (r:Nat) (o:Obj) (k k':Sem α):okO C o->RT P P' C D Q k k'->RT P P' C D Q (.setObj r o k) (.setObj r o k')
 |choose (q:Question) (k k':Nat->Sem α):(∀n,RT P P' C D Q (k n) (k' n))->RT P P' C D Q (.choose q k) (.choose q k')
 |program (k k':Program->Sem α):RT P P' C D Q (k P) (k' P')->RT P P' C D Q (.program k) (.program k')
 |mark (k k':Sem α):RT P P' C D Q k k'->RT P P' C D Q (.mark .noRoom k) (.mark .noRoom k')
section
variable{P P':Program}{C:Cx}{α β:Type}
theorem RT.mono{s t:Sem α}{D D':α->Prop}{Q Q':α->α->Prop}(h:RT P P' C D Q s t)(hd:∀a,D a->D' a)(hq:∀a b,Q a b->Q' a b):RT P P' C D' Q' s t:=by
 induction h with
 |pure a b h=>exact .pure a b (hq a b h)
 |nY a t h=>exact .nY a t (hd a h)
 |bad s t h=>exact .bad s t h
 |load a k k' _ ih=>exact .load a k k' ih
 |store a v k k' _ ih=>exact .store a v k k' ih
 |new o k k' ho _ ih=>exact .new o k k' ho ih
 |o7 o s t k k' ho hs ht _ ih=>exact .o7 o s t k k' ho hs ht ih
 |shape r k k' _ _ ih1 ih2=>exact .shape r k k' ih1 ih2
 |frozen a k k' _ ih=>exact .frozen a k k' ih
 |getObj r k k' _ _ ih1 ih2=>exact .getObj r k k' ih1 ih2
 |setObj r o k k' ho _ ih=>exact .setObj r o k k' ho ih
 |choose q k k' _ ih=>exact .choose q k k' ih
 |program k k' _ ih=>exact .program k k' ih
 |mark k k' _ ih=>exact .mark k k' ih
theorem RT.halt{h:Halt}(hc:rG h)(t:Sem α){D:α->Prop}{Q:α->α->Prop}:RT P P' C D Q (.halt h) t:=.bad _ _ λw es _=>⟨hc,id⟩
theorem RT.bind{s t:Sem α}{f g:α->Sem β}{M:α->α->Prop}{D:β->Prop}{Q:β->β->Prop}(h:RT P P' C (λ_=>False) M s t)(hf:∀a b,M a b->RT P P' C D Q (f a) (g b)):RT P P' C D Q (s.bind f) (t.bind g):=by
 induction h with
 |pure a b h=>exact hf a b h
 |nY a t h=>exact h.elim
 |bad s t h=>
  refine .bad _ _ λw es hn=>?_
  have hx:=h w es hn;rw[Sem.runT_bind']
  rcases hr:s.runT P w es with ⟨r,h5⟩
  rw[hr] at hx
  cases r with
  |ok a0 w0=>exact hx.elim
  |halt h0 w0=>exact hx
 |load a k k' _ ih=>exact .load a _ _ ih
 |store a v k k' _ ih=>exact .store a v _ _ ih
 |new o k k' ho _ ih=>exact .new o _ _ ho ih
 |o7 o s t k k' ho hs ht _ ih=>exact .o7 o _ _ (λr=>(k r).bind f) (λr=>(k' r).bind g) ho (λp w es=>by rw[Sem.runT_bind',Sem.runT_bind',hs]) (λp w es=>by rw[Sem.runT_bind',Sem.runT_bind',ht]) ih
 |shape r k k' _ _ ih1 ih2=>exact .shape r _ _ ih1 ih2
 |frozen a k k' _ ih=>exact .frozen a _ _ ih
 |getObj r k k' _ _ ih1 ih2=>exact .getObj r _ _ ih1 ih2
 |setObj r o k k' ho _ ih=>exact .setObj r o _ _ ho ih
 |choose q k k' _ ih=>exact .choose q _ _ ih
 |program k k' _ ih=>exact .program _ _ ih
 |mark k k' _ ih=>exact .mark _ _ ih
end
structure Sh where
 dead:Nat->Prop
 part:Nat->Nat->Prop
 old:Nat->Obj->Prop
def Sh.eU(S:Sh)(e:Event):Prop:=∀a,e.loc=.cell a->¬S.part a.block a.off
structure Lk(C:Cx)(S:Sh)(A B:World):Prop where
 size:A.heap.size=B.heap.size
 low:∀b,S.dead b->b<A.heap.size
 same:∀b,¬S.dead b->(A.heap[b]?=B.heap[b]?/\∀o,A.heap[b]?=some o->okO C o)\/(∃o,B.heap[b]?=some o/\¬okO C o/\A.heap[b]?=some (jM b o)/\S.old b o) \/
  ∃cA cB e fr,A.heap[b]?=some (.cells cA e fr)/\B.heap[b]?=some (.cells cB e fr)/\cA.size=cB.size/\∀i,¬S.part b i->cA[i]?=cB[i]?
 dead:∀b,S.dead b->∃c e fr,A.heap[b]?=some (.cells #[] e fr)/\B.heap[b]?=some (.cells c e fr)
 os:A.os=B.os
 output:A.output=B.output
def EvT(S:Sh)(w:World)(e:Event):Prop:=
 (∃a wr,e=⟨.cell a,wr,false⟩/\(∃c ty fr,w.heap[a.block]?=some (.cells c ty fr))/\¬S.dead a.block)\/(∃r wr sy,e=⟨.obj r,wr,sy⟩/\r<w.heap.size/\¬S.dead r)\/e=⟨.mark .noRoom,false,true⟩
theorem Dp{w:World}{a:Addr}{v:Value}(h:w.cell? a=some v):∃c ty fr,w.heap[a.block]?=some (.cells c ty fr):=by
 unfold World.cell? at h
 grind
section
variable{P P':Program}{C:Cx}{S:Sh}{A B:World}
theorem Lk.Hx(h:Lk C S A B){b:Nat}{c:Array Value}{e:TypeId}{f:Nat×Nat}(hS:¬S.dead b)(hb:A.heap[b]?=some (.cells c e f)):∃cB,B.heap[b]?=some (.cells cB e f)/\c.size=cB.size/\∀i,¬S.part b i->c[i]?=cB[i]?:=by
 rcases h.same b hS with ⟨e,_⟩|⟨o',h1,h2,h3,_⟩|⟨cA,cB,e,f,h1,h2,h3,h4⟩
 .exact⟨c,by rw[<-e];exact hb,rfl,λ_ _=>rfl⟩
 .rw[h3] at hb
  cases o'<;>first|exact absurd trivial h2|cases hb
 simp_all
theorem Lk.cell0(h:Lk C S A B){a:Addr}{v:Value}(hc:A.cell? a=some v):¬S.dead a.block/\a.block<A.heap.size/\∃u,B.cell? a=some u/\(¬S.part a.block a.off->u=v):=by
 have hn:¬S.dead a.block:=by
  intro hs;obtain⟨c,e,fr,h1,_⟩:=h.dead _ hs;simp[World.cell?,h1] at hc
 rcases hx:A.heap[a.block]? with _|o
 .simp[World.cell?,hx] at hc
 refine⟨hn,(df.1 hx).1,?_⟩;unfold World.cell? at hc ⊢;rw[hx] at hc
 cases o<;>first|cases hc|skip
 obtain⟨cB,h1,h2,h3⟩:=h.Hx hn hx;rw[h1]
 grind
theorem Lk.cell(h:Lk C S A B){a:Addr}{v:Value}(hc:A.cell? a=some v)(hp:¬S.part a.block a.off):¬S.dead a.block/\a.block<A.heap.size/\B.cell? a=some v:=
 let ⟨h1,h2,u,h3,h4⟩:=h.cell0 hc;⟨h1,h2,h4 hp▸h3⟩
theorem Lk.np(h:Lk C S A B):NP A:=by
 intro b c e hb;by_cases hS:S.dead b
 .obtain⟨c',e',fr,h1,_⟩:=h.dead _ hS;rw[hb] at h1;cases h1
 .rcases h.same _ hS with ⟨_,ho⟩|⟨o,h1,h2,h3,_⟩|⟨_,_,_,_,h1,_⟩
  .exact ho _ hb
  .rw[hb] at h3
   cases o<;>simp[jM] at h3
  simp_all
theorem Lk.nd(h:Lk C S A B):ND A:=by
 intro b ds hb;by_cases hS:S.dead b
 .obtain⟨c',e',fr,h1,_⟩:=h.dead _ hS;rw[hb] at h1;cases h1
 .rcases h.same _ hS with ⟨_,ho⟩|⟨o,h1,h2,h3,_⟩|⟨_,_,_,_,h1,_⟩
  .have:=ho _ hb
   cases ds with
   |nil=>rfl
   |cons d r=>exact this.elim
  .rw[hb] at h3
   cases o<;>simp[jM] at h3
  simp_all
theorem Lk.frozen(h:Lk C S A B)(a:Addr):B.frozen? a=A.frozen? a:=by
 unfold World.frozen?;by_cases hS:S.dead a.block
 .obtain⟨c,e,fr,h1,h2⟩:=h.dead _ hS;rw[h1,h2]
 .rcases h.same _ hS with ⟨e,_⟩|⟨o,h1,h2,h3,_⟩|⟨_,_,_,_,h1,h2,_⟩
  .rw[e]
  .rw[h1,h3]
   cases o<;>first|rfl|exact absurd trivial h2
  grind
theorem Lk.shape(h:Lk C S A B)(r:Nat):A.shape? r=B.shape? r\/∃e n,A.shape? r=some (e,0)/\B.shape? r=some (e,n):=by
 unfold World.shape?;by_cases hS:S.dead r
 .obtain⟨c,e,fr,h1,h2⟩:=h.dead _ hS;rw[h1,h2];simp
 .rcases h.same _ hS with ⟨e,_⟩|⟨o,h1,h2,h3,_⟩|⟨_,_,_,_,h1,h2,h3,_⟩
  .rw[e];exact .inl rfl
  .rw[h1,h3]
   cases o<;>first|exact .inl rfl|exact absurd trivial h2
  simp_all
theorem Lk.push(h:Lk C S A B){o:Obj}(ho:okO C o):Lk C S { A with heap:=A.heap.push o } { B with heap:=B.heap.push o }:=by
 refine⟨by simp[h.size],λb hb=>by have:=h.low b hb;simp;omega,λb hb=>?_,λb hb=>?_,h.os,h.output⟩
 .simp only[pO,h.size];split
  .simp_all
  .exact h.same b hb
 .have:=h.low b hb;obtain⟨c,e,fr,h1,h2⟩:=h.dead _ hb
  grind
theorem Lk.set(h:Lk C S A B){r:Nat}(hr:¬S.dead r){o:Obj}(ho:okO C o):Lk C S { A with heap:=A.heap.setIfInBounds r o } { B with heap:=B.heap.setIfInBounds r o }:=by
 refine⟨by simp[h.size],λb hb=>by simpa using h.low b hb,λb hb=>?_,λb hb=>?_,h.os,h.output⟩
 .simp only[jj,h.size];split
  .simp_all
  .exact h.same b hb
 .have hm:r≠b:=λe=>hr (e▸hb)
  simp only[jj,bH hm];exact h.dead b hb
theorem Lk.setCell(h:Lk C S A B){a:Addr}{u:Value}(hc:A.cell? a=some u)(v:Value):Lk C S (A.setCell a v) (B.setCell a v):=by
 obtain⟨hn,hg,_⟩:=h.cell0 hc;refine⟨by simp[World.setCell,h.size],λb hb=>by simpa[World.setCell] using h.low b hb,λb hb=>?_,λb hb=>?_,h.os,h.output⟩
 .simp only[World.setCell,fG];split
  .rename_i e;subst e
   rcases hx:A.heap[a.block]? with _|o
   .simp_all
   .cases o<;>simp[World.cell?,hx] at hc
    obtain⟨cB,h1,h2,h3⟩:=h.Hx hn hx;rw[h1]
    grind
  .exact h.same b hb
 .have hm:a.block≠b:=λe=>hn (e▸hb)
  simp only[World.setCell,fG,bH hm];exact h.dead b hb
theorem Lk.far(h:Lk C S A B)(p:Program)(a:Addr)(at_:Bool):∃e,A.farLoad p a at_=.error e:=by
 unfold World.farLoad
 rcases hx:A.heap[a.block]? with _|o
 .simp
 .cases o<;>first|exact⟨_,rfl⟩|skip
  rename_i v u
  have hv:v.block=a.block:=by
   by_cases hS:S.dead a.block
   .obtain⟨c,e,fr,h1,_⟩:=h.dead _ hS;rw[hx] at h1;cases h1
   .rcases h.same _ hS with ⟨_,ho⟩|⟨o,h1,h2,h3,_⟩|⟨_,_,_,_,h1,_⟩
    .exact (ho _ hx).elim
    .rw[hx] at h3
     cases o<;>simp[jM] at h3
     rw[h3.1]
    .rw[hx] at h1;cases h1
  have hs:∀k,∃e,A.seen p v u k at_=.error e:=λk=>by
   rcases hy:A.seen p v u k at_ with e|x
   .exact⟨e,rfl⟩
   .exfalso;unfold World.seen at hy;rw[hv,hx] at hy;simp only[bind,Except.bind,throw,throwThe,MonadExceptOf.throw,pure,Except.pure] at hy
    repeat' split at hy
    all_goals first|cases hy|skip
  obtain⟨e,he⟩:=hs a;simp only[World.viewLoad,he,bind,Except.bind];simp
theorem Lk.BK(h:Lk C S A B)(p:Program)(a:Addr)(v:Value)(at_:Bool):∃e,A.farStore p a v at_=.error e:=by
 unfold World.farStore
 rcases hx:A.heap[a.block]? with _|o
 .simp
 .cases o<;>first|exact⟨_,rfl⟩|skip
  rename_i w u
  have hv:w.block=a.block:=by
   by_cases hS:S.dead a.block
   .obtain⟨c,e,fr,h1,_⟩:=h.dead _ hS;rw[hx] at h1;cases h1
   .rcases h.same _ hS with ⟨_,ho⟩|⟨o,h1,h2,h3,_⟩|⟨_,_,_,_,h1,_⟩
    .exact (ho _ hx).elim
    .rw[hx] at h3
     cases o<;>simp[jM] at h3
     rw[h3.1]
    simp_all
  have hs:∀k,∃e,A.seen p w u k at_=.error e:=λk=>by
   rcases hy:A.seen p w u k at_ with e|x
   .simp
   .exfalso;unfold World.seen at hy;rw[hv,hx] at hy;simp only[bind,Except.bind,throw,throwThe,MonadExceptOf.throw,pure,Except.pure] at hy
    repeat' split at hy
    all_goals first|cases hy|skip
  obtain⟨e,he⟩:=hs a
  rcases hz:A.viewStore p w u a v at_ with e|x
  .simp_all
  .exfalso;unfold World.viewStore at hz;simp only[he,bind,Except.bind,throw,throwThe,MonadExceptOf.throw,pure,Except.pure] at hz
   grind
structure Kept(es:Array Event)(B B':World):Prop where
 os:B'.os=B.os
 output:B'.output=B.output
 size:B.heap.size<=B'.heap.size
 obj:∀b,b<B.heap.size->((∀c ty fr,B.heap[b]?≠some (.cells c ty fr))\/∀e∈es,e.write=true->∀a,e.loc=.cell a->a.block≠b)->(∀e∈es,e.write=true->e.loc≠.obj b)->B'.heap[b]?=B.heap[b]?
 cell:∀b c ty fr,B.heap[b]?=some (.cells c ty fr)->∃c',B'.heap[b]?=some (.cells c' ty fr)/\c'.size=c.size/\∀i,(∀e∈es,e.write=true->∀a,e.loc=.cell a->a.block=b->a.off≠i)->c'[i]?=c[i]?
theorem EvT.mono{S:Sh}{es:Array Event}{w w':World}{e:Event}(h:EvT S w e)(k:Kept es w w'):EvT S w' e:=by
 rcases h with ⟨a,wr,rfl,⟨c,ty,fr,h1⟩,h2⟩|⟨r,wr,sy,rfl,h1,h2⟩|rfl
 .obtain⟨c',h3,_⟩:=k.cell _ c ty fr h1;exact .inl ⟨a,wr,rfl,⟨c',ty,fr,h3⟩,h2⟩
 .exact .inr (.inl ⟨r,wr,sy,rfl,lT h1 k.size,h2⟩)
 .exact .inr (.inr rfl)
theorem Kept.refl(es:Array Event)(B:World):Kept es B B:=⟨rfl,rfl,bV _,λ_ _ _ _=>rfl,λb c ty fr h=>⟨c,h,rfl,λ_ _=>rfl⟩⟩
theorem Kept.trans{e n:Array Event}{B B1 B2:World}(h:Kept e B B1)(k:Kept n B1 B2):Kept (e++n) B B2:=by
 refine⟨k.os.trans h.os,k.output.trans h.output,dK h.size k.size,λb hb h1 h2=>?_,λb c ty fr hc=>?_⟩
 .have e1:=h.obj b hb (h1.imp id λh1 x hx=>h1 x (IQ _ hx)) (λx hx=>h2 x (IQ _ hx));exact (k.obj b (lT hb h.size) (h1.imp (λh1=>by rw[e1];exact h1) λh1 x hx=>h1 x (IS _ hx)) (λx hx=>h2 x (IS _ hx))).trans e1
 .obtain⟨c1,a1,a2,a3⟩:=h.cell b c ty fr hc;obtain⟨c2,b1,b2,b3⟩:=k.cell b c1 ty fr a1
  grind
theorem Kept.draw(B:World)(d:Nat):Kept #[] B { B with drawn:=d }:=⟨rfl,rfl,bV _,λ_ _ _ _=>rfl,λb c ty fr h=>⟨c,h,rfl,λ_ _=>rfl⟩⟩
theorem Kept.push(B:World)(o:Obj):Kept #[] B { B with heap:=B.heap.push o }:=by
 have e:∀b,b<B.heap.size->(B.heap.push o)[b]?=B.heap[b]?:=λb hb=>by rw[pO,bH ab]
 exact⟨rfl,rfl,ae,λb hb _ _=>e b hb,λb c ty fr h=>⟨c,(e b (df.1 h).1).trans h,rfl,λ_ _=>rfl⟩⟩
theorem Kept.setCell(B:World)(a:Addr)(v:Value)(sy:Bool):Kept #[⟨.cell a,true,sy⟩] B (B.setCell a v):=by
 refine⟨rfl,rfl,ae,λb hb h1 h2=>?_,λb c ty fr h=>?_⟩
 .rcases h1 with h1|h1
  .by_cases hh:a.block=b
   .subst hh
    rcases hx:B.heap[a.block]? with _|o
    .simp_all
    .cases o<;>first|exact absurd hx (h1 _ _ _)|simp[World.setCell,fG,hx]
   .simp[World.setCell,fG,hh]
  .have:=h1 ⟨.cell a,true,sy⟩ ae rfl a rfl;simp[World.setCell,fG,this]
 .by_cases hb:a.block=b
  .subst hb;refine⟨if a.spot.isSome then c else c.setIfInBounds a.off v,by simp[World.setCell,fG,h],by split<;>simp,λi hi=>?_⟩;have:=hi ⟨.cell a,true,sy⟩ ae rfl a rfl rfl
   grind
  .exact⟨c,by simp[World.setCell,fG,hb,h],rfl,λ_ _=>rfl⟩
theorem Kept.setObj(B:World)(r:Nat)(o o1:Obj)(h0:B.heap[r]?=some o1)(hn:¬∃c e f,o1=.cells c e f)(sy:Bool):Kept #[⟨.obj r,true,sy⟩] B { B with heap:=B.heap.setIfInBounds r o }:=by
 refine⟨rfl,rfl,ae,λb hb h1 h2=>?_,λb c ty fr h=>?_⟩
 .have:r≠b:=λe=>h2 ⟨.obj r,true,sy⟩ ae rfl (by rw[e])
  simp[jj,this]
 grind
structure Alike(P':Program)(C:Cx)(S:Sh){α:Type}(t:Sem α)(Q:α->α->Prop)(A B:World)(es fs:Array Event)(a:α)(A':World)(h5:Array Event):Prop where
 drawn:A.drawn<=A'.drawn
 tape:A'.tape=A.tape
 size:A.heap.size<=A'.heap.size
 alike:(∀j,A.drawn+j<A'.drawn->B.tape (B.drawn+j)=A.tape (A.drawn+j)) ->
  ∃(b:α)(B':World)(new:Array Event),t.runT P' B fs=(.ok b B',fs++new)/\h5=es++new/\Q a b/\Lk C S A' B' /\
   B'.tape=B.tape/\B'.drawn=B.drawn+(A'.drawn-A.drawn)/\Kept new B B'/\∀e∈new,EvT S B' e
theorem Alike.step{α:Type}{t t':Sem α}{Q:α->α->Prop}{A B A1 B1 A':World}{es fs h5:Array Event}{a:α}(e:Array Event)(c:Nat)(h2:(∀j,j<c->B.tape (B.drawn+j)=A.tape (A.drawn+j))->t.runT P' B fs=t'.runT P' B1 (fs++e))(hd:A1.drawn=A.drawn+c)(hdB:B1.drawn=B.drawn+c)(ht:A1.tape=A.tape)(htB:B1.tape=B.tape)(a4:Kept e B B1)(hs:A.heap.size<=A1.heap.size)(ev:∀x∈e,EvT S B1 x)(x:Alike P' C S t' Q A1 B1 (es++e) (fs++e) a A' h5):Alike P' C S t Q A B es fs a A' h5:=by
 have x1:=x.drawn;have x4:=x.size;refine⟨ab,x.tape.trans ht,ab,?_⟩;intro ag;rw[h2 λj hj=>ag j ab]
 obtain⟨b,B',new,y1,y2,y7,y3,y4,y5,y8,y6⟩:=x.alike λj hj=>by
  have:=ag (c+j) ab;rw[htB,ht,hd,hdB,pP,pP];exact this
 refine⟨b,B',e++new,by rw[y1,uQ],by rw[y2,uQ],y7,y3,y4.trans htB,by rw[y5];omega,a4.trans y8,λz hz=>?_⟩
 rcases xX.1 hz with hz|hz
 .exact (ev z hz).mono y8
 simp_all
theorem lX(es:Array Event)(e:Event):es.push e=es++#[e]:=ae
theorem Jj{α:Type}{s:Sem α}{A:World}{es h5:Array Event}(h:(s.runT P A es).2=h5):∀e∈es,e∈h5:=by
 intro e he;rw[<-h,Sem.runT_eq];show e∈s.events P A es;rw[Sem.events_acc];simp_all
theorem vc{α:Type}{D:α->Prop}{Q:α->α->Prop}{s t:Sem α}(h:RT P P' C D Q s t):∀(A B:World)(es fs:Array Event)(a:α)(A':World)(h5:Array Event),Lk C S A B->s.runT P A es=(.ok a A',h5)->(∀e∈h5,S.eU e)->D a\/Alike P' C S t Q A B es fs a A' h5:=by
 induction h with
 |nY a t hd=>
  intro A B es fs a0 A' h5 hl hr h9;simp only[Sem.runT,dH,Result.ok.injEq] at hr;exact .inl (hr.1.1▸hd)
 |pure a b hq=>
  intro A B es fs a0 A' h5 hl hr h9;simp only[Sem.runT,dH,Result.ok.injEq] at hr;obtain⟨⟨rfl,rfl⟩,rfl⟩:=hr;exact .inr ⟨bV _,rfl,bV _,λ_=>⟨b,B,#[],by simp[Sem.runT],ae,hq,hl,rfl,ae,.refl _ _,ae⟩⟩
 |bad s t hb=>
  intro A B es fs a0 A' h5 hl hr h9;have:=hb A es hl.np;rw[hr] at this;exact this.elim
 |load a k k' _ ih=>
  intro A B es fs a0 A' h5 hl hr h9
  rcases hx:A.cell? a with _|v
  .obtain⟨e,he⟩:=hl.far P a (Mode.plain == .atomic);simp[-Sem.runT_eq,Sem.runT,hx,he] at hr
  .have hp:¬S.part a.block a.off:=h9 ⟨.cell a,false,false⟩ (by
    simp only[Sem.runT,hx] at hr
    exact Jj (congrArg Prod.snd hr) _ ae) a rfl
   obtain⟨h1,h2,h3⟩:=hl.cell hx hp
   have e1:(Sem.load .plain a k).runT P A es=(k v).runT P A (es++#[⟨.cell a,false,false⟩]):=by rw[<-lX];simp only[Sem.runT,hx];rfl
   have e2:(Sem.load .plain a k').runT P' B fs=(k' v).runT P' B (fs++#[⟨.cell a,false,false⟩]):=by rw[<-lX];simp only[Sem.runT,h3];rfl
   rw[e1] at hr
   refine (ih v A B _ _ a0 A' h5 hl hr h9).imp id λx=>.step _ 0 (λ_=>e2) rfl rfl rfl rfl (.refl _ _) (bV _) (λx hx=>?_) x
   obtain rfl:x=_:=by simpa using hx
   exact .inl ⟨a,false,rfl,Dp h3,h1⟩
 |store a v k k' _ ih=>
  intro A B es fs a0 A' h5 hl hr h9;by_cases hv:(∃cs,v=.agg cs)\/∃cs,v=.tuple cs
  .exfalso
   rcases hv with ⟨cs,rfl⟩|⟨cs,rfl⟩<;>simp[-Sem.runT_eq,Sem.runT] at hr
  rcases hx:A.cell? a with _|u
  .obtain⟨e,he⟩:=hl.BK P a v (Mode.plain == .atomic)
   cases v<;>first|exact absurd (.inl ⟨_,rfl⟩) hv|exact absurd (.inr ⟨_,rfl⟩) hv|(simp[-Sem.runT_eq,Sem.runT,hx,he] at hr)
  .obtain⟨h1,h2,u2,h3,_⟩:=hl.cell0 hx;have hw:=hl.frozen a
   rcases hz:A.frozen? a with _|_
   .have e1:(Sem.store .plain a v k).runT P A es=k.runT P (A.setCell a v) (es++#[⟨.cell a,true,false⟩]):=by
     rw[<-lX]
     cases v<;>first|exact absurd (.inl ⟨_,rfl⟩) hv|exact absurd (.inr ⟨_,rfl⟩) hv|(simp only[Sem.runT,hx,hz];rfl)
    have e2:(Sem.store .plain a v k').runT P' B fs=k'.runT P' (B.setCell a v) (fs++#[⟨.cell a,true,false⟩]):=by
     rw[<-lX]
     cases v<;>first|exact absurd (.inl ⟨_,rfl⟩) hv|exact absurd (.inr ⟨_,rfl⟩) hv|(simp only[Sem.runT,h3,hw,hz];rfl)
    rw[e1] at hr
    refine (ih _ _ _ _ a0 A' h5 (hl.setCell hx v) hr h9).imp id λx=>.step (A1:=A.setCell a v) _ 0 (λ_=>e2) rfl rfl rfl rfl (.setCell _ _ _ _) (by simp[World.setCell]) (λx hx=>?_) x
    obtain rfl:x=_:=by simpa using hx
    obtain⟨c,ty,fr,hc⟩:=Dp h3;exact .inl ⟨a,true,rfl,let ⟨c',h,_⟩:=(Kept.setCell B a v false).cell _ _ _ _ hc;⟨c',_,_,h⟩,h1⟩
   .exfalso
    cases v<;>first|exact absurd (.inl ⟨_,rfl⟩) hv|exact absurd (.inr ⟨_,rfl⟩) hv|(simp[-Sem.runT_eq,Sem.runT,hx,hz] at hr)
 |new o k k' ho _ ih=>
  intro A B es fs a0 A' h5 hl hr h9
  have e1:(Sem.new o k).runT P A es=(k A.heap.size).runT P { A with heap:=A.heap.push o } (es++#[]):=by simp[-Sem.runT_eq,Sem.runT]
  have e2:(Sem.new o k').runT P' B fs=(k' A.heap.size).runT P' { B with heap:=B.heap.push o } (fs++#[]):=by simp[-Sem.runT_eq,Sem.runT,hl.size]
  rw[e1] at hr
  exact (ih _ _ _ _ _ a0 A' h5 (hl.push ho) hr h9).imp id λx=>.step (A1:={ A with heap:=A.heap.push o }) #[] 0 (λ_=>e2) rfl rfl rfl rfl (.push _ _) ae ae x
 |o7 o s t k k' ho hs ht _ ih=>
  intro A B es fs a0 A' h5 hl hr h9
  have e1:s.runT P A es=(k A.heap.size).runT P { A with heap:=A.heap.push o } (es++#[]):=by rw[hs,mU]
  have e2:t.runT P' B fs=(k' A.heap.size).runT P' { B with heap:=B.heap.push o } (fs++#[]):=by rw[ht,mU,hl.size]
  rw[e1] at hr
  exact (ih _ _ _ _ _ a0 A' h5 (hl.push ho) hr h9).imp id λx=>.step (A1:={ A with heap:=A.heap.push o }) #[] 0 (λ_=>e2) rfl rfl rfl rfl (.push _ _) ae ae x
 |shape r k k' _ _ ih1 ih2=>
  intro A B es fs a0 A' h5 hl hr h9
  have e1:(Sem.shape r k).runT P A es=(k (A.shape? r)).runT P A (es++#[]):=by simp[-Sem.runT_eq,Sem.runT]
  have e2:(Sem.shape r k').runT P' B fs=(k' (B.shape? r)).runT P' B (fs++#[]):=by simp[-Sem.runT_eq,Sem.runT]
  rw[e1] at hr
  rcases hl.shape r with e|⟨e,n,h1,h2⟩
  .rw[<-e] at e2
   exact (ih1 _ _ _ _ _ a0 A' h5 hl hr h9).imp id λx=>.step #[] 0 (λ_=>e2) rfl rfl rfl rfl (.refl _ _) (bV _) ae x
  .rw[h1] at hr;rw[h2] at e2
   exact (ih2 _ _ _ _ _ _ a0 A' h5 hl hr h9).imp id λx=>.step #[] 0 (λ_=>e2) rfl rfl rfl rfl (.refl _ _) (bV _) ae x
 |frozen a k k' _ ih=>
  intro A B es fs a0 A' h5 hl hr h9
  have e1:(Sem.frozen a k).runT P A es=(k (A.frozen? a)).runT P A (es++#[]):=by simp[-Sem.runT_eq,Sem.runT]
  have e2:(Sem.frozen a k').runT P' B fs=(k' (A.frozen? a)).runT P' B (fs++#[]):=by simp[-Sem.runT_eq,Sem.runT,hl.frozen]
  rw[e1] at hr
  exact (ih _ _ _ _ _ a0 A' h5 hl hr h9).imp id λx=>.step #[] 0 (λ_=>e2) rfl rfl rfl rfl (.refl _ _) (bV _) ae x
 |getObj r k k' _ _ ih1 ih2=>
  intro A B es fs a0 A' h5 hl hr h9;by_cases hS:S.dead r
  .obtain⟨c,e,fr,h1,_⟩:=hl.dead r hS;simp[-Sem.runT_eq,Sem.runT,h1] at hr
  rcases hx:A.heap[r]? with _|o
  .simp[-Sem.runT_eq,Sem.runT,hx] at hr
  by_cases h8:∃c e f,o=.cells c e f
  .obtain⟨c,e,f,rfl⟩:=h8;simp[-Sem.runT_eq,Sem.runT,hx] at hr
  have e1:(Sem.getObj r k).runT P A es=(k o).runT P A (es++#[⟨.obj r,false,o.isChan⟩]):=by
   rw[<-lX];cases o<;>first|exact absurd ⟨_,_,_,rfl⟩ h8|(simp only[Sem.runT,hx])
  rw[e1] at hr;have hg:=(df.1 hx).1
  rcases hl.same r hS with ⟨e,ho⟩|⟨o',h1,h2,h3,_⟩|⟨_,_,_,_,h1,_⟩
  .rw[hx] at e
   have e2:(Sem.getObj r k').runT P' B fs=(k' o).runT P' B (fs++#[⟨.obj r,false,o.isChan⟩]):=by
    rw[<-lX];cases o<;>first|exact absurd ⟨_,_,_,rfl⟩ h8|(simp only[Sem.runT,<-e])
   refine (ih1 o (ho o hx) A B _ _ a0 A' h5 hl hr h9).imp id λx=>.step _ 0 (λ_=>e2) rfl rfl rfl rfl (.refl _ _) (bV _) (λx hk=>?_) x
   obtain rfl:x=_:=by simpa using hk
   exact .inr (.inl ⟨r,false,_,rfl,hl.size▸hg,hS⟩)
  .rw[hx] at h3;obtain rfl:=fO h3
   have e2:(Sem.getObj r k').runT P' B fs=(k' o').runT P' B (fs++#[⟨.obj r,false,(jM r o').isChan⟩]):=by
    rw[<-lX];cases o'<;>first|exact absurd trivial h2|(simp only[Sem.runT,h1];rfl)
   refine (ih2 o' h2 A B _ _ a0 A' h5 hl hr h9).imp id λx=>.step _ 0 (λ_=>e2) rfl rfl rfl rfl (.refl _ _) (bV _) (λx hk=>?_) x
   obtain rfl:x=_:=by simpa using hk
   exact .inr (.inl ⟨r,false,_,rfl,hl.size▸hg,hS⟩)
  .rw[hx] at h1;exact absurd ⟨_,_,_,fO h1⟩ h8
 |setObj r o k k' ho _ ih=>
  intro A B es fs a0 A' h5 hl hr h9;by_cases hS:S.dead r
  .obtain⟨c,e,fr,h1,_⟩:=hl.dead r hS;simp[-Sem.runT_eq,Sem.runT,h1] at hr
  rcases hx:A.heap[r]? with _|o0
  .simp[-Sem.runT_eq,Sem.runT,hx] at hr
  by_cases h8:∃c e f,o0=.cells c e f
  .obtain⟨c,e,f,rfl⟩:=h8;simp[-Sem.runT_eq,Sem.runT,hx] at hr
  have hg:=(df.1 hx).1
  have hB:∃o1,B.heap[r]?=some o1/\¬∃c e f,o1=.cells c e f:=by
   rcases hl.same r hS with ⟨e,_⟩|⟨o',h1,h2,h3,_⟩|⟨_,_,_,_,h1,_⟩
   .exact⟨o0,by rw[<-e];exact hx,h8⟩
   .refine⟨o',h1,?_⟩
    rintro⟨c,e,f,rfl⟩
    exact h2 trivial
   .rw[hx] at h1;exact absurd ⟨_,_,_,fO h1⟩ h8
  obtain⟨o1,hB1,hB2⟩:=hB
  have e1:(Sem.setObj r o k).runT P A es=k.runT P { A with heap:=A.heap.setIfInBounds r o } (es++#[⟨.obj r,true,o.isChan⟩]):=by
   rw[<-lX];cases o0<;>first|exact absurd ⟨_,_,_,rfl⟩ h8|(simp only[Sem.runT,hx])
  have e2:(Sem.setObj r o k').runT P' B fs=k'.runT P' { B with heap:=B.heap.setIfInBounds r o } (fs++#[⟨.obj r,true,o.isChan⟩]):=by
   rw[<-lX];cases o1<;>first|exact absurd ⟨_,_,_,rfl⟩ hB2|(simp only[Sem.runT,hB1])
  rw[e1] at hr
  refine (ih _ _ _ _ a0 A' h5 (hl.set hS ho) hr h9).imp id λx=>.step (A1:={ A with heap:=A.heap.setIfInBounds r o }) _ 0 (λ_=>e2) rfl rfl rfl rfl (.setObj _ _ _ _ hB1 hB2 _) ae (λx hk=>?_) x
  obtain rfl:x=_:=by simpa using hk
  exact .inr (.inl ⟨r,true,_,rfl,by simpa[<-hl.size] using hg,hS⟩)
 |choose q k k' _ ih=>
  intro A B es fs a0 A' h5 hl hr h9;by_cases hq:q.forced=true
  .have e1:(Sem.choose q k).runT P A es=(k 0).runT P A (es++#[]):=by simp[-Sem.runT_eq,Sem.runT,hq]
   have e2:(Sem.choose q k').runT P' B fs=(k' 0).runT P' B (fs++#[]):=by simp[-Sem.runT_eq,Sem.runT,hq]
   rw[e1] at hr
   exact (ih 0 _ _ _ _ a0 A' h5 hl hr h9).imp id λx=>.step #[] 0 (λ_=>e2) rfl rfl rfl rfl (.refl _ _) (bV _) ae x
  .have e1:(Sem.choose q k).runT P A es=(k (q.cut (A.tape A.drawn q))).runT P { A with drawn:=A.drawn+1 } (es++#[]):=by simp[-Sem.runT_eq,Sem.runT,hq]
   rw[e1] at hr
   refine (ih _ { A with drawn:=A.drawn+1 } { B with drawn:=B.drawn+1 } (es++#[]) (fs++#[]) a0 A' h5 ⟨hl.size,hl.low,hl.same,hl.dead,hl.os,hl.output⟩ hr h9).imp id λx=>.step (A1:={ A with drawn:=A.drawn+1 }) #[] 1 (B1:={ B with drawn:=B.drawn+1 }) (λag=>?_) rfl rfl rfl rfl (.draw _ _) (bV _) ae x
   have:=ag 0 ab;simp only[oI] at this;simp[-Sem.runT_eq,Sem.runT,hq,this]
 |program k k' _ ih=>
  intro A B es fs a0 A' h5 hl hr h9;have x:=ih A B es fs a0 A' h5 hl hr h9
  exact x.imp id λx=>⟨x.drawn,x.tape,x.size,x.alike⟩
 |mark k k' _ ih=>
  intro A B es fs a0 A' h5 hl hr h9
  have e1:(Sem.mark .noRoom k).runT P A es=k.runT P A (es++#[⟨.mark .noRoom,false,true⟩]):=by rw[<-lX];rfl
  have e2:(Sem.mark .noRoom k').runT P' B fs=k'.runT P' B (fs++#[⟨.mark .noRoom,false,true⟩]):=by rw[<-lX];rfl
  rw[e1] at hr
  refine (ih _ _ _ _ a0 A' h5 hl hr h9).imp id λx=>.step _ 0 (λ_=>e2) rfl rfl rfl rfl (.refl _ _) (bV _) (λx hx=>?_) x
  obtain rfl:x=_:=by simpa using hx
  exact .inr (.inr rfl)
theorem Jk{w:World}(h:NP w){p:Program}{a:Addr}{b:Bool}{e:Halt}(he:w.farLoad p a b=.error e):rG e:=by
 unfold World.farLoad World.noCell at he
 repeat' split at he
 all_goals first|cases he|skip
 all_goals first|trivial|exact absurd ‹w.heap[a.block]?=some (Obj.pending _ _)› (h _ _ _)|skip
theorem Jl{w:World}(h:NP w){p:Program}{a:Addr}{v:Value}{b:Bool}{e:Halt}(he:w.farStore p a v b=.error e):rG e:=by
 unfold World.farStore World.noCell at he
 repeat' split at he
 all_goals first|cases he|skip
 all_goals first|trivial|exact absurd ‹w.heap[a.block]?=some (Obj.pending _ _)› (h _ _ _)|skip
theorem Jm{α:Type}{D:α->Prop}{Q:α->α->Prop}{s t:Sem α}(h:RT P P' C D Q s t):∀(A B:World)(es:Array Event)(x:Halt)(A':World)(h5:Array Event),Lk C S A B->s.runT P A es=(.halt x A',h5)->rG x/\ND A':=by
 induction h with
 |pure a b hq=>simp
 |nY a t hd=>simp
 |bad s t hb=>intro A B es x A' h5 hl hr;have:=hb A es hl.np;rw[hr] at this;exact⟨this.1,this.2 hl.nd⟩
 |load a k k' _ ih=>
  intro A B es x A' h5 hl hr
  rcases hx:A.cell? a with _|v
  .obtain⟨e,he⟩:=hl.far P a (Mode.plain == .atomic);simp only[Sem.runT,hx,he,dH,Result.halt.injEq] at hr;exact⟨hr.1.1▸Jk hl.np he,hr.1.2▸hl.nd⟩
  .simp only[Sem.runT,hx] at hr
   grind
 |store a v k k' _ ih=>
  intro A B es x A' h5 hl hr;by_cases hv:(∃cs,v=.agg cs)\/∃cs,v=.tuple cs
  .rcases hv with ⟨cs,rfl⟩|⟨cs,rfl⟩<;>(simp only[Sem.runT,dH,Result.halt.injEq] at hr;exact⟨hr.1.1▸trivial,hr.1.2▸hl.nd⟩)
  rcases hx:A.cell? a with _|u
  .obtain⟨e,he⟩:=hl.BK P a v (Mode.plain == .atomic)
   cases v<;>first|exact absurd (.inl ⟨_,rfl⟩) hv|exact absurd (.inr ⟨_,rfl⟩) hv|(simp only[Sem.runT,hx,he,dH,Result.halt.injEq] at hr;exact⟨hr.1.1▸Jl hl.np he,hr.1.2▸hl.nd⟩)
  .rcases hz:A.frozen? a with _|_
   .have h':k.runT P (A.setCell a v) (es.push ⟨.cell a,true,Mode.plain == .atomic⟩)=(.halt x A',h5):=by
     cases v<;>first|exact absurd (.inl ⟨_,rfl⟩) hv|exact absurd (.inr ⟨_,rfl⟩) hv|(simp only[Sem.runT,hx,hz] at hr;exact hr)
    exact ih _ _ _ x A' h5 (hl.setCell hx v) h'
   .cases v<;>first|exact absurd (.inl ⟨_,rfl⟩) hv|exact absurd (.inr ⟨_,rfl⟩) hv|(simp only[Sem.runT,hx,hz,cD,dH,Result.halt.injEq] at hr;exact⟨hr.1.1▸trivial,hr.1.2▸hl.nd⟩)
 |new o k k' ho _ ih=>intro A B es x A' h5 hl hr;exact ih _ _ _ _ x A' h5 (hl.push ho) hr
 |o7 o s t k k' ho hs ht _ ih=>intro A B es x A' h5 hl hr;rw[hs] at hr;exact ih _ _ _ _ x A' h5 (hl.push ho) hr
 |shape r k k' _ _ ih1 ih2=>intro A B es x A' h5 hl hr;exact ih1 _ A B _ x A' h5 hl hr
 |frozen a k k' _ ih=>intro A B es x A' h5 hl hr;exact ih _ A B _ x A' h5 hl hr
 |getObj r k k' _ _ ih1 ih2=>
  intro A B es x A' h5 hl hr
  rcases hx:A.heap[r]? with _|o
  .simp only[Sem.runT,hx,dH,Result.halt.injEq] at hr;exact⟨hr.1.1▸trivial,hr.1.2▸hl.nd⟩
  by_cases h8:∃c e f,o=.cells c e f
  .obtain⟨c,e,f,rfl⟩:=h8;simp only[Sem.runT,hx,dH,Result.halt.injEq] at hr;exact⟨hr.1.1▸trivial,hr.1.2▸hl.nd⟩
  have h':(k o).runT P A (es.push ⟨.obj r,false,o.isChan⟩)=(.halt x A',h5):=by
   cases o<;>first|exact absurd ⟨_,_,_,rfl⟩ h8|(simp only[Sem.runT,hx] at hr;exact hr)
  have hS:¬S.dead r:=λhS=>by obtain⟨c,e,fr,h1,_⟩:=hl.dead r hS;rw[hx] at h1;exact h8 ⟨_,_,_,fO h1⟩
  rcases hl.same r hS with ⟨_,ho⟩|⟨o',h1,h2,h3,_⟩|⟨_,_,_,_,h1,_⟩
  .exact ih1 o (ho o hx) A B _ x A' h5 hl h'
  .rw[hx] at h3;obtain rfl:=fO h3;exact ih2 o' h2 A B _ x A' h5 hl h'
  grind
 |setObj r o k k' ho _ ih=>
  intro A B es x A' h5 hl hr
  rcases hx:A.heap[r]? with _|o0
  .simp only[Sem.runT,hx,dH,Result.halt.injEq] at hr;exact⟨hr.1.1▸trivial,hr.1.2▸hl.nd⟩
  by_cases h8:∃c e f,o0=.cells c e f
  .obtain⟨c,e,f,rfl⟩:=h8;simp only[Sem.runT,hx,dH,Result.halt.injEq] at hr;exact⟨hr.1.1▸trivial,hr.1.2▸hl.nd⟩
  have h':k.runT P { A with heap:=A.heap.setIfInBounds r o } (es.push ⟨.obj r,true,o.isChan⟩)=(.halt x A',h5):=by
   cases o0<;>first|exact absurd ⟨_,_,_,rfl⟩ h8|(simp only[Sem.runT,hx] at hr;exact hr)
  have hS:¬S.dead r:=λhS=>by obtain⟨c,e,fr,h1,_⟩:=hl.dead r hS;rw[hx] at h1;simp_all
  exact ih _ { B with heap:=B.heap.setIfInBounds r o } _ x A' h5 (hl.set hS ho) h'
 |choose q k k' _ ih=>
  intro A B es x A' h5 hl hr;by_cases hq:q.forced=true
  .simp only[Sem.runT,hq,cD] at hr
   grind
  .simp only[Sem.runT,hq,cP] at hr;exact ih _ { A with drawn:=A.drawn+1 } B _ x A' h5 ⟨hl.size,hl.low,hl.same,hl.dead,hl.os,hl.output⟩ hr
 |program k k' _ ih=>trivial
 |mark k k' _ ih=>intro A B es x A' h5 hl hr;exact ih A B _ x A' h5 hl hr
theorem xo{α:Type}{D:α->Prop}{Q:α->α->Prop}{s t:Sem α}(h:RT P P' C D Q s t):∀(A B:World)(es:Array Event)(a0:α)(A':World)(h5:Array Event),Lk C S A B->s.runT P A es=(.ok a0 A',h5)->(D a0\/∃b,Q a0 b)/\∀e∈h5,e∈es\/∀g,e.loc≠.mark (.extern g):=by
 have pu:∀{es h5:Array Event}{x:Event},(∀g,x.loc≠.mark (.extern g))->(∀e∈h5,e∈es.push x\/∀g,e.loc≠.mark (.extern g))->∀e∈h5,e∈es\/∀g,e.loc≠.mark (.extern g):=λhx h e he=>by
  grind
 induction h with
 |pure a b hq=>intro A B es a0 A' h5 hl hr;simp only[Sem.runT,dH,Result.ok.injEq] at hr;grind
 |nY a t hd=>intro A B es a0 A' h5 hl hr;simp_all
 |bad s t hb=>intro A B es a0 A' h5 hl hr;have:=hb A es hl.np;rw[hr] at this;trivial
 |load a k k' _ ih=>
  intro A B es a0 A' h5 hl hr
  rcases hx:A.cell? a with _|v
  .obtain⟨e,he⟩:=hl.far P a (Mode.plain == .atomic);simp[-Sem.runT_eq,Sem.runT,hx,he] at hr
  .simp only[Sem.runT,hx] at hr;exact (ih v A B _ a0 A' h5 hl hr).imp id (pu ae)
 |store a v k k' _ ih=>
  intro A B es a0 A' h5 hl hr;by_cases hv:(∃cs,v=.agg cs)\/∃cs,v=.tuple cs
  .rcases hv with ⟨cs,rfl⟩|⟨cs,rfl⟩<;>(simp[-Sem.runT_eq,Sem.runT] at hr)
  rcases hx:A.cell? a with _|u
  .obtain⟨e,he⟩:=hl.BK P a v (Mode.plain == .atomic)
   cases v<;>first|exact absurd (.inl ⟨_,rfl⟩) hv|exact absurd (.inr ⟨_,rfl⟩) hv|(simp[-Sem.runT_eq,Sem.runT,hx,he] at hr)
  .rcases hz:A.frozen? a with _|_
   .have h':k.runT P (A.setCell a v) (es.push ⟨.cell a,true,Mode.plain == .atomic⟩)=(.ok a0 A',h5):=by
     cases v<;>first|exact absurd (.inl ⟨_,rfl⟩) hv|exact absurd (.inr ⟨_,rfl⟩) hv|(simp only[Sem.runT,hx,hz] at hr;exact hr)
    exact (ih _ _ _ a0 A' h5 (hl.setCell hx v) h').imp id (pu ae)
   .cases v<;>first|exact absurd (.inl ⟨_,rfl⟩) hv|exact absurd (.inr ⟨_,rfl⟩) hv|(simp[-Sem.runT_eq,Sem.runT,hx,hz] at hr)
 |new o k k' ho _ ih=>intro A B es a0 A' h5 hl hr;exact ih _ _ _ _ a0 A' h5 (hl.push ho) hr
 |o7 o s t k k' ho hs ht _ ih=>intro A B es a0 A' h5 hl hr;rw[hs] at hr;exact ih _ _ _ _ a0 A' h5 (hl.push ho) hr
 |shape r k k' _ _ ih1 ih2=>intro A B es a0 A' h5 hl hr;exact ih1 _ A B _ a0 A' h5 hl hr
 |frozen a k k' _ ih=>intro A B es a0 A' h5 hl hr;exact ih _ A B _ a0 A' h5 hl hr
 |getObj r k k' _ _ ih1 ih2=>
  intro A B es a0 A' h5 hl hr
  rcases hx:A.heap[r]? with _|o
  .simp[-Sem.runT_eq,Sem.runT,hx] at hr
  by_cases h8:∃c e f,o=.cells c e f
  .obtain⟨c,e,f,rfl⟩:=h8;simp[-Sem.runT_eq,Sem.runT,hx] at hr
  have h':(k o).runT P A (es.push ⟨.obj r,false,o.isChan⟩)=(.ok a0 A',h5):=by
   cases o<;>first|exact absurd ⟨_,_,_,rfl⟩ h8|(simp only[Sem.runT,hx] at hr;exact hr)
  have hS:¬S.dead r:=λhS=>by obtain⟨c,e,fr,h1,_⟩:=hl.dead r hS;rw[hx] at h1;exact h8 ⟨_,_,_,fO h1⟩
  rcases hl.same r hS with ⟨_,ho⟩|⟨o',h1,h2,h3,_⟩|⟨_,_,_,_,h1,_⟩
  .exact (ih1 o (ho o hx) A B _ a0 A' h5 hl h').imp id (pu ae)
  .rw[hx] at h3;obtain rfl:=fO h3;exact (ih2 o' h2 A B _ a0 A' h5 hl h').imp id (pu ae)
  grind
 |setObj r o k k' ho _ ih=>
  intro A B es a0 A' h5 hl hr
  rcases hx:A.heap[r]? with _|o0
  .simp[-Sem.runT_eq,Sem.runT,hx] at hr
  by_cases h8:∃c e f,o0=.cells c e f
  .obtain⟨c,e,f,rfl⟩:=h8;simp[-Sem.runT_eq,Sem.runT,hx] at hr
  have h':k.runT P { A with heap:=A.heap.setIfInBounds r o } (es.push ⟨.obj r,true,o.isChan⟩)=(.ok a0 A',h5):=by
   cases o0<;>first|exact absurd ⟨_,_,_,rfl⟩ h8|(simp only[Sem.runT,hx] at hr;exact hr)
  have hS:¬S.dead r:=λhS=>by obtain⟨c,e,fr,h1,_⟩:=hl.dead r hS;rw[hx] at h1;simp_all
  exact (ih _ { B with heap:=B.heap.setIfInBounds r o } _ a0 A' h5 (hl.set hS ho) h').imp id (pu ae)
 |choose q k k' _ ih=>
  intro A B es a0 A' h5 hl hr;by_cases hq:q.forced=true
  .simp only[Sem.runT,hq,cD] at hr;exact ih 0 A B _ a0 A' h5 hl hr
  .simp only[Sem.runT,hq,cP] at hr;exact ih _ { A with drawn:=A.drawn+1 } B _ a0 A' h5 ⟨hl.size,hl.low,hl.same,hl.dead,hl.os,hl.output⟩ hr
 |program k k' _ ih=>trivial
 |mark k k' _ ih=>intro A B es a0 A' h5 hl hr;exact (ih A B _ a0 A' h5 hl hr).imp id (pu ae)
end
structure Kin(P P':Program):Prop where
 eq:∃fs,P' = { P with funcs:=fs }
section
variable{P P':Program}{C:Cx}
theorem Kin.info(h:Kin P P')(t:TypeId):P'.info? t=P.info? t:=by obtain⟨fs,rfl⟩:=h.eq;rfl
theorem Kin.underlying(h:Kin P P')(t:TypeId):P'.underlying t=P.underlying t:=by obtain⟨fs,rfl⟩:=h.eq;rfl
theorem Kin.rt(h:Kin P P'):P'.rt=P.rt:=by obtain⟨fs,rfl⟩:=h.eq;rfl
theorem Kin.globals(h:Kin P P'):P'.globals=P.globals:=by obtain⟨fs,rfl⟩:=h.eq;rfl
theorem Kin.depth(h:Kin P P'):P'.depth=P.depth:=by obtain⟨fs,rfl⟩:=h.eq;rfl
abbrev RE(P P':Program)(C:Cx){α:Type}(s t:Sem α):Prop:=RT P P' C (λ_=>False) Eq s t
theorem bY{α:Type}(a:α):RE P P' C (pure a) (pure a):=.pure a a rfl
theorem b7{α β:Type}{s t:Sem α}{f g:α->Sem β}{D:β->Prop}{Q:β->β->Prop}(h:RE P P' C s t)(hf:∀a,RT P P' C D Q (f a) (g a)):RT P P' C D Q (s >>= f) (t >>= g):=
 RT.bind h λa b e=>by simp_all
theorem j4{α β:Type}{s t:Sem α}{f g:α->Sem β}{M:α->α->Prop}{D:β->Prop}{Q:β->β->Prop}(h:RT P P' C (λ_=>False) M s t)(hf:∀a b,M a b->RT P P' C D Q (f a) (g b)):RT P P' C D Q (s >>= f) (t >>= g):=
 RT.bind h hf
theorem ED{α β:Type}{s t:Sem α}(h:RE P P' C s t)(f:α->β):RE P P' C (f <$> s) (f <$> t):=RT.bind h λa b e=>by subst e;exact .pure _ _ rfl
theorem cz{α:Type}(m:String)(t:Sem α){D:α->Prop}{Q:α->α->Prop}:RT P P' C D Q (stuck m) t:=.halt (h:=.stuck m) trivial _
theorem dO{α:Type}(u:Unsupported)(t:Sem α){D:α->Prop}{Q:α->α->Prop}(hu:rG (.unsupported u):=by trivial):RT P P' C D Q (unsupported u) t:=.halt hu _
theorem oS{α:Type}(v:Value)(t:Sem α){D:α->Prop}{Q:α->α->Prop}:RT P P' C D Q (goPanic v) t:=.halt (h:=.panic v) trivial _
theorem iY{β:Type}{f g:Program->Sem β}{D:β->Prop}{Q:β->β->Prop}(h:RT P P' C D Q (f P) (g P')):RT P P' C D Q (program >>= f) (program >>= g):=RT.program _ _ h
theorem EE(a:Addr):RE P P' C (load a) (load a):=.load a _ _ λv=>.pure v v rfl
theorem KT(a:Addr)(v:Value):RE P P' C (store a v) (store a v):=.store a v _ _ (.pure _ _ rfl)
theorem rl{o:Obj}(h:okO C o):RE P P' C (newObj o) (newObj o):=.new o _ _ h λr=>.pure r r rfl
theorem j5(q:Question):RE P P' C (choose q) (choose q):=.choose q _ _ λn=>.pure n n rfl
theorem oT(r:Nat){o:Obj}(h:okO C o):RE P P' C (setObj r o) (setObj r o):=.setObj r o _ _ h (.pure _ _ rfl)
theorem Aq(n:Nat):RE P P' C (askRoom n) (askRoom n):=by
 unfold askRoom;split
 .exact .mark _ _ (.pure _ _ rfl)
 .exact bY _
variable(h:Kin P P')
include h
theorem m9(t:TypeId):RE P P' C (typeInfo t) (typeInfo t):=by
 refine iY ?_;rw[h.info]
 cases P.info? t with
 |none=>exact cz _ _
 |some i=>exact bY _
theorem fC(t:TypeId):RE P P' C (Go.underlying t) (Go.underlying t):=by
 refine iY ?_;rw[h.underlying]
 cases P.underlying t with
 |none=>exact cz _ _
 |some i=>exact bY _
theorem gT(t:TypeId):RE P P' C (Go.sizeOf t) (Go.sizeOf t):=b7 (m9 h t) λi=>bY _
theorem oU(t:TypeId):RE P P' C (zeroValue t) (zeroValue t):=by
 refine b7 (m9 h t) λi=>?_
 cases i.zero with
 |none=>exact dO _ _
 |some v=>exact bY _
theorem EG(t:TypeId):RE P P' C (isAgg t) (isAgg t):=by
 refine b7 (fC h t) λd=>?_
 cases d<;>exact bY _
omit h in
theorem EH(a:Addr):∀(n i:Nat)(acc:Array Value),RE P P' C (loadCellsFrom a i n acc) (loadCellsFrom a i n acc)
 |0,_,acc=>bY acc
 |n+1,i,acc=>b7 (EE _) λv=>EH a n (i+1) (acc.push v)
omit h in
theorem EI(a:Addr)(n:Nat):RE P P' C (loadCells a n) (loadCells a n):=EH a n 0 #[]
omit h in
theorem qg(a:Addr):∀(vs:List Value)(i:Nat),RE P P' C (storeCells a vs i) (storeCells a vs i)
 |[],_=>bY ()
 |v::r,i=>b7 (KT _ v) λ_=>qg a r (i+1)
theorem wy(t:TypeId)(a:Addr):RE P P' C (loadVar t a) (loadVar t a):=by
 refine b7 (EG h t) λb=>?_
 cases b
 .exact EE a
 .exact b7 (gT h t) λn=>b7 (EI a n) λcs=>bY _
theorem KU(t:TypeId)(a:Addr)(v:Value):RE P P' C (storeVar t a v) (storeVar t a v):=by
 refine b7 (gT h t) λn=>?_
 split
 .exact b7 (cz _ _) λ_=>qg a _ 0
 .exact qg a _ 0
omit h in
theorem tD(e:TypeId)(cs:Array Value):RE P P' C (newRow e cs) (newRow e cs):=b7 (rl (o:=.cells cs e) trivial) λr=>bY _
omit h in
theorem wz(e:TypeId)(v:Value):RE P P' C (newVar e v) (newVar e v):=tD e _
theorem EJ(t:TypeId):RE P P' C (elemOf t) (elemOf t):=by
 refine b7 (fC h t) λd=>?_
 cases d<;>first|exact bY _|exact cz _ _
theorem nT(t:TypeId)(cs:Array Value)(off:Nat):RE P P' C (part t cs off) (part t cs off):=by
 refine b7 (EG h t) λb=>?_
 cases b
 .simp only[dC,cP]
  cases cs[off]? with
  |none=>exact cz _ _
  |some v=>exact bY _
 .exact b7 (gT h t) λn=>bY _
theorem gU{α:Type}{D:α->Prop}{Q:α->α->Prop}(e:RuntimeError):RT P P' C D Q (runtimePanic e:Sem α) (runtimePanic e):=by
 refine iY ?_;rw[h.rt]
 cases e with
 |bounds x y s c=>exact oS _ _
 |error m=>exact oS _ _
 |plain m=>exact oS _ _
 |nilDeref=>exact oS _ _
 |unhashable t=>exact oS _ _
 |typeAssertion i c a m=>
  refine b7 (EJ h _) λt=>?_
  refine b7 ?_ λr=>oS _ _
  have e2:∀t:TypeId,typeHandle P' t=typeHandle P t:=λt=>by unfold typeHandle;rw[h.globals]
  simp only[e2];exact wz _ _
 |panicNil=>exact b7 (EJ h _) λt=>b7 (wz _ _) λr=>oS _ _
theorem Ar{α:Type}(k:IntKind)(x y:Int)(code:BoundsCode):RE P P' C (boundsPanic k x y code:Sem α) (boundsPanic k x y code):=by
 unfold boundsPanic;split
 .exact b7 (ED (j5 _) _) λs=>gU h _
 .exact b7 (bY _) λs=>gU h _
omit h in
theorem wA(v:Value):RE P P' C (asIntOf v) (asIntOf v):=by
 unfold asIntOf;split
 .exact bY _
 .exact dO _ _
 .exact cz _ _
omit h in
theorem tF(v:Value):RE P P' C (asInt v) (asInt v):=b7 (wA v) λx=>bY _
omit h in
theorem wB(v:Value):RE P P' C (asBool v) (asBool v):=by
 unfold asBool;split
 .exact bY _
 .exact cz _ _
omit h in
theorem KW(v:Value):RE P P' C (asAgg v) (asAgg v):=by
 unfold asAgg;split
 .exact bY _
 .exact cz _ _
theorem wC(v:Value):RE P P' C (asAddr v) (asAddr v):=by
 unfold asAddr;split
 .exact bY _
 .exact gU h _
 .exact cz _ _
end
section
variable{P P':Program}{C:Cx}
theorem tG{α:Type}{f g:Option (TypeId×Nat)->Sem α}{D:α->Prop}{Q:α->α->Prop}(r:Nat)(h1:∀x,RT P P' C D Q (f x) (g x))(h2:∀e n,RT P P' C D Q (f (some (e,0))) (g (some (e,n)))):RT P P' C D Q (shape r >>= f) (shape r >>= g):=.shape r _ _ h1 h2
theorem nW{α:Type}{f g:Obj->Sem α}{D:α->Prop}{Q:α->α->Prop}(r:Nat)(h1:∀o,okO C o->RT P P' C D Q (f o) (g o))(h2:∀o,¬okO C o->RT P P' C D Q (f (jM r o)) (g o)):RT P P' C D Q (getObj r >>= f) (getObj r >>= g):=.getObj r _ _ h1 h2
theorem EK(op:BinOp)(k:FloatKind)(x y:Nat):RE P P' C (Op.floatArith op k x y) (Op.floatArith op k x y):=by
 unfold Op.floatArith
 cases op<;>first|exact b7 (cz _ _) (λr=>by cases r<;>first|exact bY _|exact b7 (j5 _) λn=>bY _)|exact b7 (bY _) (λr=>by cases r<;>first|exact bY _|exact b7 (j5 _) λn=>bY _)
theorem EL(op:BinOp)(k:FloatKind)(x y:Nat):RE P P' C (Op.floatCmp op k x y) (Op.floatCmp op k x y):=by
 unfold Op.floatCmp
 cases op<;>first|exact bY _|exact cz _ _
theorem As(op:BinOp)(x y:ByteArray):RE P P' C (Op.stringOp op x y) (Op.stringOp op x y):=by
 unfold Op.stringOp
 cases op<;>first|exact bY _|exact cz _ _|(dsimp only;split<;>first|exact bY _|exact dO _ _)
theorem EM(op:BinOp)(k:IntKind)(x y:Int):RE P P' C (Op.intArith op k x y) (Op.intArith op k x y):=by
 unfold Op.intArith
 cases op<;>first|exact bY _|exact cz _ _
theorem EN(op:BinOp)(k:IntKind)(x y:Int):RE P P' C (Op.intBits op k x y) (Op.intBits op k x y):=by
 unfold Op.intBits
 cases op<;>first|exact bY _|exact cz _ _
theorem KX(op:BinOp)(x y:Int):RE P P' C (Op.intCmp op x y) (Op.intCmp op x y):=by
 unfold Op.intCmp
 cases op<;>first|exact bY _|exact cz _ _
theorem EP(op:BinOp)(k:FloatKind)(x y:Nat):RE P P' C (Op.Complex.arith op k x y) (Op.Complex.arith op k x y):=
 b7 (EK op k x y) λv=>by cases v<;>first|exact bY _|exact cz _ _
theorem ER(op:BinOp)(k:FloatKind)(x y:Nat):RE P P' C (Op.Complex.cmp op k x y) (Op.Complex.cmp op k x y):=
 b7 (EL op k x y) λv=>wB v
theorem KY(src:FloatKind)(x:Nat)(dst:FloatKind):RE P P' C (Conv.floatToFloat src x dst) (Conv.floatToFloat src x dst):=by
 unfold Conv.floatToFloat
 repeat' first|exact bY _|exact cz _ _|exact dO _ _|exact j5 _|refine b7 ?_ λ_=>?_|split|dsimp only
theorem KZ(src:FloatKind)(x:Nat)(dst:FloatKind):RE P P' C (Op.Complex.conv src x dst) (Op.Complex.conv src x dst):=by
 unfold Op.Complex.conv;split
 .exact bY _
 .exact b7 (KY _ _ _) λv=>by cases v<;>first|exact bY _|exact cz _ _
theorem K0(a b c d:Nat):RE P P' C (Op.Complex.quotient a b c d) (Op.Complex.quotient a b c d):=by
 unfold Op.Complex.quotient Op.Complex.corrected
 repeat' first|exact bY _|exact EP _ _ _ _|exact ER _ _ _ _|refine b7 ?_ λ_=>?_|split|dsimp only
theorem K1(op:BinOp)(k:FloatKind)(a b c d:Nat):RE P P' C (Op.complexOp op k a b c d) (Op.complexOp op k a b c d):=by
 unfold Op.complexOp Op.Complex.product
 cases op<;>repeat' first|exact bY _|exact cz _ _|exact EP _ _ _ _|exact ER _ _ _ _|exact KZ _ _ _|exact K0 _ _ _ _|refine b7 ?_ λ_=>?_|split|dsimp only
theorem K3(op:UnOp)(x:Value):RE P P' C (Op.unary op x) (Op.unary op x):=by
 unfold Op.unary
 split<;>first|exact EM _ _ _ _|exact EN _ _ _ _|exact bY _|exact dO _ _|exact cz _ _
theorem ES(r:Nat):RT P P' C (λ_=>False) (λa b=>a.isSome=b.isSome) (viewAt r) (viewAt r):=by
 refine tG r (λx=>?_) (λe n=>?_)
 .cases x with
  |some x=>exact .pure _ _ rfl
  |none=>
   refine nW r (λo ho=>?_) (λo ho=>?_)
   .cases o<;>exact .pure _ _ rfl
   .cases o<;>first|exact .pure _ _ rfl|exact absurd trivial ho
 .exact .pure _ _ rfl
theorem K4(a:Addr):RE P P' C (noView a) (noView a):=by
 refine j4 (ES a.block) λx y e=>?_
 rw[e];split
 .exact dO _ _
 .exact bY _
theorem ET(r:Nat):RE P P' C (numberAt r) (numberAt r):=by
 refine tG r (λx=>?_) (λe n=>?_)
 .cases x with
  |some x=>exact bY _
  |none=>
   refine nW r (λo ho=>?_) (λo ho=>?_)
   .cases o<;>exact bY _
   .cases o<;>first|exact bY _|exact absurd trivial ho
 .exact bY _
theorem At(n:Addr):RE P P' C (behindNumber n) (behindNumber n):=b7 (ET _) λx=>bY _
theorem K5(a:Addr)(l:Bool):RE P P' C (asNumber a l) (asNumber a l):=b7 (rl (o:=.number a l) trivial) λx=>bY _
variable(h:Kin P P')
include h
theorem K6(op:BinOp)(k:IntKind)(x y:Int):RE P P' C (Op.intDiv op k x y) (Op.intDiv op k x y):=by
 unfold Op.intDiv;split
 .exact gU h _
 .cases op<;>first|exact bY _|exact cz _ _
theorem K8(op:BinOp)(k:IntKind)(x:Int)(k':IntKind)(y:Int):RE P P' C (Op.shift op k x k' y) (Op.shift op k x k' y):=by
 unfold Op.shift;split
 .exact gU h _
 .cases op<;>first|exact bY _|exact cz _ _
theorem Ax(t:TypeId):P'.cellsOf t=P.cellsOf t:=by obtain⟨fs,rfl⟩:=h.eq;rfl
theorem EU(t:TypeId):P'.bytesOf t=P.bytesOf t:=by obtain⟨fs,rfl⟩:=h.eq;rfl
theorem EW(d:Nat)(t:TypeId)(k:Nat):byteOfCell P' d t k=byteOfCell P d t k:=by
 obtain⟨fs,rfl⟩:=h.eq
 induction d generalizing t k with
 |zero=>rfl
 |succ d ih=>simp only[byteOfCell,ih];rfl
theorem j6(a:Addr):RE P P' C (byteOf a) (byteOf a):=by
 unfold byteOf;split
 .exact bY _
 .refine iY ?_
  refine b7 (K4 a) λ_=>?_
  have key:∀(e:TypeId)(n m:Nat),RE P P' C (have s:=P.cellsOf e;if s=0 then (pure 0:Sem Nat) else match byteOfCell P P.depth e (a.off%s) with|some b=>pure (a.off / s*P.bytesOf e+b)|_=>stuck "byteOf: no such cell")
   (have s:=P'.cellsOf e;if s=0 then (pure 0:Sem Nat) else match byteOfCell P' P'.depth e (a.off%s) with|some b=>pure (a.off / s*P'.bytesOf e+b)|_=>stuck "byteOf: no such cell"):=λe n m=>by
   simp only[Ax h,EU h,EW h,h.depth];split
   .exact bY _
   .split
    .exact bY _
    .exact cz _ _
  refine tG _ (λx=>?_) (λe n=>?_)
  .cases x with
   |none=>exact cz _ _
   |some x=>exact key x.1 0 0
  .exact key e 0 0
end
section
variable{P P':Program}{C:Cx}(h:Kin P P')
include h
theorem K9(d:Nat)(t:TypeId)(k:Nat):cellOfByte P' d t k=cellOfByte P d t k:=by
 obtain⟨fs,rfl⟩:=h.eq
 induction d generalizing t k with
 |zero=>rfl
 |succ d ih=>simp only[cellOfByte,ih];rfl
theorem La(d:Nat)(t:TypeId)(n k:Nat)(by_:Int):cellAtBytes P' d t n k by_=cellAtBytes P d t n k by_:=by
 unfold cellAtBytes;simp only[Ax h,EU h,EW h,K9 h]
omit h in
theorem Lb(d:Nat)(t:TypeId)(k:Nat)(by_:Int):cellAtBytes P d t 0 k by_=none:=by
 unfold cellAtBytes;simp only[bind,Option.bind]
 grind
theorem Lc(a:Addr)(c b:Nat):RE P P' C (partAt a c b) (partAt a c b):=by
 unfold partAt
 exact b7 (j6 h a) λx=>b7 (j6 h _) λy=>bY _
theorem EY(a:Addr)(f:Field):RE P P' C (fieldPlace a f) (fieldPlace a f):=by
 unfold fieldPlace
 refine b7 (gT h _) λn=>?_
 split
 .exact Lc h _ _ _
 .exact bY _
theorem wD(ts:Array TypeId)(t:TypeId)(x len:Value):RE P P' C (Builtin.unsafeAdd_ ts t #[x,len]) (Builtin.unsafeAdd_ ts t #[x,len]):=by
 have key:∀(ptr:Option Addr)(n:Int),RE P P' C (do
  let some a:=ptr|unsupported (.unsafePointer "Add")
  let some (e,cells) <-shape a.block|unsupported (.unsafePointer "Add")
  let p <-program
  match cellAtBytes p p.depth e (cells / p.cellsOf e) a.off n with
  |some off=>pure (Value.pointer (some { a with off }))
  |none=>unsupported (.unsafePointer "Add")) (do
  let some a:=ptr|unsupported (.unsafePointer "Add")
  let some (e,cells) <-shape a.block|unsupported (.unsafePointer "Add")
  let p <-program
  match cellAtBytes p p.depth e (cells / p.cellsOf e) a.off n with
  |some off=>pure (Value.pointer (some { a with off }))
  |none=>unsupported (.unsafePointer "Add")):=λptr n=>by
  cases ptr with
  |none=>exact dO _ _
  |some a=>
   refine tG _ (λx=>?_) (λe m=>?_)
   .cases x with
    |none=>exact dO _ _
    |some x=>
     refine iY ?_;simp only[Ax h,La h,h.depth];split
     .exact bY _
     .exact dO _ _
   .refine iY ?_;simp only[Nat.zero_div,Lb];exact dO _ _
 cases x with
 |pointer ptr=>
  show RE P P' C (asInt len >>= _) (asInt len >>= _)
  refine b7 (tF _) λn=>?_
  dsimp only;split
  .cases ptr with
   |none=>exact dO _ _
   |some a=>
    refine j4 (ES a.block) λx y e=>?_
    rw[e];split
    .exact b7 (dO _ _) λ_=>bY _
    .exact bY _
  .split
   .exact b7 (dO _ _) λ_=>key ptr n
   .exact key ptr n
 |_=>exact cz _ _
theorem Ld(k:IntKind)(a b:Addr):RE P P' C (Op.addrSub k a b) (Op.addrSub k a b):=by
 unfold Op.addrSub Op.twoPlaces
 refine b7 (iY ?_) λx=>bY _
 rw[h.globals];split
 .exact b7 (dO _ _) λ_=>b7 (j6 h a) λx=>b7 (j6 h b) λy=>bY _
 .exact b7 (j6 h a) λx=>b7 (j6 h b) λy=>bY _
theorem Le(op:BinOp)(a b:Addr):RE P P' C (Op.addrCmp op a b) (Op.addrCmp op a b):=by
 unfold Op.addrCmp Op.twoPlaces
 refine b7 (iY ?_) λx=>?_
 .rw[h.globals];split
  .exact b7 (dO _ _) λ_=>b7 (j6 h a) λx=>b7 (j6 h b) λy=>bY _
  .exact b7 (j6 h a) λx=>b7 (j6 h b) λy=>bY _
 .cases op<;>first|exact bY _|exact dO _ _
theorem Lf(k:IntKind)(a:Addr)(n:Int):RE P P' C (Op.addrMod k a n) (Op.addrMod k a n):=by
 have key:∀e:TypeId,RE P P' C (do
  let align:=(<-typeInfo e).align
  if n<1 || n.toNat>align || align%n.toNat != 0 then unsupported .addressObserved
  pure (Value.int k ((<-byteOf a)%n.toNat:Nat))) (do
  let align:=(<-typeInfo e).align
  if n<1 || n.toNat>align || align%n.toNat != 0 then unsupported .addressObserved
  pure (Value.int k ((<-byteOf a)%n.toNat:Nat))):=λe=>by
  refine b7 (m9 h e) λi=>?_
  dsimp only;split
  .exact b7 (dO _ _) λ_=>b7 (j6 h a) λx=>bY _
  .exact b7 (j6 h a) λx=>bY _
 unfold Op.addrMod;refine tG _ (λx=>?_) (λe m=>?_)
 .cases x with
  |none=>exact dO _ _
  |some x=>exact key x.1
 grind
theorem EZ(t:TypeId)(x y:Value):RE P P' C (movedNumber t x y) (movedNumber t x y):=by
 unfold movedNumber
 refine b7 (fC h t) λd=>?_
 dsimp only
 repeat' first|exact dO _ _|exact wD h _ _ _ _|exact K5 _ _|exact At _|exact bY _|refine b7 ?_ λ_=>?_|split|dsimp only
theorem Lg(t:TypeId)(x y:Value):RE P P' C (movedPointer t x y) (movedPointer t x y):=by
 unfold movedPointer;split
 .refine b7 (ET _) λz=>?_
  split
  .exact b7 (dO _ _) λ_=>wD h _ _ _ _
  .exact wD h _ _ _ _
 .exact wD h _ _ _ _
end
def g7(P:Program):Nat->TypeId->Bool
 |0,_=>false
 |d+1,t=>match P.underlying t with
  |some (.int _)|some .string|some .bool|some (.slice _)=>true
  |some (.array _ e)=>g7 P d e
  |_=>false
section
variable{P P':Program}{C:Cx}
theorem E4{β γ:Type}(f g:γ->β->Sem (ForInStep β))(hf:∀a b,RE P P' C (f a b) (g a b)):∀(l:List γ)(b:β),RE P P' C (forIn l b f) (forIn l b g)
 |[],b=>by simp only[List.forIn_nil];exact bY _
 |a::l,b=>by
  simp only[List.forIn_cons]
  refine b7 (hf a b) λr=>?_
  cases r with
  |done b=>exact bY _
  |yield b=>exact E4 f g hf l b
theorem Ay{β:Type}(f g:Nat->β->Sem (ForInStep β))(hf:∀a b,RE P P' C (f a b) (g a b))(r:Std.Legacy.Range)(b:β):RE P P' C (forIn r b f) (forIn r b g):=by
 simp only[Std.Legacy.Range.forIn_eq_forIn_range'];exact E4 f g hf _ b
variable(h:Kin P P')
include h
theorem j7{α:Type}{f g:TypeDesc->Sem α}{D:α->Prop}{Q:α->α->Prop}{t:TypeId}{td:TypeDesc}(e:P.underlying t=some td)(hf:RT P P' C D Q (f td) (g td)):RT P P' C D Q (Go.underlying t >>= f) (Go.underlying t >>= g):=by
 refine j4 (M:=λa b=>a=td/\b=td) ?_ (λa b hh=>by rw[hh.1,hh.2];exact hf);refine iY ?_;rw[h.underlying,e];exact .pure _ _ ⟨rfl,rfl⟩
theorem Az(d:Nat):∀(t:TypeId),g7 P d t=true->∀(n:Nat)(x y:Value),RE P P' C (Op.equalIn n t x y) (Op.equalIn n t x y):=by
 induction d with
 |zero=>intro t ht;cases ht
 |succ d ih=>
  intro t ht n x y
  cases n with
  |zero=>exact dO _ _
  |succ n=>
   unfold g7 at ht;unfold Op.equalIn
   rcases hu:P.underlying t with _|td
   .rw[hu] at ht;cases ht
   rw[hu] at ht;refine j7 h hu ?_
   cases td with
   |int k=>
    dsimp only
    repeat' first|contradiction|exact bY _|exact cz _ _|exact dO _ _|exact At _|exact j6 h _|exact m9 h _|(refine iY ?_;rw[h.globals])|refine b7 ?_ λ_=>?_|split|dsimp only
   |string=>
    dsimp only
    repeat' first|contradiction|exact bY _|exact cz _ _|split
   |bool=>
    dsimp only
    repeat' first|contradiction|exact bY _|exact cz _ _|split
   |slice e=>
    dsimp only
    repeat' first|contradiction|exact bY _|exact cz _ _|split
   |array len e=>
    have hx:=ih e ht n
    cases x<;>first|exact cz _ _|skip
    cases y<;>first|exact cz _ _|skip
    dsimp only
    refine b7 (gT h _) λz=>?_
    refine b7 (Ay _ _ (λ_ _=>?_) _ _) λ_=>?_
    .repeat' first|exact bY _|exact hx _ _|exact nT h _ _ _|refine b7 ?_ λ_=>?_|split|dsimp only
    .repeat' first|exact bY _|split|dsimp only
   |_=>cases ht
theorem E5(d:Nat):∀(t:TypeId),g7 P d t=true->∀(n:Nat)(x y:Value),RE P P' C (Op.eqGuardIn n t x y) (Op.eqGuardIn n t x y):=by
 induction d with
 |zero=>intro t ht;cases ht
 |succ d ih=>
  intro t ht n x y
  cases n with
  |zero=>exact dO _ _
  |succ n=>
   unfold g7 at ht;unfold Op.eqGuardIn
   rcases hu:P.underlying t with _|td
   .rw[hu] at ht;cases ht
   rw[hu] at ht;refine j7 h hu ?_
   cases td with
   |int k=>exact bY _
   |string=>exact bY _
   |bool=>exact bY _
   |slice e=>exact bY _
   |array len e=>
    have hx:=ih e ht n
    cases x<;>first|exact bY _|skip
    cases y<;>first|exact bY _|skip
    dsimp only
    refine b7 (gT h _) λz=>?_
    refine b7 (Ay _ _ (λ_ _=>?_) _ _) λ_=>?_
    .repeat' first|exact bY _|exact hx _ _|exact nT h _ _ _|refine b7 ?_ λ_=>?_|split|dsimp only
    .repeat' first|exact bY _|split|dsimp only
   |_=>cases ht
theorem Lh:∀(n:Nat)(t u:TypeId),P'.alikeButTags n t u=P.alikeButTags n t u:=by
 obtain⟨fs,rfl⟩:=h.eq;intro n
 induction n with
 |zero=>intro t u;rfl
 |succ n ih=>intro t u;simp only[Program.alikeButTags,ih]
theorem Ll(t:TypeId):P'.stoodInHeld t=P.stoodInHeld t:=by
 have e:=Lh h;obtain⟨fs,rfl⟩:=h.eq;unfold Program.stoodInHeld Program.stoodInAs;simp only[e];rfl
omit h in
theorem AA{β γ:Type}(f g:γ->β->Sem (ForInStep β)):∀(l:List γ)(b:β),(∀a,a∈l->∀b,RE P P' C (f a b) (g a b))->RE P P' C (forIn l b f) (forIn l b g)
 |[],b,_=>by simp only[List.forIn_nil];exact bY _
 |a::l,b,hf=>by
  simp only[List.forIn_cons]
  refine b7 (hf a (jB ..) b) λr=>?_
  cases r with
  |done b=>exact bY _
  |yield b=>exact AA f g l b λa ha=>hf a (fw _ ha)
def ny(P:Program)(t:TypeId):Bool:=g7 P 10 t || match P.underlying t with|some (.struct fs)=>fs.toList.all λf=>g7 P 10 f.type|_=>false
theorem Lm(t:TypeId)(ht:ny P t=true)(n:Nat)(x y:Value):RE P P' C (Op.equalIn n t x y) (Op.equalIn n t x y):=by
 unfold ny at ht;rw[sT] at ht
 rcases ht with ht|ht
 .exact Az h 10 t ht n x y
 cases n with
 |zero=>exact dO _ _
 |succ n=>
  unfold Op.equalIn
  rcases hu:P.underlying t with _|td
  .rw[hu] at ht;cases ht
  rw[hu] at ht;refine j7 h hu ?_
  cases td with
  |struct fs=>
   have ht:∀f,f∈fs.toList->g7 P 10 f.type=true:=gz.1 ht
   cases x<;>first|exact cz _ _|skip
   cases y<;>first|exact cz _ _|skip
   dsimp only;refine iY ?_;rw[Ll h];split
   all_goals try refine b7 (dO _ _) λ_=>?_
   all_goals
    rw[<-Array.forIn_toList]
    refine b7 (AA _ _ _ _ λf hf _=>?_) λ_=>?_
    .have hx:=Az (P':=P') (C:=C) h 10 _ (ht f hf) n
     repeat' first|exact bY _|exact hx _ _|exact nT h _ _ _|refine b7 ?_ λ_=>?_|split|dsimp only
    .split<;>exact bY _
  |_=>cases ht
theorem E6(t:TypeId)(ht:ny P t=true)(n:Nat)(x y:Value):RE P P' C (Op.eqGuardIn n t x y) (Op.eqGuardIn n t x y):=by
 unfold ny at ht;rw[sT] at ht
 rcases ht with ht|ht
 .exact E5 h 10 t ht n x y
 cases n with
 |zero=>exact dO _ _
 |succ n=>
  unfold Op.eqGuardIn
  rcases hu:P.underlying t with _|td
  .rw[hu] at ht;cases ht
  rw[hu] at ht;refine j7 h hu ?_
  cases td with
  |struct fs=>
   have ht:∀f,f∈fs.toList->g7 P 10 f.type=true:=gz.1 ht
   cases x<;>first|exact bY _|skip
   cases y<;>first|exact bY _|skip
   dsimp only
   all_goals
    rw[<-Array.forIn_toList]
    refine b7 (AA _ _ _ _ λf hf _=>?_) λ_=>?_
    .have hx:=E5 (P':=P') (C:=C) h 10 _ (ht f hf) n
     repeat' first|exact bY _|exact hx _ _|exact nT h _ _ _|refine b7 ?_ λ_=>?_|split|dsimp only
    .split<;>exact bY _
  |_=>cases ht
theorem Ln(d:Nat)(t:TypeId):P'.eqGuardType d t=P.eqGuardType d t:=by
 obtain⟨fs,rfl⟩:=h.eq
 induction d generalizing t with
 |zero=>rfl
 |succ d ih=>simp only[Program.eqGuardType,ih];rfl
theorem Lo{op:BinOp}{t:TypeId}(x y:Operand)(a b:Value)(hp:op=.eql\/op=.neq->ny P t=true):RE P P' C (eqGuard op t x y a b) (eqGuard op t x y a b):=by
 unfold eqGuard
 have key:ny P t=true->RE P P' C (do
  match a,b with
  |.nilIface,.nilIface=>
   if (x matches .const _) || (y matches .const _) then return
   if <-Op.eqGuardIn Op.maxDepth t a b then unsupported (.noEntry "binop/eql: two nil values of an interface type with methods, neither of them the literal nil")
  |.agg _,.agg _=>
   if !(<-program).eqGuardType (<-program).depth t then return
   if <-Op.eqGuardIn Op.maxDepth t a b then unsupported (.noEntry "binop/eql: two nil values of an interface type with methods, in a part of a struct or an array")
  |_,_=>pure ()) (do
  match a,b with
  |.nilIface,.nilIface=>
   if (x matches .const _) || (y matches .const _) then return
   if <-Op.eqGuardIn Op.maxDepth t a b then unsupported (.noEntry "binop/eql: two nil values of an interface type with methods, neither of them the literal nil")
  |.agg _,.agg _=>
   if !(<-program).eqGuardType (<-program).depth t then return
   if <-Op.eqGuardIn Op.maxDepth t a b then unsupported (.noEntry "binop/eql: two nil values of an interface type with methods, in a part of a struct or an array")
  |_,_=>pure ()):=λhx=>by
  skip
  split
  .repeat' first|exact bY _|exact dO _ _|exact E6 h t hx _ _ _|refine b7 ?_ λ_=>?_|split|dsimp only
  .refine iY (iY ?_);rw[Ln h,h.depth]
   repeat' first|exact bY _|exact dO _ _|exact E6 h t hx _ _ _|refine b7 ?_ λ_=>?_|split|dsimp only
  .exact bY _
 cases op with
 |eql=>grind
 |neq=>grind
 |_=>exact bY _
theorem Lp{op:BinOp}{t:TypeId}(a b:Value)(hp:op=.eql\/op=.neq->ny P t=true):RE P P' C (binOp op t a b) (binOp op t a b):=by
 unfold binOp
 split<;>first
  |exact K8 h _ _ _ _ _
  |exact As _ _ _
  |exact EZ h _ _ _
  |exact dO _ _
  |exact cz _ _
  |exact b7 (Lm h t (hp ae) _ _ _) λ_=>bY _
  |(repeat' first|contradiction|exact bY _|exact cz _ _|exact dO _ _|exact EM _ _ _ _|exact K6 h _ _ _ _|exact EN _ _ _ _|exact KX _ _ _|exact EK _ _ _ _|exact EL _ _ _ _|exact K1 _ _ _ _ _ _|exact At _|exact Ld h _ _ _|exact Le h _ _ _|exact Lf h _ _ _|exact fC h _|exact EZ h _ _ _|exact Lg h _ _ _|refine b7 ?_ λ_=>?_|split|dsimp only)
end
section
variable{P P':Program}{C:Cx}(h:Kin P P')
include h
omit h in
theorem E7{α β:Type}(f:α->Sem β)(hf:∀a,RE P P' C (f a) (f a))(l:Array α):RE P P' C (l.mapM f) (l.mapM f):=by
 rw[sN];refine ED ?_ _
 induction l.toList with
 |nil=>rw[List.mapM_nil];exact bY _
 |cons a l ih=>rw[yc];exact b7 (hf a) λb=>b7 ih λbs=>bY _
theorem Lq(t:TypeId)(v:Value):RE P P' C (Instr.alloc t true v) (Instr.alloc t true v):=by
 unfold Instr.alloc
 refine b7 (oU h t) λz=>?_
 dsimp only
 exact b7 (wz _ _) λa=>bY _
omit h in
theorem Lr(t:TypeId)(v:Value):RE P P' C (Instr.box t v) (Instr.box t v):=b7 (wz _ _) λa=>bY _
theorem Ls(t:TypeId)(ps:Array (Nat×Value)):RE P P' C (Instr.build t ps) (Instr.build t ps):=by
 unfold Instr.build
 repeat' first|exact bY _|exact cz _ _|exact oU h _|exact fC h _|exact gT h _|exact E7 _ (λf=>b7 (gT h _) λn=>bY _) _|refine b7 ?_ λ_=>?_|split|dsimp only
theorem Lt(t:TypeId)(n:Nat)(ps:Array (Nat×Value)):RE P P' C (Instr.buildSlice t n ps) (Instr.buildSlice t n ps):=by
 unfold Instr.buildSlice
 repeat' first|exact bY _|exact cz _ _|exact dO _ _|exact oU h _|exact fC h _|exact gT h _|exact tD _ _|refine b7 ?_ λ_=>?_|split|dsimp only
omit h in
theorem tH(v:Value):RE P P' C (Instr.sureAddr v) (Instr.sureAddr v):=by
 unfold Instr.sureAddr;split
 .exact bY _
 .exact cz _ _
theorem Lu(t:TypeId)(v:Value):RE P P' C (Instr.loadAt t v) (Instr.loadAt t v):=b7 (tH v) λa=>wy h t a
theorem Lv(t:TypeId)(v x:Value):RE P P' C (Instr.storeAt t v x) (Instr.storeAt t v x):=b7 (tH v) λa=>KU h t a x
theorem Lw(s:TypeId)(v:Value)(k:Nat):RE P P' C (Instr.fieldAt s v k) (Instr.fieldAt s v k):=by
 unfold Instr.fieldAt
 repeat' first|exact bY _|exact cz _ _|exact fC h _|exact tH _|exact EY h _ _|refine b7 ?_ λ_=>?_|split|dsimp only
theorem Lx(t:TypeId)(x i:Value):RE P P' C (Instr.indexAt t x i) (Instr.indexAt t x i):=by
 unfold Instr.indexAt
 repeat' first|exact bY _|exact cz _ _|exact dO _ _|exact fC h _|exact tH _|exact gT h _|exact wA _|exact Ar h _ _ _ _|refine b7 ?_ λ_=>?_|split|dsimp only
theorem Ly(t:TypeId)(x i:Value):RE P P' C (Instr.index t x i) (Instr.index t x i):=by
 unfold Instr.index
 repeat' first|exact bY _|exact cz _ _|exact dO _ _|exact fC h _|exact nT h _ _ _|exact gT h _|exact wA _|exact Ar h _ _ _ _|refine b7 ?_ λ_=>?_|split|dsimp only
omit h in
theorem Lz(x:Value)(i:Nat):RE P P' C (Instr.extract x i) (Instr.extract x i):=by
 unfold Instr.extract
 repeat' first|exact bY _|exact cz _ _|split
theorem LA(t:TypeId)(x:Value)(i:Nat):RE P P' C (Instr.field t x i) (Instr.field t x i):=by
 unfold Instr.field
 repeat' first|exact bY _|exact cz _ _|exact fC h _|exact nT h _ _ _|exact KW _|refine b7 ?_ λ_=>?_|split|dsimp only
theorem LF(t:TypeId)(x:Value):RE P P' C (Instr.makeInterface t x) (Instr.makeInterface t x):=by
 unfold Instr.makeInterface
 repeat' first|exact bY _|exact cz _ _|exact fC h _|refine b7 ?_ λ_=>?_|split|dsimp only
theorem LG(t:TypeId)(r:Option Value):RE P P' C (Instr.makeMap t r) (Instr.makeMap t r):=by
 unfold Instr.makeMap
 repeat' first|exact bY _|exact cz _ _|exact fC h _|exact tF _|exact rl (o:=.map #[] 0) trivial|refine b7 ?_ λ_=>?_|split|dsimp only
theorem LH(t:TypeId)(x y:Value):RE P P' C (Instr.makeSlice t x y) (Instr.makeSlice t x y):=by
 unfold Instr.makeSlice
 repeat' first|exact bY _|exact cz _ _|exact fC h _|exact tF _|exact m9 h _|exact gT h _|exact oU h _|exact tD _ _|exact Aq _|exact gU h _|exact j5 _|refine b7 ?_ λ_=>?_|split|dsimp only
theorem LI(x:Value)(y:Nat)(c:BoundsCode):RE P P' C (Instr.sliceBound x y c) (Instr.sliceBound x y c):=by
 unfold Instr.sliceBound
 repeat' first|exact bY _|exact wA _|exact Ar h _ _ _ _|refine b7 ?_ λ_=>?_|split|dsimp only
theorem E8(b:Bool)(n c:Nat)(x y z:Option Value):RE P P' C (Instr.sliceBounds b n c x y z) (Instr.sliceBounds b n c x y z):=by
 unfold Instr.sliceBounds
 repeat' first|exact bY _|exact cz _ _|exact LI h _ _ _|refine b7 ?_ λ_=>?_|split|dsimp only
theorem LJ(t:TypeId)(x:Value)(a b c:Option Value):RE P P' C (Instr.slice t x a b c) (Instr.slice t x a b c):=by
 unfold Instr.slice
 repeat' first|exact bY _|exact cz _ _|exact fC h _|exact E8 h _ _ _ _ _ _|exact gT h _|exact wC h _|refine b7 ?_ λ_=>?_|split|dsimp only
theorem LL(t:TypeId)(x:Value)(a b c:Option Value):RE P P' C (Instr.sliceAt t x a b c) (Instr.sliceAt t x a b c):=by
 unfold Instr.sliceAt
 repeat' first|exact bY _|exact cz _ _|exact fC h _|exact E8 h _ _ _ _ _ _|exact gT h _|exact tH _|exact LJ h _ _ _ _ _|refine b7 ?_ λ_=>?_|split|dsimp only
end
end Go.Fc
