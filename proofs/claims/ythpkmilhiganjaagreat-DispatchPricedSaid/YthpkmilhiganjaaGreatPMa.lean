/- Lemmas. -/
import Derived.Conc.Beside
set_option linter.unusedSimpArgs false
set_option linter.unusedVariables false
set_option linter.unusedSectionVars false
set_option maxHeartbeats 32000000
set_option maxRecDepth 100000
namespace Go.Fc
open Go
structure Cx where
 code:Code→Prop
 fn:Nat→Prop
 xf:Nat→Prop
def okO(C:Cx):Obj→Prop
 |.cells .. | .map .. | .number ..=>True
 |.deferred (some []) | .deferred none=>True
 |.loop l=>C.code l.assign∧C.code l.body∧C.fn l.fn∧∀c,l.pending=some c→C.code c
 |_=>False
def gn(b:Nat):Obj→Obj
 |.view _ u=>.view ⟨b,0,none⟩ u
 |.chan ..=>.chan 0 #[] false 0 0 false
 |_=>.coro none
def oP:Halt→Prop
 |.panic _ | .stuck _=>True
 |.unsupported (.initOrder _)=>False
 |.unsupported _=>True
 |_=>False
def ND(w:World):Prop:=∀(b:Nat)(ds:List Deferred),w.heap[b]?=some (Obj.deferred (some ds))→ds=[]
def lZ{α:Type}(w:World):Result α→Prop
 |.halt h w'=>oP h∧(ND w→ND w')
 |.ok _ _=>False
def NP(w:World):Prop:=∀(b:Nat)(c:Array Value)(e:TypeId),w.heap[b]?≠some (Obj.pending c e)
inductive RT(P P':Program)(C:Cx){α:Type}(D:α→Prop)(Q:α→α→Prop):Sem α→Sem α→Prop
 |pure (a b:α):Q a b→RT P P' C D Q (.pure a) (.pure b)
 |kD (a:α) (t:Sem α):D a→RT P P' C D Q (.pure a) t
 |bad (s t:Sem α):(∀w es,NP w→lZ w (s.runT P w es).1)→RT P P' C D Q s t
 |load (a:Addr) (k k':Value→Sem α):(∀v,RT P P' C D Q (k v) (k' v))→RT P P' C D Q (.load .plain a k) (.load .plain a k')
 |store (a:Addr) (v:Value) (k k':Sem α):RT P P' C D Q k k'→RT P P' C D Q (.store .plain a v k) (.store .plain a v k')
 |new (o:Obj) (k k':Nat→Sem α):okO C o→(∀r,RT P P' C D Q (k r) (k' r))→RT P P' C D Q (.new o k) (.new o k')
 |l8 (o:Obj) (s t:Sem α) (k k':Nat→Sem α):okO C o→(∀p w es,s.runT p w es=(k w.heap.size).runT p { w with heap:=w.heap.push o } es)→(∀p w es,t.runT p w es=(k' w.heap.size).runT p { w with heap:=w.heap.push o } es) →
   (∀r,RT P P' C D Q (k r) (k' r))→RT P P' C D Q s t
 |shape (r:Nat) (k k':Option (TypeId×Nat)→Sem α):(∀x,RT P P' C D Q (k x) (k' x))→(∀e n,RT P P' C D Q (k (some (e,0))) (k' (some (e,n)))) →
   RT P P' C D Q (.shape r k) (.shape r k')
 |frozen (a:Addr) (k k':Bool→Sem α):(∀x,RT P P' C D Q (k x) (k' x))→RT P P' C D Q (.frozen a k) (.frozen a k')
 |getObj (r:Nat) (k k':Obj→Sem α):(∀o,okO C o→RT P P' C D Q (k o) (k' o))→(∀o,¬okO C o→RT P P' C D Q (k (gn r o)) (k' o)) →
   RT P P' C D Q (.getObj r k) (.getObj r k')
 |setObj (r:Nat) (o:Obj) (k k':Sem α):okO C o→RT P P' C D Q k k'→RT P P' C D Q (.setObj r o k) (.setObj r o k')
 |choose (q:Question) (k k':Nat→Sem α):(∀n,RT P P' C D Q (k n) (k' n))→RT P P' C D Q (.choose q k) (.choose q k')
 |program (k k':Program→Sem α):RT P P' C D Q (k P) (k' P')→RT P P' C D Q (.program k) (.program k')
 |mark (k k':Sem α):RT P P' C D Q k k'→RT P P' C D Q (.mark .noRoom k) (.mark .noRoom k')
section
variable{P P':Program}{C:Cx}{α β:Type}
theorem RT.mono{s t:Sem α}{D D':α→Prop}{Q Q':α→α→Prop}(h:RT P P' C D Q s t)(hd:∀a,D a→D' a)(hq:∀a b,Q a b→Q' a b):RT P P' C D' Q' s t:=by
 induction h with
 |pure a b h=>exact .pure a b (hq a b h)
 |kD a t h=>exact .kD a t (hd a h)
 |bad s t h=>exact .bad s t h
 |load a k k' _ ih=>exact .load a k k' ih
 |store a v k k' _ ih=>exact .store a v k k' ih
 |new o k k' ho _ ih=>exact .new o k k' ho ih
 |l8 o s t k k' ho hs ht _ ih=>exact .l8 o s t k k' ho hs ht ih
 |shape r k k' _ _ ih1 ih2=>exact .shape r k k' ih1 ih2
 |frozen a k k' _ ih=>exact .frozen a k k' ih
 |getObj r k k' _ _ ih1 ih2=>exact .getObj r k k' ih1 ih2
 |setObj r o k k' ho _ ih=>exact .setObj r o k k' ho ih
 |choose q k k' _ ih=>exact .choose q k k' ih
 |program k k' _ ih=>exact .program k k' ih
 |mark k k' _ ih=>exact .mark k k' ih
theorem RT.halt{h:Halt}(hc:oP h)(t:Sem α){D:α→Prop}{Q:α→α→Prop}:RT P P' C D Q (.halt h) t:=.bad _ _ fun w es _=>⟨hc,id⟩
theorem RT.bind{s t:Sem α}{f g:α→Sem β}{M:α→α→Prop}{D:β→Prop}{Q:β→β→Prop}(h:RT P P' C (fun _=>False) M s t)(hf:∀a b,M a b→RT P P' C D Q (f a) (g b)):RT P P' C D Q (s.bind f) (t.bind g):=by
 induction h with
 |pure a b h=>exact hf a b h
 |kD a t h=>exact h.elim
 |bad s t h=>
  refine .bad _ _ fun w es hn=>?_
  have hx:=h w es hn;rw[Sem.runT_bind']
  rcases hr:s.runT P w es with ⟨r,es'⟩
  rw[hr] at hx
  cases r with
  |ok a0 w0=>exact hx.elim
  |halt h0 w0=>exact hx
 |load a k k' _ ih=>exact .load a _ _ ih
 |store a v k k' _ ih=>exact .store a v _ _ ih
 |new o k k' ho _ ih=>exact .new o _ _ ho ih
 |l8 o s t k k' ho hs ht _ ih=>exact .l8 o _ _ (fun r=>(k r).bind f) (fun r=>(k' r).bind g) ho (fun p w es=>by rw[Sem.runT_bind',Sem.runT_bind',hs]) (fun p w es=>by rw[Sem.runT_bind',Sem.runT_bind',ht]) ih
 |shape r k k' _ _ ih1 ih2=>exact .shape r _ _ ih1 ih2
 |frozen a k k' _ ih=>exact .frozen a _ _ ih
 |getObj r k k' _ _ ih1 ih2=>exact .getObj r _ _ ih1 ih2
 |setObj r o k k' ho _ ih=>exact .setObj r o _ _ ho ih
 |choose q k k' _ ih=>exact .choose q _ _ ih
 |program k k' _ ih=>exact .program _ _ ih
 |mark k k' _ ih=>exact .mark _ _ ih
end
structure Sh where
 dead:Nat→Prop
 part:Nat→Nat→Prop
 old:Nat→Obj→Prop
def Sh.cP(S:Sh)(e:Event):Prop:=∀a,e.loc=.cell a→¬S.part a.block a.off
structure Lk(C:Cx)(S:Sh)(A B:World):Prop where
 size:A.heap.size=B.heap.size
 low:∀b,S.dead b→b<A.heap.size
 same:∀b,¬S.dead b→(A.heap[b]?=B.heap[b]?∧∀o,A.heap[b]?=some o→okO C o)∨(∃o,B.heap[b]?=some o∧¬okO C o∧A.heap[b]?=some (gn b o)∧S.old b o) ∨
  ∃cA cB e fr,A.heap[b]?=some (.cells cA e fr)∧B.heap[b]?=some (.cells cB e fr)∧cA.size=cB.size∧∀i,¬S.part b i→cA[i]?=cB[i]?
 dead:∀b,S.dead b→∃c e fr,A.heap[b]?=some (.cells #[] e fr)∧B.heap[b]?=some (.cells c e fr)
 os:A.os=B.os
 output:A.output=B.output
def EvT(S:Sh)(w:World)(e:Event):Prop:=
 (∃a wr,e=⟨.cell a,wr,false⟩∧(∃c ty fr,w.heap[a.block]?=some (.cells c ty fr))∧¬S.dead a.block)∨(∃r wr sy,e=⟨.obj r,wr,sy⟩∧r<w.heap.size∧¬S.dead r)∨e=⟨.mark .noRoom,false,true⟩
theorem AW{w:World}{a:Addr}{v:Value}(h:w.cell? a=some v):∃c ty fr,w.heap[a.block]?=some (.cells c ty fr):=by
 unfold World.cell? at h
 rcases hx:w.heap[a.block]? with _|o
 ·rw[hx] at h;cases h
 ·rw[hx] at h
  cases o<;>first|cases h|exact⟨_,_,_,rfl⟩
section
variable{P P':Program}{C:Cx}{S:Sh}{A B:World}
theorem Lk.EE(h:Lk C S A B){b:Nat}{c:Array Value}{e:TypeId}{f:Nat×Nat}(hS:¬S.dead b)(hb:A.heap[b]?=some (.cells c e f)):∃cB,B.heap[b]?=some (.cells cB e f)∧c.size=cB.size∧∀i,¬S.part b i→c[i]?=cB[i]?:=by
 rcases h.same b hS with ⟨e,_⟩|⟨o',h1,h2,h3,_⟩|⟨cA,cB,e,f,h1,h2,h3,h4⟩
 ·exact⟨c,by rw[←e];exact hb,rfl,fun _ _=>rfl⟩
 ·rw[h3] at hb
  cases o'<;>first|exact absurd trivial h2|cases hb
 ·rw[h1] at hb;cases Option.some.inj hb;exact⟨cB,h2,h3,h4⟩
theorem Lk.cell0(h:Lk C S A B){a:Addr}{v:Value}(hc:A.cell? a=some v):¬S.dead a.block∧a.block<A.heap.size∧∃u,B.cell? a=some u∧(¬S.part a.block a.off→u=v):=by
 have hn:¬S.dead a.block:=by
  intro hs;obtain⟨c,e,fr,h1,_⟩:=h.dead _ hs;simp[World.cell?,h1] at hc
 rcases hx:A.heap[a.block]? with _|o
 ·simp[World.cell?,hx] at hc
 refine⟨hn,(Array.getElem?_eq_some_iff.1 hx).1,?_⟩;unfold World.cell? at hc ⊢;rw[hx] at hc
 cases o<;>first|cases hc|skip
 obtain⟨cB,h1,h2,h3⟩:=h.EE hn hx;rw[h1]
 rcases hs:a.spot.isSome with _|_
 ·simp only[hs,Bool.false_eq_true,if_false] at hc ⊢;have hlt:=(Array.getElem?_eq_some_iff.1 hc).1;refine⟨cB[a.off]'(h2▸hlt),Array.getElem?_eq_getElem _,fun hp=>?_⟩;have:=h3 a.off hp;rw[hc,Array.getElem?_eq_getElem (h2▸hlt)] at this;exact (Option.some.inj this).symm
 ·simp[hs] at hc
theorem Lk.cell(h:Lk C S A B){a:Addr}{v:Value}(hc:A.cell? a=some v)(hp:¬S.part a.block a.off):¬S.dead a.block∧a.block<A.heap.size∧B.cell? a=some v:=
 let ⟨h1,h2,u,h3,h4⟩:=h.cell0 hc;⟨h1,h2,h4 hp▸h3⟩
theorem Lk.np(h:Lk C S A B):NP A:=by
 intro b c e hb;by_cases hS:S.dead b
 ·obtain⟨c',e',fr,h1,_⟩:=h.dead _ hS;rw[hb] at h1;cases h1
 ·rcases h.same _ hS with ⟨_,ho⟩|⟨o,h1,h2,h3,_⟩|⟨_,_,_,_,h1,_⟩
  ·exact ho _ hb
  ·rw[hb] at h3
   cases o<;>simp[gn] at h3
  ·rw[hb] at h1;cases h1
theorem Lk.nd(h:Lk C S A B):ND A:=by
 intro b ds hb;by_cases hS:S.dead b
 ·obtain⟨c',e',fr,h1,_⟩:=h.dead _ hS;rw[hb] at h1;cases h1
 ·rcases h.same _ hS with ⟨_,ho⟩|⟨o,h1,h2,h3,_⟩|⟨_,_,_,_,h1,_⟩
  ·have:=ho _ hb
   cases ds with
   |nil=>rfl
   |cons d r=>exact this.elim
  ·rw[hb] at h3
   cases o<;>simp[gn] at h3
  ·rw[hb] at h1;cases h1
theorem Lk.frozen(h:Lk C S A B)(a:Addr):B.frozen? a=A.frozen? a:=by
 unfold World.frozen?;by_cases hS:S.dead a.block
 ·obtain⟨c,e,fr,h1,h2⟩:=h.dead _ hS;rw[h1,h2]
 ·rcases h.same _ hS with ⟨e,_⟩|⟨o,h1,h2,h3,_⟩|⟨_,_,_,_,h1,h2,_⟩
  ·rw[e]
  ·rw[h1,h3]
   cases o<;>first|rfl|exact absurd trivial h2
  ·rw[h1,h2]
theorem Lk.shape(h:Lk C S A B)(r:Nat):A.shape? r=B.shape? r∨∃e n,A.shape? r=some (e,0)∧B.shape? r=some (e,n):=by
 unfold World.shape?;by_cases hS:S.dead r
 ·obtain⟨c,e,fr,h1,h2⟩:=h.dead _ hS;rw[h1,h2];exact .inr ⟨e,c.size,rfl,rfl⟩
 ·rcases h.same _ hS with ⟨e,_⟩|⟨o,h1,h2,h3,_⟩|⟨_,_,_,_,h1,h2,h3,_⟩
  ·rw[e];exact .inl rfl
  ·rw[h1,h3]
   cases o<;>first|exact .inl rfl|exact absurd trivial h2
  ·rw[h1,h2];exact .inl (by simp[h3])
theorem Lk.push(h:Lk C S A B){o:Obj}(ho:okO C o):Lk C S { A with heap:=A.heap.push o } { B with heap:=B.heap.push o }:=by
 refine⟨by simp[h.size],fun b hb=>by have:=h.low b hb;simp;omega,fun b hb=>?_,fun b hb=>?_,h.os,h.output⟩
 ·simp only[Array.getElem?_push,h.size];split
  ·exact .inl ⟨rfl,fun o' e=>by obtain rfl:=Option.some.inj e;exact ho⟩
  ·exact h.same b hb
 ·have:=h.low b hb;obtain⟨c,e,fr,h1,h2⟩:=h.dead _ hb;simp only[Array.getElem?_push,←h.size];rw[if_neg (by omega),if_neg (by omega)];exact⟨c,e,fr,h1,h2⟩
theorem Lk.set(h:Lk C S A B){r:Nat}(hr:¬S.dead r){o:Obj}(ho:okO C o):Lk C S { A with heap:=A.heap.setIfInBounds r o } { B with heap:=B.heap.setIfInBounds r o }:=by
 refine⟨by simp[h.size],fun b hb=>by simpa using h.low b hb,fun b hb=>?_,fun b hb=>?_,h.os,h.output⟩
 ·simp only[Array.getElem?_setIfInBounds,h.size];split
  ·refine .inl ⟨rfl,fun o' e=>?_⟩;split at e
   ·obtain rfl:=Option.some.inj e;exact ho
   ·cases e
  ·exact h.same b hb
 ·have hne:r≠b:=fun e=>hr (e▸hb)
  simp only[Array.getElem?_setIfInBounds,if_neg hne];exact h.dead b hb
theorem Lk.setCell(h:Lk C S A B){a:Addr}{u:Value}(hc:A.cell? a=some u)(v:Value):Lk C S (A.setCell a v) (B.setCell a v):=by
 obtain⟨hn,hlt,_⟩:=h.cell0 hc;refine⟨by simp[World.setCell,h.size],fun b hb=>by simpa[World.setCell] using h.low b hb,fun b hb=>?_,fun b hb=>?_,h.os,h.output⟩
 ·simp only[World.setCell,Array.getElem?_modify];split
  ·rename_i e;subst e
   rcases hx:A.heap[a.block]? with _|o
   ·simp[World.cell?,hx] at hc
   ·cases o<;>simp[World.cell?,hx] at hc
    obtain⟨cB,h1,h2,h3⟩:=h.EE hn hx;rw[h1];refine .inr (.inr ⟨_,_,_,_,rfl,rfl,?_,fun i hi=>?_⟩)
    ·split<;>simp[h2]
    ·have:=h3 i hi;split
     ·exact this
     ·simp only[Array.getElem?_setIfInBounds,h2];split
      ·rfl
      ·exact this
  ·exact h.same b hb
 ·have hne:a.block≠b:=fun e=>hn (e▸hb)
  simp only[World.setCell,Array.getElem?_modify,if_neg hne];exact h.dead b hb
theorem Lk.far(h:Lk C S A B)(p:Program)(a:Addr)(at_:Bool):∃e,A.farLoad p a at_=.error e:=by
 unfold World.farLoad
 rcases hx:A.heap[a.block]? with _|o
 ·exact⟨_,rfl⟩
 ·cases o<;>first|exact⟨_,rfl⟩|skip
  rename_i v u
  have hv:v.block=a.block:=by
   by_cases hS:S.dead a.block
   ·obtain⟨c,e,fr,h1,_⟩:=h.dead _ hS;rw[hx] at h1;cases h1
   ·rcases h.same _ hS with ⟨_,ho⟩|⟨o,h1,h2,h3,_⟩|⟨_,_,_,_,h1,_⟩
    ·exact (ho _ hx).elim
    ·rw[hx] at h3
     cases o<;>simp[gn] at h3
     rw[h3.1]
    ·rw[hx] at h1;cases h1
  have hs:∀k,∃e,A.seen p v u k at_=.error e:=fun k=>by
   rcases hy:A.seen p v u k at_ with e|x
   ·exact⟨e,rfl⟩
   ·exfalso;unfold World.seen at hy;rw[hv,hx] at hy;simp only[bind,Except.bind,throw,throwThe,MonadExceptOf.throw,pure,Except.pure] at hy
    repeat' split at hy
    all_goals first|cases hy|skip
  obtain⟨e,he⟩:=hs a;simp only[World.viewLoad,he,bind,Except.bind];exact⟨_,rfl⟩
theorem Lk.za(h:Lk C S A B)(p:Program)(a:Addr)(v:Value)(at_:Bool):∃e,A.farStore p a v at_=.error e:=by
 unfold World.farStore
 rcases hx:A.heap[a.block]? with _|o
 ·exact⟨_,rfl⟩
 ·cases o<;>first|exact⟨_,rfl⟩|skip
  rename_i w u
  have hv:w.block=a.block:=by
   by_cases hS:S.dead a.block
   ·obtain⟨c,e,fr,h1,_⟩:=h.dead _ hS;rw[hx] at h1;cases h1
   ·rcases h.same _ hS with ⟨_,ho⟩|⟨o,h1,h2,h3,_⟩|⟨_,_,_,_,h1,_⟩
    ·exact (ho _ hx).elim
    ·rw[hx] at h3
     cases o<;>simp[gn] at h3
     rw[h3.1]
    ·rw[hx] at h1;cases h1
  have hs:∀k,∃e,A.seen p w u k at_=.error e:=fun k=>by
   rcases hy:A.seen p w u k at_ with e|x
   ·exact⟨e,rfl⟩
   ·exfalso;unfold World.seen at hy;rw[hv,hx] at hy;simp only[bind,Except.bind,throw,throwThe,MonadExceptOf.throw,pure,Except.pure] at hy
    repeat' split at hy
    all_goals first|cases hy|skip
  obtain⟨e,he⟩:=hs a
  rcases hz:A.viewStore p w u a v at_ with e|x
  ·exact⟨_,by simp only[hz];rfl⟩
  ·exfalso;unfold World.viewStore at hz;simp only[he,bind,Except.bind,throw,throwThe,MonadExceptOf.throw,pure,Except.pure] at hz
   repeat' split at hz
   all_goals first|cases hz|skip
structure Kept(es:Array Event)(B B':World):Prop where
 os:B'.os=B.os
 output:B'.output=B.output
 size:B.heap.size≤B'.heap.size
 obj:∀b,b<B.heap.size→((∀c ty fr,B.heap[b]?≠some (.cells c ty fr))∨∀e∈es,e.write=true→∀a,e.loc=.cell a→a.block≠b)→(∀e∈es,e.write=true→e.loc≠.obj b)→B'.heap[b]?=B.heap[b]?
 cell:∀b c ty fr,B.heap[b]?=some (.cells c ty fr)→∃c',B'.heap[b]?=some (.cells c' ty fr)∧c'.size=c.size∧∀i,(∀e∈es,e.write=true→∀a,e.loc=.cell a→a.block=b→a.off≠i)→c'[i]?=c[i]?
theorem EvT.mono{S:Sh}{es:Array Event}{w w':World}{e:Event}(h:EvT S w e)(k:Kept es w w'):EvT S w' e:=by
 rcases h with ⟨a,wr,rfl,⟨c,ty,fr,h1⟩,h2⟩|⟨r,wr,sy,rfl,h1,h2⟩|rfl
 ·obtain⟨c',h3,_⟩:=k.cell _ c ty fr h1;exact .inl ⟨a,wr,rfl,⟨c',ty,fr,h3⟩,h2⟩
 ·exact .inr (.inl ⟨r,wr,sy,rfl,Nat.lt_of_lt_of_le h1 k.size,h2⟩)
 ·exact .inr (.inr rfl)
theorem Kept.refl(es:Array Event)(B:World):Kept es B B:=⟨rfl,rfl,Nat.le_refl _,fun _ _ _ _=>rfl,fun b c ty fr h=>⟨c,h,rfl,fun _ _=>rfl⟩⟩
theorem Kept.trans{e n:Array Event}{B B1 B2:World}(h:Kept e B B1)(k:Kept n B1 B2):Kept (e++n) B B2:=by
 refine⟨k.os.trans h.os,k.output.trans h.output,Nat.le_trans h.size k.size,fun b hb h1 h2=>?_,fun b c ty fr hc=>?_⟩
 ·have e1:=h.obj b hb (h1.imp id fun h1 x hx=>h1 x (Array.mem_append_left _ hx)) (fun x hx=>h2 x (Array.mem_append_left _ hx));exact (k.obj b (Nat.lt_of_lt_of_le hb h.size) (h1.imp (fun h1=>by rw[e1];exact h1) fun h1 x hx=>h1 x (Array.mem_append_right _ hx)) (fun x hx=>h2 x (Array.mem_append_right _ hx))).trans e1
 ·obtain⟨c1,a1,a2,a3⟩:=h.cell b c ty fr hc;obtain⟨c2,b1,b2,b3⟩:=k.cell b c1 ty fr a1;exact⟨c2,b1,b2.trans a2,fun i hi=>(b3 i fun x hx=>hi x (Array.mem_append_right _ hx)).trans (a3 i fun x hx=>hi x (Array.mem_append_left _ hx))⟩
theorem Kept.draw(B:World)(d:Nat):Kept #[] B { B with drawn:=d }:=⟨rfl,rfl,Nat.le_refl _,fun _ _ _ _=>rfl,fun b c ty fr h=>⟨c,h,rfl,fun _ _=>rfl⟩⟩
theorem Kept.push(B:World)(o:Obj):Kept #[] B { B with heap:=B.heap.push o }:=by
 have e:∀b,b<B.heap.size→(B.heap.push o)[b]?=B.heap[b]?:=fun b hb=>by rw[Array.getElem?_push,if_neg (by omega)]
 exact⟨rfl,rfl,by simp,fun b hb _ _=>e b hb,fun b c ty fr h=>⟨c,(e b (Array.getElem?_eq_some_iff.1 h).1).trans h,rfl,fun _ _=>rfl⟩⟩
theorem Kept.setCell(B:World)(a:Addr)(v:Value)(sy:Bool):Kept #[⟨.cell a,true,sy⟩] B (B.setCell a v):=by
 refine⟨rfl,rfl,by simp[World.setCell],fun b hb h1 h2=>?_,fun b c ty fr h=>?_⟩
 ·rcases h1 with h1|h1
  ·by_cases hab:a.block=b
   ·subst hab
    rcases hx:B.heap[a.block]? with _|o
    ·simp[World.setCell,Array.getElem?_modify,hx]
    ·cases o<;>first|exact absurd hx (h1 _ _ _)|simp[World.setCell,Array.getElem?_modify,hx]
   ·simp[World.setCell,Array.getElem?_modify,hab]
  ·have:=h1 ⟨.cell a,true,sy⟩ (by simp) rfl a rfl;simp[World.setCell,Array.getElem?_modify,this]
 ·by_cases hb:a.block=b
  ·subst hb;refine⟨if a.spot.isSome then c else c.setIfInBounds a.off v,by simp[World.setCell,Array.getElem?_modify,h],by split<;>simp,fun i hi=>?_⟩;have:=hi ⟨.cell a,true,sy⟩ (by simp) rfl a rfl rfl;split
   ·rfl
   ·simp[Array.getElem?_setIfInBounds,this]
  ·exact⟨c,by simp[World.setCell,Array.getElem?_modify,hb,h],rfl,fun _ _=>rfl⟩
theorem Kept.setObj(B:World)(r:Nat)(o o1:Obj)(h0:B.heap[r]?=some o1)(hn:¬∃c e f,o1=.cells c e f)(sy:Bool):Kept #[⟨.obj r,true,sy⟩] B { B with heap:=B.heap.setIfInBounds r o }:=by
 refine⟨rfl,rfl,by simp,fun b hb h1 h2=>?_,fun b c ty fr h=>?_⟩
 ·have:r≠b:=fun e=>h2 ⟨.obj r,true,sy⟩ (by simp) rfl (by rw[e])
  simp[Array.getElem?_setIfInBounds,this]
 ·have:r≠b:=fun e=>by subst e;rw[h0] at h;exact hn ⟨_,_,_,Option.some.inj h⟩
  exact⟨c,by simp[Array.getElem?_setIfInBounds,this,h],rfl,fun _ _=>rfl⟩
structure Alike(P':Program)(C:Cx)(S:Sh){α:Type}(t:Sem α)(Q:α→α→Prop)(A B:World)(es fs:Array Event)(a:α)(A':World)(es':Array Event):Prop where
 drawn:A.drawn≤A'.drawn
 tape:A'.tape=A.tape
 size:A.heap.size≤A'.heap.size
 alike:(∀j,A.drawn+j<A'.drawn→B.tape (B.drawn+j)=A.tape (A.drawn+j)) →
  ∃(b:α)(B':World)(new:Array Event),t.runT P' B fs=(.ok b B',fs++new)∧es'=es++new∧Q a b∧Lk C S A' B' ∧
   B'.tape=B.tape∧B'.drawn=B.drawn+(A'.drawn-A.drawn)∧Kept new B B'∧∀e∈new,EvT S B' e
theorem Alike.step{α:Type}{t t':Sem α}{Q:α→α→Prop}{A B A1 B1 A':World}{es fs es':Array Event}{a:α}(e:Array Event)(c:Nat)(h2:(∀j,j<c→B.tape (B.drawn+j)=A.tape (A.drawn+j))→t.runT P' B fs=t'.runT P' B1 (fs++e))(hd:A1.drawn=A.drawn+c)(hdB:B1.drawn=B.drawn+c)(ht:A1.tape=A.tape)(htB:B1.tape=B.tape)(hkp:Kept e B B1)(hs:A.heap.size≤A1.heap.size)(ev:∀x∈e,EvT S B1 x)(x:Alike P' C S t' Q A1 B1 (es++e) (fs++e) a A' es'):Alike P' C S t Q A B es fs a A' es':=by
 have x1:=x.drawn;have x4:=x.size;refine⟨by omega,x.tape.trans ht,by omega,?_⟩;intro ag;rw[h2 fun j hj=>ag j (by omega)]
 obtain⟨b,B',new,y1,y2,y7,y3,y4,y5,y8,y6⟩:=x.alike fun j hj=>by
  have:=ag (c+j) (by omega);rw[htB,ht,hd,hdB,Nat.add_assoc,Nat.add_assoc];exact this
 refine⟨b,B',e++new,by rw[y1,Array.append_assoc],by rw[y2,Array.append_assoc],y7,y3,y4.trans htB,by rw[y5];omega,hkp.trans y8,fun z hz=>?_⟩
 rcases Array.mem_append.1 hz with hz|hz
 ·exact (ev z hz).mono y8
 ·exact y6 z hz
theorem iH(es:Array Event)(e:Event):es.push e=es++#[e]:=by simp
theorem Hm{α:Type}{s:Sem α}{A:World}{es es':Array Event}(h:(s.runT P A es).2=es'):∀e∈es,e∈es':=by
 intro e he;rw[←h,Sem.runT_eq];show e∈s.events P A es;rw[Sem.events_acc];exact Array.mem_append_left _ he
theorem sw{α:Type}{D:α→Prop}{Q:α→α→Prop}{s t:Sem α}(h:RT P P' C D Q s t):∀(A B:World)(es fs:Array Event)(a:α)(A':World)(es':Array Event),Lk C S A B→s.runT P A es=(.ok a A',es')→(∀e∈es',S.cP e)→D a∨Alike P' C S t Q A B es fs a A' es':=by
 induction h with
 |kD a t hd=>
  intro A B es fs a0 A' es' hl hr hv0;simp only[Sem.runT,Prod.mk.injEq,Result.ok.injEq] at hr;exact .inl (hr.1.1▸hd)
 |pure a b hq=>
  intro A B es fs a0 A' es' hl hr hv0;simp only[Sem.runT,Prod.mk.injEq,Result.ok.injEq] at hr;obtain⟨⟨rfl,rfl⟩,rfl⟩:=hr;exact .inr ⟨Nat.le_refl _,rfl,Nat.le_refl _,fun _=>⟨b,B,#[],by simp[Sem.runT],by simp,hq,hl,rfl,by simp,.refl _ _,by simp⟩⟩
 |bad s t hb=>
  intro A B es fs a0 A' es' hl hr hv0;have:=hb A es hl.np;rw[hr] at this;exact this.elim
 |load a k k' _ ih=>
  intro A B es fs a0 A' es' hl hr hv0
  rcases hx:A.cell? a with _|v
  ·obtain⟨e,he⟩:=hl.far P a (Mode.plain == .atomic);simp[-Sem.runT_eq,Sem.runT,hx,he] at hr
  ·have hp:¬S.part a.block a.off:=hv0 ⟨.cell a,false,false⟩ (by
    simp only[Sem.runT,hx] at hr
    exact Hm (congrArg Prod.snd hr) _ (by simp)) a rfl
   obtain⟨h1,h2,h3⟩:=hl.cell hx hp
   have e1:(Sem.load .plain a k).runT P A es=(k v).runT P A (es++#[⟨.cell a,false,false⟩]):=by rw[←iH];simp only[Sem.runT,hx];rfl
   have e2:(Sem.load .plain a k').runT P' B fs=(k' v).runT P' B (fs++#[⟨.cell a,false,false⟩]):=by rw[←iH];simp only[Sem.runT,h3];rfl
   rw[e1] at hr
   refine (ih v A B _ _ a0 A' es' hl hr hv0).imp id fun x=>.step _ 0 (fun _=>e2) rfl rfl rfl rfl (.refl _ _) (Nat.le_refl _) (fun x hx=>?_) x
   obtain rfl:x=_:=by simpa using hx
   exact .inl ⟨a,false,rfl,AW h3,h1⟩
 |store a v k k' _ ih=>
  intro A B es fs a0 A' es' hl hr hv0;by_cases hv:(∃cs,v=.agg cs)∨∃cs,v=.tuple cs
  ·exfalso
   rcases hv with ⟨cs,rfl⟩|⟨cs,rfl⟩<;>simp[-Sem.runT_eq,Sem.runT] at hr
  rcases hx:A.cell? a with _|u
  ·obtain⟨e,he⟩:=hl.za P a v (Mode.plain == .atomic)
   cases v<;>first|exact absurd (.inl ⟨_,rfl⟩) hv|exact absurd (.inr ⟨_,rfl⟩) hv|(simp[-Sem.runT_eq,Sem.runT,hx,he] at hr)
  ·obtain⟨h1,h2,u2,h3,_⟩:=hl.cell0 hx;have hfr:=hl.frozen a
   rcases hz:A.frozen? a with _|_
   ·have e1:(Sem.store .plain a v k).runT P A es=k.runT P (A.setCell a v) (es++#[⟨.cell a,true,false⟩]):=by
     rw[←iH]
     cases v<;>first|exact absurd (.inl ⟨_,rfl⟩) hv|exact absurd (.inr ⟨_,rfl⟩) hv|(simp only[Sem.runT,hx,hz];rfl)
    have e2:(Sem.store .plain a v k').runT P' B fs=k'.runT P' (B.setCell a v) (fs++#[⟨.cell a,true,false⟩]):=by
     rw[←iH]
     cases v<;>first|exact absurd (.inl ⟨_,rfl⟩) hv|exact absurd (.inr ⟨_,rfl⟩) hv|(simp only[Sem.runT,h3,hfr,hz];rfl)
    rw[e1] at hr
    refine (ih _ _ _ _ a0 A' es' (hl.setCell hx v) hr hv0).imp id fun x=>.step (A1:=A.setCell a v) _ 0 (fun _=>e2) rfl rfl rfl rfl (.setCell _ _ _ _) (by simp[World.setCell]) (fun x hx=>?_) x
    obtain rfl:x=_:=by simpa using hx
    obtain⟨c,ty,fr,hc⟩:=AW h3;exact .inl ⟨a,true,rfl,let ⟨c',h,_⟩:=(Kept.setCell B a v false).cell _ _ _ _ hc;⟨c',_,_,h⟩,h1⟩
   ·exfalso
    cases v<;>first|exact absurd (.inl ⟨_,rfl⟩) hv|exact absurd (.inr ⟨_,rfl⟩) hv|(simp[-Sem.runT_eq,Sem.runT,hx,hz] at hr)
 |new o k k' ho _ ih=>
  intro A B es fs a0 A' es' hl hr hv0
  have e1:(Sem.new o k).runT P A es=(k A.heap.size).runT P { A with heap:=A.heap.push o } (es++#[]):=by simp[-Sem.runT_eq,Sem.runT]
  have e2:(Sem.new o k').runT P' B fs=(k' A.heap.size).runT P' { B with heap:=B.heap.push o } (fs++#[]):=by simp[-Sem.runT_eq,Sem.runT,hl.size]
  rw[e1] at hr
  exact (ih _ _ _ _ _ a0 A' es' (hl.push ho) hr hv0).imp id fun x=>.step (A1:={ A with heap:=A.heap.push o }) #[] 0 (fun _=>e2) rfl rfl rfl rfl (.push _ _) (by simp) (by simp) x
 |l8 o s t k k' ho hs ht _ ih=>
  intro A B es fs a0 A' es' hl hr hv0
  have e1:s.runT P A es=(k A.heap.size).runT P { A with heap:=A.heap.push o } (es++#[]):=by rw[hs,Array.append_empty]
  have e2:t.runT P' B fs=(k' A.heap.size).runT P' { B with heap:=B.heap.push o } (fs++#[]):=by rw[ht,Array.append_empty,hl.size]
  rw[e1] at hr
  exact (ih _ _ _ _ _ a0 A' es' (hl.push ho) hr hv0).imp id fun x=>.step (A1:={ A with heap:=A.heap.push o }) #[] 0 (fun _=>e2) rfl rfl rfl rfl (.push _ _) (by simp) (by simp) x
 |shape r k k' _ _ ih1 ih2=>
  intro A B es fs a0 A' es' hl hr hv0
  have e1:(Sem.shape r k).runT P A es=(k (A.shape? r)).runT P A (es++#[]):=by simp[-Sem.runT_eq,Sem.runT]
  have e2:(Sem.shape r k').runT P' B fs=(k' (B.shape? r)).runT P' B (fs++#[]):=by simp[-Sem.runT_eq,Sem.runT]
  rw[e1] at hr
  rcases hl.shape r with e|⟨e,n,h1,h2⟩
  ·rw[←e] at e2
   exact (ih1 _ _ _ _ _ a0 A' es' hl hr hv0).imp id fun x=>.step #[] 0 (fun _=>e2) rfl rfl rfl rfl (.refl _ _) (Nat.le_refl _) (by simp) x
  ·rw[h1] at hr;rw[h2] at e2
   exact (ih2 _ _ _ _ _ _ a0 A' es' hl hr hv0).imp id fun x=>.step #[] 0 (fun _=>e2) rfl rfl rfl rfl (.refl _ _) (Nat.le_refl _) (by simp) x
 |frozen a k k' _ ih=>
  intro A B es fs a0 A' es' hl hr hv0
  have e1:(Sem.frozen a k).runT P A es=(k (A.frozen? a)).runT P A (es++#[]):=by simp[-Sem.runT_eq,Sem.runT]
  have e2:(Sem.frozen a k').runT P' B fs=(k' (A.frozen? a)).runT P' B (fs++#[]):=by simp[-Sem.runT_eq,Sem.runT,hl.frozen]
  rw[e1] at hr
  exact (ih _ _ _ _ _ a0 A' es' hl hr hv0).imp id fun x=>.step #[] 0 (fun _=>e2) rfl rfl rfl rfl (.refl _ _) (Nat.le_refl _) (by simp) x
 |getObj r k k' _ _ ih1 ih2=>
  intro A B es fs a0 A' es' hl hr hv0;by_cases hS:S.dead r
  ·obtain⟨c,e,fr,h1,_⟩:=hl.dead r hS;simp[-Sem.runT_eq,Sem.runT,h1] at hr
  rcases hx:A.heap[r]? with _|o
  ·simp[-Sem.runT_eq,Sem.runT,hx] at hr
  by_cases hcell:∃c e f,o=.cells c e f
  ·obtain⟨c,e,f,rfl⟩:=hcell;simp[-Sem.runT_eq,Sem.runT,hx] at hr
  have e1:(Sem.getObj r k).runT P A es=(k o).runT P A (es++#[⟨.obj r,false,o.isChan⟩]):=by
   rw[←iH];cases o<;>first|exact absurd ⟨_,_,_,rfl⟩ hcell|(simp only[Sem.runT,hx])
  rw[e1] at hr;have hlt:=(Array.getElem?_eq_some_iff.1 hx).1
  rcases hl.same r hS with ⟨e,ho⟩|⟨o',h1,h2,h3,_⟩|⟨_,_,_,_,h1,_⟩
  ·rw[hx] at e
   have e2:(Sem.getObj r k').runT P' B fs=(k' o).runT P' B (fs++#[⟨.obj r,false,o.isChan⟩]):=by
    rw[←iH];cases o<;>first|exact absurd ⟨_,_,_,rfl⟩ hcell|(simp only[Sem.runT,←e])
   refine (ih1 o (ho o hx) A B _ _ a0 A' es' hl hr hv0).imp id fun x=>.step _ 0 (fun _=>e2) rfl rfl rfl rfl (.refl _ _) (Nat.le_refl _) (fun x hx'=>?_) x
   obtain rfl:x=_:=by simpa using hx'
   exact .inr (.inl ⟨r,false,_,rfl,hl.size▸hlt,hS⟩)
  ·rw[hx] at h3;obtain rfl:=Option.some.inj h3
   have e2:(Sem.getObj r k').runT P' B fs=(k' o').runT P' B (fs++#[⟨.obj r,false,(gn r o').isChan⟩]):=by
    rw[←iH];cases o'<;>first|exact absurd trivial h2|(simp only[Sem.runT,h1];rfl)
   refine (ih2 o' h2 A B _ _ a0 A' es' hl hr hv0).imp id fun x=>.step _ 0 (fun _=>e2) rfl rfl rfl rfl (.refl _ _) (Nat.le_refl _) (fun x hx'=>?_) x
   obtain rfl:x=_:=by simpa using hx'
   exact .inr (.inl ⟨r,false,_,rfl,hl.size▸hlt,hS⟩)
  ·rw[hx] at h1;exact absurd ⟨_,_,_,Option.some.inj h1⟩ hcell
 |setObj r o k k' ho _ ih=>
  intro A B es fs a0 A' es' hl hr hv0;by_cases hS:S.dead r
  ·obtain⟨c,e,fr,h1,_⟩:=hl.dead r hS;simp[-Sem.runT_eq,Sem.runT,h1] at hr
  rcases hx:A.heap[r]? with _|o0
  ·simp[-Sem.runT_eq,Sem.runT,hx] at hr
  by_cases hcell:∃c e f,o0=.cells c e f
  ·obtain⟨c,e,f,rfl⟩:=hcell;simp[-Sem.runT_eq,Sem.runT,hx] at hr
  have hlt:=(Array.getElem?_eq_some_iff.1 hx).1
  have hB:∃o1,B.heap[r]?=some o1∧¬∃c e f,o1=.cells c e f:=by
   rcases hl.same r hS with ⟨e,_⟩|⟨o',h1,h2,h3,_⟩|⟨_,_,_,_,h1,_⟩
   ·exact⟨o0,by rw[←e];exact hx,hcell⟩
   ·refine⟨o',h1,?_⟩
    rintro⟨c,e,f,rfl⟩
    exact h2 trivial
   ·rw[hx] at h1;exact absurd ⟨_,_,_,Option.some.inj h1⟩ hcell
  obtain⟨o1,hB1,hB2⟩:=hB
  have e1:(Sem.setObj r o k).runT P A es=k.runT P { A with heap:=A.heap.setIfInBounds r o } (es++#[⟨.obj r,true,o.isChan⟩]):=by
   rw[←iH];cases o0<;>first|exact absurd ⟨_,_,_,rfl⟩ hcell|(simp only[Sem.runT,hx])
  have e2:(Sem.setObj r o k').runT P' B fs=k'.runT P' { B with heap:=B.heap.setIfInBounds r o } (fs++#[⟨.obj r,true,o.isChan⟩]):=by
   rw[←iH];cases o1<;>first|exact absurd ⟨_,_,_,rfl⟩ hB2|(simp only[Sem.runT,hB1])
  rw[e1] at hr
  refine (ih _ _ _ _ a0 A' es' (hl.set hS ho) hr hv0).imp id fun x=>.step (A1:={ A with heap:=A.heap.setIfInBounds r o }) _ 0 (fun _=>e2) rfl rfl rfl rfl (.setObj _ _ _ _ hB1 hB2 _) (by simp) (fun x hx'=>?_) x
  obtain rfl:x=_:=by simpa using hx'
  exact .inr (.inl ⟨r,true,_,rfl,by simpa[←hl.size] using hlt,hS⟩)
 |choose q k k' _ ih=>
  intro A B es fs a0 A' es' hl hr hv0;by_cases hq:q.forced=true
  ·have e1:(Sem.choose q k).runT P A es=(k 0).runT P A (es++#[]):=by simp[-Sem.runT_eq,Sem.runT,hq]
   have e2:(Sem.choose q k').runT P' B fs=(k' 0).runT P' B (fs++#[]):=by simp[-Sem.runT_eq,Sem.runT,hq]
   rw[e1] at hr
   exact (ih 0 _ _ _ _ a0 A' es' hl hr hv0).imp id fun x=>.step #[] 0 (fun _=>e2) rfl rfl rfl rfl (.refl _ _) (Nat.le_refl _) (by simp) x
  ·have e1:(Sem.choose q k).runT P A es=(k (q.cut (A.tape A.drawn q))).runT P { A with drawn:=A.drawn+1 } (es++#[]):=by simp[-Sem.runT_eq,Sem.runT,hq]
   rw[e1] at hr
   refine (ih _ { A with drawn:=A.drawn+1 } { B with drawn:=B.drawn+1 } (es++#[]) (fs++#[]) a0 A' es' ⟨hl.size,hl.low,hl.same,hl.dead,hl.os,hl.output⟩ hr hv0).imp id fun x=>.step (A1:={ A with drawn:=A.drawn+1 }) #[] 1 (B1:={ B with drawn:=B.drawn+1 }) (fun ag=>?_) rfl rfl rfl rfl (.draw _ _) (Nat.le_refl _) (by simp) x
   have:=ag 0 (by omega);simp only[Nat.add_zero] at this;simp[-Sem.runT_eq,Sem.runT,hq,this]
 |program k k' _ ih=>
  intro A B es fs a0 A' es' hl hr hv0;have x:=ih A B es fs a0 A' es' hl hr hv0
  exact x.imp id fun x=>⟨x.drawn,x.tape,x.size,x.alike⟩
 |mark k k' _ ih=>
  intro A B es fs a0 A' es' hl hr hv0
  have e1:(Sem.mark .noRoom k).runT P A es=k.runT P A (es++#[⟨.mark .noRoom,false,true⟩]):=by rw[←iH];rfl
  have e2:(Sem.mark .noRoom k').runT P' B fs=k'.runT P' B (fs++#[⟨.mark .noRoom,false,true⟩]):=by rw[←iH];rfl
  rw[e1] at hr
  refine (ih _ _ _ _ a0 A' es' hl hr hv0).imp id fun x=>.step _ 0 (fun _=>e2) rfl rfl rfl rfl (.refl _ _) (Nat.le_refl _) (fun x hx=>?_) x
  obtain rfl:x=_:=by simpa using hx
  exact .inr (.inr rfl)
theorem Hn{w:World}(h:NP w){p:Program}{a:Addr}{b:Bool}{e:Halt}(he:w.farLoad p a b=.error e):oP e:=by
 unfold World.farLoad World.noCell at he
 repeat' split at he
 all_goals first|cases he|skip
 all_goals first|trivial|exact absurd ‹w.heap[a.block]?=some (Obj.pending _ _)› (h _ _ _)|skip
theorem Ho{w:World}(h:NP w){p:Program}{a:Addr}{v:Value}{b:Bool}{e:Halt}(he:w.farStore p a v b=.error e):oP e:=by
 unfold World.farStore World.noCell at he
 repeat' split at he
 all_goals first|cases he|skip
 all_goals first|trivial|exact absurd ‹w.heap[a.block]?=some (Obj.pending _ _)› (h _ _ _)|skip
theorem Hq{α:Type}{D:α→Prop}{Q:α→α→Prop}{s t:Sem α}(h:RT P P' C D Q s t):∀(A B:World)(es:Array Event)(x:Halt)(A':World)(es':Array Event),Lk C S A B→s.runT P A es=(.halt x A',es')→oP x∧ND A':=by
 induction h with
 |pure a b hq=>intro A B es x A' es' hl hr;simp[-Sem.runT_eq,Sem.runT] at hr
 |kD a t hd=>intro A B es x A' es' hl hr;simp[-Sem.runT_eq,Sem.runT] at hr
 |bad s t hb=>intro A B es x A' es' hl hr;have:=hb A es hl.np;rw[hr] at this;exact⟨this.1,this.2 hl.nd⟩
 |load a k k' _ ih=>
  intro A B es x A' es' hl hr
  rcases hx:A.cell? a with _|v
  ·obtain⟨e,he⟩:=hl.far P a (Mode.plain == .atomic);simp only[Sem.runT,hx,he,Prod.mk.injEq,Result.halt.injEq] at hr;exact⟨hr.1.1▸Hn hl.np he,hr.1.2▸hl.nd⟩
  ·simp only[Sem.runT,hx] at hr;exact ih v A B _ x A' es' hl hr
 |store a v k k' _ ih=>
  intro A B es x A' es' hl hr;by_cases hv:(∃cs,v=.agg cs)∨∃cs,v=.tuple cs
  ·rcases hv with ⟨cs,rfl⟩|⟨cs,rfl⟩<;>(simp only[Sem.runT,Prod.mk.injEq,Result.halt.injEq] at hr;exact⟨hr.1.1▸trivial,hr.1.2▸hl.nd⟩)
  rcases hx:A.cell? a with _|u
  ·obtain⟨e,he⟩:=hl.za P a v (Mode.plain == .atomic)
   cases v<;>first|exact absurd (.inl ⟨_,rfl⟩) hv|exact absurd (.inr ⟨_,rfl⟩) hv|(simp only[Sem.runT,hx,he,Prod.mk.injEq,Result.halt.injEq] at hr;exact⟨hr.1.1▸Ho hl.np he,hr.1.2▸hl.nd⟩)
  ·rcases hz:A.frozen? a with _|_
   ·have hr':k.runT P (A.setCell a v) (es.push ⟨.cell a,true,Mode.plain == .atomic⟩)=(.halt x A',es'):=by
     cases v<;>first|exact absurd (.inl ⟨_,rfl⟩) hv|exact absurd (.inr ⟨_,rfl⟩) hv|(simp only[Sem.runT,hx,hz] at hr;exact hr)
    exact ih _ _ _ x A' es' (hl.setCell hx v) hr'
   ·cases v<;>first|exact absurd (.inl ⟨_,rfl⟩) hv|exact absurd (.inr ⟨_,rfl⟩) hv|(simp only[Sem.runT,hx,hz,if_true,Prod.mk.injEq,Result.halt.injEq] at hr;exact⟨hr.1.1▸trivial,hr.1.2▸hl.nd⟩)
 |new o k k' ho _ ih=>intro A B es x A' es' hl hr;exact ih _ _ _ _ x A' es' (hl.push ho) hr
 |l8 o s t k k' ho hs ht _ ih=>intro A B es x A' es' hl hr;rw[hs] at hr;exact ih _ _ _ _ x A' es' (hl.push ho) hr
 |shape r k k' _ _ ih1 ih2=>intro A B es x A' es' hl hr;exact ih1 _ A B _ x A' es' hl hr
 |frozen a k k' _ ih=>intro A B es x A' es' hl hr;exact ih _ A B _ x A' es' hl hr
 |getObj r k k' _ _ ih1 ih2=>
  intro A B es x A' es' hl hr
  rcases hx:A.heap[r]? with _|o
  ·simp only[Sem.runT,hx,Prod.mk.injEq,Result.halt.injEq] at hr;exact⟨hr.1.1▸trivial,hr.1.2▸hl.nd⟩
  by_cases hcell:∃c e f,o=.cells c e f
  ·obtain⟨c,e,f,rfl⟩:=hcell;simp only[Sem.runT,hx,Prod.mk.injEq,Result.halt.injEq] at hr;exact⟨hr.1.1▸trivial,hr.1.2▸hl.nd⟩
  have hr':(k o).runT P A (es.push ⟨.obj r,false,o.isChan⟩)=(.halt x A',es'):=by
   cases o<;>first|exact absurd ⟨_,_,_,rfl⟩ hcell|(simp only[Sem.runT,hx] at hr;exact hr)
  have hS:¬S.dead r:=fun hS=>by obtain⟨c,e,fr,h1,_⟩:=hl.dead r hS;rw[hx] at h1;exact hcell ⟨_,_,_,Option.some.inj h1⟩
  rcases hl.same r hS with ⟨_,ho⟩|⟨o',h1,h2,h3,_⟩|⟨_,_,_,_,h1,_⟩
  ·exact ih1 o (ho o hx) A B _ x A' es' hl hr'
  ·rw[hx] at h3;obtain rfl:=Option.some.inj h3;exact ih2 o' h2 A B _ x A' es' hl hr'
  ·rw[hx] at h1;exact absurd ⟨_,_,_,Option.some.inj h1⟩ hcell
 |setObj r o k k' ho _ ih=>
  intro A B es x A' es' hl hr
  rcases hx:A.heap[r]? with _|o0
  ·simp only[Sem.runT,hx,Prod.mk.injEq,Result.halt.injEq] at hr;exact⟨hr.1.1▸trivial,hr.1.2▸hl.nd⟩
  by_cases hcell:∃c e f,o0=.cells c e f
  ·obtain⟨c,e,f,rfl⟩:=hcell;simp only[Sem.runT,hx,Prod.mk.injEq,Result.halt.injEq] at hr;exact⟨hr.1.1▸trivial,hr.1.2▸hl.nd⟩
  have hr':k.runT P { A with heap:=A.heap.setIfInBounds r o } (es.push ⟨.obj r,true,o.isChan⟩)=(.halt x A',es'):=by
   cases o0<;>first|exact absurd ⟨_,_,_,rfl⟩ hcell|(simp only[Sem.runT,hx] at hr;exact hr)
  have hS:¬S.dead r:=fun hS=>by obtain⟨c,e,fr,h1,_⟩:=hl.dead r hS;rw[hx] at h1;exact hcell ⟨_,_,_,Option.some.inj h1⟩
  exact ih _ { B with heap:=B.heap.setIfInBounds r o } _ x A' es' (hl.set hS ho) hr'
 |choose q k k' _ ih=>
  intro A B es x A' es' hl hr;by_cases hq:q.forced=true
  ·simp only[Sem.runT,hq,if_true] at hr;exact ih 0 A B _ x A' es' hl hr
  ·simp only[Sem.runT,hq,if_false] at hr;exact ih _ { A with drawn:=A.drawn+1 } B _ x A' es' ⟨hl.size,hl.low,hl.same,hl.dead,hl.os,hl.output⟩ hr
 |program k k' _ ih=>intro A B es x A' es' hl hr;exact ih A B _ x A' es' hl hr
 |mark k k' _ ih=>intro A B es x A' es' hl hr;exact ih A B _ x A' es' hl hr
theorem uk{α:Type}{D:α→Prop}{Q:α→α→Prop}{s t:Sem α}(h:RT P P' C D Q s t):∀(A B:World)(es:Array Event)(a0:α)(A':World)(es':Array Event),Lk C S A B→s.runT P A es=(.ok a0 A',es')→(D a0∨∃b,Q a0 b)∧∀e∈es',e∈es∨∀g,e.loc≠.mark (.extern g):=by
 have pu:∀{es es':Array Event}{x:Event},(∀g,x.loc≠.mark (.extern g))→(∀e∈es',e∈es.push x∨∀g,e.loc≠.mark (.extern g))→∀e∈es',e∈es∨∀g,e.loc≠.mark (.extern g):=fun hx h e he=>by
  rcases h e he with h|h
  ·rcases Array.mem_push.1 h with h|rfl
   ·exact .inl h
   ·exact .inr hx
  ·exact .inr h
 induction h with
 |pure a b hq=>intro A B es a0 A' es' hl hr;simp only[Sem.runT,Prod.mk.injEq,Result.ok.injEq] at hr;obtain⟨⟨rfl,rfl⟩,rfl⟩:=hr;exact⟨.inr ⟨b,hq⟩,fun e he=>.inl he⟩
 |kD a t hd=>intro A B es a0 A' es' hl hr;simp only[Sem.runT,Prod.mk.injEq,Result.ok.injEq] at hr;obtain⟨⟨rfl,rfl⟩,rfl⟩:=hr;exact⟨.inl hd,fun e he=>.inl he⟩
 |bad s t hb=>intro A B es a0 A' es' hl hr;have:=hb A es hl.np;rw[hr] at this;exact this.elim
 |load a k k' _ ih=>
  intro A B es a0 A' es' hl hr
  rcases hx:A.cell? a with _|v
  ·obtain⟨e,he⟩:=hl.far P a (Mode.plain == .atomic);simp[-Sem.runT_eq,Sem.runT,hx,he] at hr
  ·simp only[Sem.runT,hx] at hr;exact (ih v A B _ a0 A' es' hl hr).imp id (pu (by simp))
 |store a v k k' _ ih=>
  intro A B es a0 A' es' hl hr;by_cases hv:(∃cs,v=.agg cs)∨∃cs,v=.tuple cs
  ·rcases hv with ⟨cs,rfl⟩|⟨cs,rfl⟩<;>(simp[-Sem.runT_eq,Sem.runT] at hr)
  rcases hx:A.cell? a with _|u
  ·obtain⟨e,he⟩:=hl.za P a v (Mode.plain == .atomic)
   cases v<;>first|exact absurd (.inl ⟨_,rfl⟩) hv|exact absurd (.inr ⟨_,rfl⟩) hv|(simp[-Sem.runT_eq,Sem.runT,hx,he] at hr)
  ·rcases hz:A.frozen? a with _|_
   ·have hr':k.runT P (A.setCell a v) (es.push ⟨.cell a,true,Mode.plain == .atomic⟩)=(.ok a0 A',es'):=by
     cases v<;>first|exact absurd (.inl ⟨_,rfl⟩) hv|exact absurd (.inr ⟨_,rfl⟩) hv|(simp only[Sem.runT,hx,hz] at hr;exact hr)
    exact (ih _ _ _ a0 A' es' (hl.setCell hx v) hr').imp id (pu (by simp))
   ·cases v<;>first|exact absurd (.inl ⟨_,rfl⟩) hv|exact absurd (.inr ⟨_,rfl⟩) hv|(simp[-Sem.runT_eq,Sem.runT,hx,hz] at hr)
 |new o k k' ho _ ih=>intro A B es a0 A' es' hl hr;exact ih _ _ _ _ a0 A' es' (hl.push ho) hr
 |l8 o s t k k' ho hs ht _ ih=>intro A B es a0 A' es' hl hr;rw[hs] at hr;exact ih _ _ _ _ a0 A' es' (hl.push ho) hr
 |shape r k k' _ _ ih1 ih2=>intro A B es a0 A' es' hl hr;exact ih1 _ A B _ a0 A' es' hl hr
 |frozen a k k' _ ih=>intro A B es a0 A' es' hl hr;exact ih _ A B _ a0 A' es' hl hr
 |getObj r k k' _ _ ih1 ih2=>
  intro A B es a0 A' es' hl hr
  rcases hx:A.heap[r]? with _|o
  ·simp[-Sem.runT_eq,Sem.runT,hx] at hr
  by_cases hcell:∃c e f,o=.cells c e f
  ·obtain⟨c,e,f,rfl⟩:=hcell;simp[-Sem.runT_eq,Sem.runT,hx] at hr
  have hr':(k o).runT P A (es.push ⟨.obj r,false,o.isChan⟩)=(.ok a0 A',es'):=by
   cases o<;>first|exact absurd ⟨_,_,_,rfl⟩ hcell|(simp only[Sem.runT,hx] at hr;exact hr)
  have hS:¬S.dead r:=fun hS=>by obtain⟨c,e,fr,h1,_⟩:=hl.dead r hS;rw[hx] at h1;exact hcell ⟨_,_,_,Option.some.inj h1⟩
  rcases hl.same r hS with ⟨_,ho⟩|⟨o',h1,h2,h3,_⟩|⟨_,_,_,_,h1,_⟩
  ·exact (ih1 o (ho o hx) A B _ a0 A' es' hl hr').imp id (pu (by simp))
  ·rw[hx] at h3;obtain rfl:=Option.some.inj h3;exact (ih2 o' h2 A B _ a0 A' es' hl hr').imp id (pu (by simp))
  ·rw[hx] at h1;exact absurd ⟨_,_,_,Option.some.inj h1⟩ hcell
 |setObj r o k k' ho _ ih=>
  intro A B es a0 A' es' hl hr
  rcases hx:A.heap[r]? with _|o0
  ·simp[-Sem.runT_eq,Sem.runT,hx] at hr
  by_cases hcell:∃c e f,o0=.cells c e f
  ·obtain⟨c,e,f,rfl⟩:=hcell;simp[-Sem.runT_eq,Sem.runT,hx] at hr
  have hr':k.runT P { A with heap:=A.heap.setIfInBounds r o } (es.push ⟨.obj r,true,o.isChan⟩)=(.ok a0 A',es'):=by
   cases o0<;>first|exact absurd ⟨_,_,_,rfl⟩ hcell|(simp only[Sem.runT,hx] at hr;exact hr)
  have hS:¬S.dead r:=fun hS=>by obtain⟨c,e,fr,h1,_⟩:=hl.dead r hS;rw[hx] at h1;exact hcell ⟨_,_,_,Option.some.inj h1⟩
  exact (ih _ { B with heap:=B.heap.setIfInBounds r o } _ a0 A' es' (hl.set hS ho) hr').imp id (pu (by simp))
 |choose q k k' _ ih=>
  intro A B es a0 A' es' hl hr;by_cases hq:q.forced=true
  ·simp only[Sem.runT,hq,if_true] at hr;exact ih 0 A B _ a0 A' es' hl hr
  ·simp only[Sem.runT,hq,if_false] at hr;exact ih _ { A with drawn:=A.drawn+1 } B _ a0 A' es' ⟨hl.size,hl.low,hl.same,hl.dead,hl.os,hl.output⟩ hr
 |program k k' _ ih=>intro A B es a0 A' es' hl hr;exact ih A B _ a0 A' es' hl hr
 |mark k k' _ ih=>intro A B es a0 A' es' hl hr;exact (ih A B _ a0 A' es' hl hr).imp id (pu (by simp))
end
structure Kin(P P':Program):Prop where
 eq:∃fs,P' = { P with funcs:=fs }
section
variable{P P':Program}{C:Cx}
theorem Kin.info(h:Kin P P')(t:TypeId):P'.info? t=P.info? t:=by obtain⟨fs,rfl⟩:=h.eq;rfl
theorem Kin.underlying(h:Kin P P')(t:TypeId):P'.underlying t=P.underlying t:=by obtain⟨fs,rfl⟩:=h.eq;rfl
theorem Kin.rt(h:Kin P P'):P'.rt=P.rt:=by obtain⟨fs,rfl⟩:=h.eq;rfl
theorem Kin.globals(h:Kin P P'):P'.globals=P.globals:=by obtain⟨fs,rfl⟩:=h.eq;rfl
theorem Kin.depth(h:Kin P P'):P'.depth=P.depth:=by obtain⟨fs,rfl⟩:=h.eq;rfl
abbrev RE(P P':Program)(C:Cx){α:Type}(s t:Sem α):Prop:=RT P P' C (fun _=>False) Eq s t
theorem aC{α:Type}(a:α):RE P P' C (pure a) (pure a):=.pure a a rfl
theorem aG{α β:Type}{s t:Sem α}{f g:α→Sem β}{D:β→Prop}{Q:β→β→Prop}(h:RE P P' C s t)(hf:∀a,RT P P' C D Q (f a) (g a)):RT P P' C D Q (s >>= f) (t >>= g):=
 RT.bind h fun a b e=>by subst e;exact hf a
theorem gb{α β:Type}{s t:Sem α}{f g:α→Sem β}{M:α→α→Prop}{D:β→Prop}{Q:β→β→Prop}(h:RT P P' C (fun _=>False) M s t)(hf:∀a b,M a b→RT P P' C D Q (f a) (g b)):RT P P' C D Q (s >>= f) (t >>= g):=
 RT.bind h hf
theorem AX{α β:Type}{s t:Sem α}(h:RE P P' C s t)(f:α→β):RE P P' C (f <$> s) (f <$> t):=RT.bind h fun a b e=>by subst e;exact .pure _ _ rfl
theorem aN{α:Type}(m:String)(t:Sem α){D:α→Prop}{Q:α→α→Prop}:RT P P' C D Q (stuck m) t:=.halt (h:=.stuck m) trivial _
theorem bJ{α:Type}(u:Unsupported)(t:Sem α){D:α→Prop}{Q:α→α→Prop}(hu:oP (.unsupported u):=by trivial):RT P P' C D Q (unsupported u) t:=.halt hu _
theorem lC{α:Type}(v:Value)(t:Sem α){D:α→Prop}{Q:α→α→Prop}:RT P P' C D Q (goPanic v) t:=.halt (h:=.panic v) trivial _
theorem fK{β:Type}{f g:Program→Sem β}{D:β→Prop}{Q:β→β→Prop}(h:RT P P' C D Q (f P) (g P')):RT P P' C D Q (program >>= f) (program >>= g):=RT.program _ _ h
theorem AY(a:Addr):RE P P' C (load a) (load a):=.load a _ _ fun v=>.pure v v rfl
theorem Hr(a:Addr)(v:Value):RE P P' C (store a v) (store a v):=.store a v _ _ (.pure _ _ rfl)
theorem oe{o:Obj}(h:okO C o):RE P P' C (newObj o) (newObj o):=.new o _ _ h fun r=>.pure r r rfl
theorem gA(q:Question):RE P P' C (choose q) (choose q):=.choose q _ _ fun n=>.pure n n rfl
theorem lD(r:Nat){o:Obj}(h:okO C o):RE P P' C (setObj r o) (setObj r o):=.setObj r o _ _ h (.pure _ _ rfl)
theorem xh(n:Nat):RE P P' C (askRoom n) (askRoom n):=by
 unfold askRoom;split
 ·exact .mark _ _ (.pure _ _ rfl)
 ·exact aC _
variable(h:Kin P P')
include h
theorem jg(t:TypeId):RE P P' C (typeInfo t) (typeInfo t):=by
 refine fK ?_;rw[h.info]
 cases P.info? t with
 |none=>exact aN _ _
 |some i=>exact aC _
theorem cY(t:TypeId):RE P P' C (Go.underlying t) (Go.underlying t):=by
 refine fK ?_;rw[h.underlying]
 cases P.underlying t with
 |none=>exact aN _ _
 |some i=>exact aC _
theorem dW(t:TypeId):RE P P' C (Go.sizeOf t) (Go.sizeOf t):=aG (jg h t) fun i=>aC _
theorem lE(t:TypeId):RE P P' C (zeroValue t) (zeroValue t):=by
 refine aG (jg h t) fun i=>?_
 cases i.zero with
 |none=>exact bJ _ _
 |some v=>exact aC _
theorem AZ(t:TypeId):RE P P' C (isAgg t) (isAgg t):=by
 refine aG (cY h t) fun d=>?_
 cases d<;>exact aC _
omit h in
theorem A7(a:Addr):∀(n i:Nat)(acc:Array Value),RE P P' C (loadCellsFrom a i n acc) (loadCellsFrom a i n acc)
 |0,_,acc=>aC acc
 |n+1,i,acc=>aG (AY _) fun v=>A7 a n (i+1) (acc.push v)
omit h in
theorem A8(a:Addr)(n:Nat):RE P P' C (loadCells a n) (loadCells a n):=A7 a n 0 #[]
omit h in
theorem mT(a:Addr):∀(vs:List Value)(i:Nat),RE P P' C (storeCells a vs i) (storeCells a vs i)
 |[],_=>aC ()
 |v::r,i=>aG (Hr _ v) fun _=>mT a r (i+1)
theorem sA(t:TypeId)(a:Addr):RE P P' C (loadVar t a) (loadVar t a):=by
 refine aG (AZ h t) fun b=>?_
 cases b
 ·exact AY a
 ·exact aG (dW h t) fun n=>aG (A8 a n) fun cs=>aC _
theorem Ht(t:TypeId)(a:Addr)(v:Value):RE P P' C (storeVar t a v) (storeVar t a v):=by
 refine aG (dW h t) fun n=>?_
 split
 ·exact aG (aN _ _) fun _=>mT a _ 0
 ·exact mT a _ 0
omit h in
theorem pK(e:TypeId)(cs:Array Value):RE P P' C (newRow e cs) (newRow e cs):=aG (oe (o:=.cells cs e) trivial) fun r=>aC _
omit h in
theorem sB(e:TypeId)(v:Value):RE P P' C (newVar e v) (newVar e v):=pK e _
theorem A9(t:TypeId):RE P P' C (elemOf t) (elemOf t):=by
 refine aG (cY h t) fun d=>?_
 cases d<;>first|exact aC _|exact aN _ _
theorem jT(t:TypeId)(cs:Array Value)(off:Nat):RE P P' C (part t cs off) (part t cs off):=by
 refine aG (AZ h t) fun b=>?_
 cases b
 ·simp only[Bool.false_eq_true,if_false]
  cases cs[off]? with
  |none=>exact aN _ _
  |some v=>exact aC _
 ·exact aG (dW h t) fun n=>aC _
theorem dX{α:Type}{D:α→Prop}{Q:α→α→Prop}(e:RuntimeError):RT P P' C D Q (runtimePanic e:Sem α) (runtimePanic e):=by
 refine fK ?_;rw[h.rt]
 cases e with
 |bounds x y s c=>exact lC _ _
 |error m=>exact lC _ _
 |plain m=>exact lC _ _
 |nilDeref=>exact lC _ _
 |unhashable t=>exact lC _ _
 |typeAssertion i c a m=>
  refine aG (A9 h _) fun t=>?_
  refine aG ?_ fun r=>lC _ _
  have e2:∀t:TypeId,typeHandle P' t=typeHandle P t:=fun t=>by unfold typeHandle;rw[h.globals]
  simp only[e2];exact sB _ _
 |panicNil=>exact aG (A9 h _) fun t=>aG (sB _ _) fun r=>lC _ _
theorem xi{α:Type}(k:IntKind)(x y:Int)(code:BoundsCode):RE P P' C (boundsPanic k x y code:Sem α) (boundsPanic k x y code):=by
 unfold boundsPanic;split
 ·exact aG (AX (gA _) _) fun s=>dX h _
 ·exact aG (aC _) fun s=>dX h _
omit h in
theorem sD(v:Value):RE P P' C (asIntOf v) (asIntOf v):=by
 unfold asIntOf;split
 ·exact aC _
 ·exact bJ _ _
 ·exact aN _ _
omit h in
theorem pL(v:Value):RE P P' C (asInt v) (asInt v):=aG (sD v) fun x=>aC _
omit h in
theorem sE(v:Value):RE P P' C (asBool v) (asBool v):=by
 unfold asBool;split
 ·exact aC _
 ·exact aN _ _
omit h in
theorem Hu(v:Value):RE P P' C (asAgg v) (asAgg v):=by
 unfold asAgg;split
 ·exact aC _
 ·exact aN _ _
theorem sG(v:Value):RE P P' C (asAddr v) (asAddr v):=by
 unfold asAddr;split
 ·exact aC _
 ·exact dX h _
 ·exact aN _ _
end
section
variable{P P':Program}{C:Cx}
theorem pN{α:Type}{f g:Option (TypeId×Nat)→Sem α}{D:α→Prop}{Q:α→α→Prop}(r:Nat)(h1:∀x,RT P P' C D Q (f x) (g x))(h2:∀e n,RT P P' C D Q (f (some (e,0))) (g (some (e,n)))):RT P P' C D Q (shape r >>= f) (shape r >>= g):=.shape r _ _ h1 h2
theorem jU{α:Type}{f g:Obj→Sem α}{D:α→Prop}{Q:α→α→Prop}(r:Nat)(h1:∀o,okO C o→RT P P' C D Q (f o) (g o))(h2:∀o,¬okO C o→RT P P' C D Q (f (gn r o)) (g o)):RT P P' C D Q (getObj r >>= f) (getObj r >>= g):=.getObj r _ _ h1 h2
theorem Ba(op:BinOp)(k:FloatKind)(x y:Nat):RE P P' C (Op.floatArith op k x y) (Op.floatArith op k x y):=by
 unfold Op.floatArith
 cases op<;>first|exact aG (aN _ _) (fun r=>by cases r<;>first|exact aC _|exact aG (gA _) fun n=>aC _)|exact aG (aC _) (fun r=>by cases r<;>first|exact aC _|exact aG (gA _) fun n=>aC _)
theorem Bb(op:BinOp)(k:FloatKind)(x y:Nat):RE P P' C (Op.floatCmp op k x y) (Op.floatCmp op k x y):=by
 unfold Op.floatCmp
 cases op<;>first|exact aC _|exact aN _ _
theorem xj(op:BinOp)(x y:ByteArray):RE P P' C (Op.stringOp op x y) (Op.stringOp op x y):=by
 unfold Op.stringOp
 cases op<;>first|exact aC _|exact aN _ _|(dsimp only;split<;>first|exact aC _|exact bJ _ _)
theorem Bc(op:BinOp)(k:IntKind)(x y:Int):RE P P' C (Op.intArith op k x y) (Op.intArith op k x y):=by
 unfold Op.intArith
 cases op<;>first|exact aC _|exact aN _ _
theorem Be(op:BinOp)(k:IntKind)(x y:Int):RE P P' C (Op.intBits op k x y) (Op.intBits op k x y):=by
 unfold Op.intBits
 cases op<;>first|exact aC _|exact aN _ _
theorem Hv(op:BinOp)(x y:Int):RE P P' C (Op.intCmp op x y) (Op.intCmp op x y):=by
 unfold Op.intCmp
 cases op<;>first|exact aC _|exact aN _ _
theorem Bf(op:BinOp)(k:FloatKind)(x y:Nat):RE P P' C (Op.Complex.arith op k x y) (Op.Complex.arith op k x y):=
 aG (Ba op k x y) fun v=>by cases v<;>first|exact aC _|exact aN _ _
theorem Bg(op:BinOp)(k:FloatKind)(x y:Nat):RE P P' C (Op.Complex.cmp op k x y) (Op.Complex.cmp op k x y):=
 aG (Bb op k x y) fun v=>sE v
theorem Hw(src:FloatKind)(x:Nat)(dst:FloatKind):RE P P' C (Conv.floatToFloat src x dst) (Conv.floatToFloat src x dst):=by
 unfold Conv.floatToFloat
 repeat' (first|exact aC _|exact aN _ _|exact bJ _ _|exact gA _|refine aG ?_ fun _=>?_|split|dsimp only)
theorem Hx(src:FloatKind)(x:Nat)(dst:FloatKind):RE P P' C (Op.Complex.conv src x dst) (Op.Complex.conv src x dst):=by
 unfold Op.Complex.conv;split
 ·exact aC _
 ·exact aG (Hw _ _ _) fun v=>by cases v<;>first|exact aC _|exact aN _ _
theorem Hy(a b c d:Nat):RE P P' C (Op.Complex.quotient a b c d) (Op.Complex.quotient a b c d):=by
 unfold Op.Complex.quotient Op.Complex.corrected
 repeat' (first|exact aC _|exact Bf _ _ _ _|exact Bg _ _ _ _|refine aG ?_ fun _=>?_|split|dsimp only)
theorem Hz(op:BinOp)(k:FloatKind)(a b c d:Nat):RE P P' C (Op.complexOp op k a b c d) (Op.complexOp op k a b c d):=by
 unfold Op.complexOp Op.Complex.product
 cases op<;>repeat' (first|exact aC _|exact aN _ _|exact Bf _ _ _ _|exact Bg _ _ _ _|exact Hx _ _ _|exact Hy _ _ _ _|refine aG ?_ fun _=>?_|split|dsimp only)
theorem HA(op:UnOp)(x:Value):RE P P' C (Op.unary op x) (Op.unary op x):=by
 unfold Op.unary
 split<;>first|exact Bc _ _ _ _|exact Be _ _ _ _|exact aC _|exact bJ _ _|exact aN _ _
theorem Bh(r:Nat):RT P P' C (fun _=>False) (fun a b=>a.isSome=b.isSome) (viewAt r) (viewAt r):=by
 refine pN r (fun x=>?_) (fun e n=>?_)
 ·cases x with
  |some x=>exact .pure _ _ rfl
  |none=>
   refine jU r (fun o ho=>?_) (fun o ho=>?_)
   ·cases o<;>exact .pure _ _ rfl
   ·cases o<;>first|exact .pure _ _ rfl|exact absurd trivial ho
 ·exact .pure _ _ rfl
theorem HB(a:Addr):RE P P' C (noView a) (noView a):=by
 refine gb (Bh a.block) fun x y e=>?_
 rw[e];split
 ·exact bJ _ _
 ·exact aC _
theorem Bi(r:Nat):RE P P' C (numberAt r) (numberAt r):=by
 refine pN r (fun x=>?_) (fun e n=>?_)
 ·cases x with
  |some x=>exact aC _
  |none=>
   refine jU r (fun o ho=>?_) (fun o ho=>?_)
   ·cases o<;>exact aC _
   ·cases o<;>first|exact aC _|exact absurd trivial ho
 ·exact aC _
theorem xk(n:Addr):RE P P' C (behindNumber n) (behindNumber n):=aG (Bi _) fun x=>aC _
theorem HC(a:Addr)(l:Bool):RE P P' C (asNumber a l) (asNumber a l):=aG (oe (o:=.number a l) trivial) fun x=>aC _
variable(h:Kin P P')
include h
theorem HD(op:BinOp)(k:IntKind)(x y:Int):RE P P' C (Op.intDiv op k x y) (Op.intDiv op k x y):=by
 unfold Op.intDiv;split
 ·exact dX h _
 ·cases op<;>first|exact aC _|exact aN _ _
theorem HF(op:BinOp)(k:IntKind)(x:Int)(k':IntKind)(y:Int):RE P P' C (Op.shift op k x k' y) (Op.shift op k x k' y):=by
 unfold Op.shift;split
 ·exact dX h _
 ·cases op<;>first|exact aC _|exact aN _ _
theorem xl(t:TypeId):P'.cellsOf t=P.cellsOf t:=by obtain⟨fs,rfl⟩:=h.eq;rfl
theorem Bj(t:TypeId):P'.bytesOf t=P.bytesOf t:=by obtain⟨fs,rfl⟩:=h.eq;rfl
theorem Bl(d:Nat)(t:TypeId)(k:Nat):byteOfCell P' d t k=byteOfCell P d t k:=by
 obtain⟨fs,rfl⟩:=h.eq
 induction d generalizing t k with
 |zero=>rfl
 |succ d ih=>simp only[byteOfCell,ih];rfl
theorem gB(a:Addr):RE P P' C (byteOf a) (byteOf a):=by
 unfold byteOf;split
 ·exact aC _
 ·refine fK ?_
  refine aG (HB a) fun _=>?_
  have key:∀(e:TypeId)(n m:Nat),RE P P' C (have s:=P.cellsOf e;if s=0 then (pure 0:Sem Nat) else match byteOfCell P P.depth e (a.off%s) with|some b=>pure (a.off / s*P.bytesOf e+b)|_=>stuck "byteOf: no such cell")
   (have s:=P'.cellsOf e;if s=0 then (pure 0:Sem Nat) else match byteOfCell P' P'.depth e (a.off%s) with|some b=>pure (a.off / s*P'.bytesOf e+b)|_=>stuck "byteOf: no such cell"):=fun e n m=>by
   simp only[xl h,Bj h,Bl h,h.depth];split
   ·exact aC _
   ·split
    ·exact aC _
    ·exact aN _ _
  refine pN _ (fun x=>?_) (fun e n=>?_)
  ·cases x with
   |none=>exact aN _ _
   |some x=>exact key x.1 0 0
  ·exact key e 0 0
end
section
variable{P P':Program}{C:Cx}(h:Kin P P')
include h
theorem HG(d:Nat)(t:TypeId)(k:Nat):cellOfByte P' d t k=cellOfByte P d t k:=by
 obtain⟨fs,rfl⟩:=h.eq
 induction d generalizing t k with
 |zero=>rfl
 |succ d ih=>simp only[cellOfByte,ih];rfl
theorem HH(d:Nat)(t:TypeId)(n k:Nat)(by_:Int):cellAtBytes P' d t n k by_=cellAtBytes P d t n k by_:=by
 unfold cellAtBytes;simp only[xl h,Bj h,Bl h,HG h]
omit h in
theorem HI(d:Nat)(t:TypeId)(k:Nat)(by_:Int):cellAtBytes P d t 0 k by_=none:=by
 unfold cellAtBytes;simp only[bind,Option.bind];split
 ·rfl
 ·split
  ·rfl
  ·dsimp only;split
   ·rfl
   ·rename_i hh;simp at hh;omega
theorem HJ(a:Addr)(c b:Nat):RE P P' C (partAt a c b) (partAt a c b):=by
 unfold partAt
 exact aG (gB h a) fun x=>aG (gB h _) fun y=>aC _
theorem Bn(a:Addr)(f:Field):RE P P' C (fieldPlace a f) (fieldPlace a f):=by
 unfold fieldPlace
 refine aG (dW h _) fun n=>?_
 split
 ·exact HJ h _ _ _
 ·exact aC _
theorem sH(ts:Array TypeId)(t:TypeId)(x len:Value):RE P P' C (Builtin.unsafeAdd_ ts t #[x,len]) (Builtin.unsafeAdd_ ts t #[x,len]):=by
 have key:∀(ptr:Option Addr)(n:Int),RE P P' C (do
  let some a:=ptr|unsupported (.unsafePointer "Add")
  let some (e,cells) ←shape a.block|unsupported (.unsafePointer "Add")
  let p ←program
  match cellAtBytes p p.depth e (cells / p.cellsOf e) a.off n with
  |some off=>pure (Value.pointer (some { a with off }))
  |none=>unsupported (.unsafePointer "Add")) (do
  let some a:=ptr|unsupported (.unsafePointer "Add")
  let some (e,cells) ←shape a.block|unsupported (.unsafePointer "Add")
  let p ←program
  match cellAtBytes p p.depth e (cells / p.cellsOf e) a.off n with
  |some off=>pure (Value.pointer (some { a with off }))
  |none=>unsupported (.unsafePointer "Add")):=fun ptr n=>by
  cases ptr with
  |none=>exact bJ _ _
  |some a=>
   refine pN _ (fun x=>?_) (fun e m=>?_)
   ·cases x with
    |none=>exact bJ _ _
    |some x=>
     refine fK ?_;simp only[xl h,HH h,h.depth];split
     ·exact aC _
     ·exact bJ _ _
   ·refine fK ?_;simp only[Nat.zero_div,HI];exact bJ _ _
 cases x with
 |pointer ptr=>
  show RE P P' C (asInt len >>= _) (asInt len >>= _)
  refine aG (pL _) fun n=>?_
  dsimp only;split
  ·cases ptr with
   |none=>exact bJ _ _
   |some a=>
    refine gb (Bh a.block) fun x y e=>?_
    rw[e];split
    ·exact aG (bJ _ _) fun _=>aC _
    ·exact aC _
  ·split
   ·exact aG (bJ _ _) fun _=>key ptr n
   ·exact key ptr n
 |_=>exact aN _ _
theorem HK(k:IntKind)(a b:Addr):RE P P' C (Op.addrSub k a b) (Op.addrSub k a b):=by
 unfold Op.addrSub Op.twoPlaces
 refine aG (fK ?_) fun x=>aC _
 rw[h.globals];split
 ·exact aG (bJ _ _) fun _=>aG (gB h a) fun x=>aG (gB h b) fun y=>aC _
 ·exact aG (gB h a) fun x=>aG (gB h b) fun y=>aC _
theorem HL(op:BinOp)(a b:Addr):RE P P' C (Op.addrCmp op a b) (Op.addrCmp op a b):=by
 unfold Op.addrCmp Op.twoPlaces
 refine aG (fK ?_) fun x=>?_
 ·rw[h.globals];split
  ·exact aG (bJ _ _) fun _=>aG (gB h a) fun x=>aG (gB h b) fun y=>aC _
  ·exact aG (gB h a) fun x=>aG (gB h b) fun y=>aC _
 ·cases op<;>first|exact aC _|exact bJ _ _
theorem HM(k:IntKind)(a:Addr)(n:Int):RE P P' C (Op.addrMod k a n) (Op.addrMod k a n):=by
 have key:∀e:TypeId,RE P P' C (do
  let align:=(←typeInfo e).align
  if n<1 || n.toNat>align || align%n.toNat != 0 then unsupported .addressObserved
  pure (Value.int k ((←byteOf a)%n.toNat:Nat))) (do
  let align:=(←typeInfo e).align
  if n<1 || n.toNat>align || align%n.toNat != 0 then unsupported .addressObserved
  pure (Value.int k ((←byteOf a)%n.toNat:Nat))):=fun e=>by
  refine aG (jg h e) fun i=>?_
  dsimp only;split
  ·exact aG (bJ _ _) fun _=>aG (gB h a) fun x=>aC _
  ·exact aG (gB h a) fun x=>aC _
 unfold Op.addrMod;refine pN _ (fun x=>?_) (fun e m=>?_)
 ·cases x with
  |none=>exact bJ _ _
  |some x=>exact key x.1
 ·exact key e
theorem Bo(t:TypeId)(x y:Value):RE P P' C (movedNumber t x y) (movedNumber t x y):=by
 unfold movedNumber
 refine aG (cY h t) fun d=>?_
 dsimp only
 repeat' (first|exact bJ _ _|exact sH h _ _ _ _|exact HC _ _|exact xk _|exact aC _|refine aG ?_ fun _=>?_|split|dsimp only)
theorem HN(t:TypeId)(x y:Value):RE P P' C (movedPointer t x y) (movedPointer t x y):=by
 unfold movedPointer;split
 ·refine aG (Bi _) fun z=>?_
  split
  ·exact aG (bJ _ _) fun _=>sH h _ _ _ _
  ·exact sH h _ _ _ _
 ·exact sH h _ _ _ _
end
def ea(P:Program):Nat→TypeId→Bool
 |0,_=>false
 |d+1,t=>match P.underlying t with
  |some (.int _)|some .string|some .bool|some (.slice _)=>true
  |some (.array _ e)=>ea P d e
  |_=>false
section
variable{P P':Program}{C:Cx}
theorem Bp{β γ:Type}(f g:γ→β→Sem (ForInStep β))(hf:∀a b,RE P P' C (f a b) (g a b)):∀(l:List γ)(b:β),RE P P' C (forIn l b f) (forIn l b g)
 |[],b=>by simp only[List.forIn_nil];exact aC _
 |a::l,b=>by
  simp only[List.forIn_cons]
  refine aG (hf a b) fun r=>?_
  cases r with
  |done b=>exact aC _
  |yield b=>exact Bp f g hf l b
theorem xm{β:Type}(f g:Nat→β→Sem (ForInStep β))(hf:∀a b,RE P P' C (f a b) (g a b))(r:Std.Legacy.Range)(b:β):RE P P' C (forIn r b f) (forIn r b g):=by
 simp only[Std.Legacy.Range.forIn_eq_forIn_range'];exact Bp f g hf _ b
variable(h:Kin P P')
include h
theorem gC{α:Type}{f g:TypeDesc→Sem α}{D:α→Prop}{Q:α→α→Prop}{t:TypeId}{td:TypeDesc}(e:P.underlying t=some td)(hf:RT P P' C D Q (f td) (g td)):RT P P' C D Q (Go.underlying t >>= f) (Go.underlying t >>= g):=by
 refine gb (M:=fun a b=>a=td∧b=td) ?_ (fun a b hab=>by rw[hab.1,hab.2];exact hf);refine fK ?_;rw[h.underlying,e];exact .pure _ _ ⟨rfl,rfl⟩
theorem xn(d:Nat):∀(t:TypeId),ea P d t=true→∀(n:Nat)(x y:Value),RE P P' C (Op.equalIn n t x y) (Op.equalIn n t x y):=by
 induction d with
 |zero=>intro t ht;cases ht
 |succ d ih=>
  intro t ht n x y
  cases n with
  |zero=>exact bJ _ _
  |succ n=>
   unfold ea at ht;unfold Op.equalIn
   rcases hu:P.underlying t with _|td
   ·rw[hu] at ht;cases ht
   rw[hu] at ht;refine gC h hu ?_
   cases td with
   |int k=>
    dsimp only
    repeat' (first|contradiction|exact aC _|exact aN _ _|exact bJ _ _|exact xk _|exact gB h _|exact jg h _|(refine fK ?_;rw[h.globals])|refine aG ?_ fun _=>?_|split|dsimp only)
   |string=>
    dsimp only
    repeat' (first|contradiction|exact aC _|exact aN _ _|split)
   |bool=>
    dsimp only
    repeat' (first|contradiction|exact aC _|exact aN _ _|split)
   |slice e=>
    dsimp only
    repeat' (first|contradiction|exact aC _|exact aN _ _|split)
   |array len e=>
    have hx:=ih e ht n
    cases x<;>first|exact aN _ _|skip
    cases y<;>first|exact aN _ _|skip
    dsimp only
    refine aG (dW h _) fun z=>?_
    refine aG (xm _ _ (fun _ _=>?_) _ _) fun _=>?_
    ·repeat' (first|exact aC _|exact hx _ _|exact jT h _ _ _|refine aG ?_ fun _=>?_|split|dsimp only)
    ·repeat' (first|exact aC _|split|dsimp only)
   |_=>cases ht
theorem Bq(d:Nat):∀(t:TypeId),ea P d t=true→∀(n:Nat)(x y:Value),RE P P' C (Op.eqGuardIn n t x y) (Op.eqGuardIn n t x y):=by
 induction d with
 |zero=>intro t ht;cases ht
 |succ d ih=>
  intro t ht n x y
  cases n with
  |zero=>exact bJ _ _
  |succ n=>
   unfold ea at ht;unfold Op.eqGuardIn
   rcases hu:P.underlying t with _|td
   ·rw[hu] at ht;cases ht
   rw[hu] at ht;refine gC h hu ?_
   cases td with
   |int k=>exact aC _
   |string=>exact aC _
   |bool=>exact aC _
   |slice e=>exact aC _
   |array len e=>
    have hx:=ih e ht n
    cases x<;>first|exact aC _|skip
    cases y<;>first|exact aC _|skip
    dsimp only
    refine aG (dW h _) fun z=>?_
    refine aG (xm _ _ (fun _ _=>?_) _ _) fun _=>?_
    ·repeat' (first|exact aC _|exact hx _ _|exact jT h _ _ _|refine aG ?_ fun _=>?_|split|dsimp only)
    ·repeat' (first|exact aC _|split|dsimp only)
   |_=>cases ht
theorem HO:∀(n:Nat)(t u:TypeId),P'.alikeButTags n t u=P.alikeButTags n t u:=by
 obtain⟨fs,rfl⟩:=h.eq;intro n
 induction n with
 |zero=>intro t u;rfl
 |succ n ih=>intro t u;simp only[Program.alikeButTags,ih]
theorem HP(t:TypeId):P'.stoodInHeld t=P.stoodInHeld t:=by
 have e:=HO h;obtain⟨fs,rfl⟩:=h.eq;unfold Program.stoodInHeld Program.stoodInAs;simp only[e];rfl
omit h in
theorem xo{β γ:Type}(f g:γ→β→Sem (ForInStep β)):∀(l:List γ)(b:β),(∀a,a∈l→∀b,RE P P' C (f a b) (g a b))→RE P P' C (forIn l b f) (forIn l b g)
 |[],b,_=>by simp only[List.forIn_nil];exact aC _
 |a::l,b,hf=>by
  simp only[List.forIn_cons]
  refine aG (hf a (List.mem_cons_self ..) b) fun r=>?_
  cases r with
  |done b=>exact aC _
  |yield b=>exact xo f g l b fun a ha=>hf a (List.mem_cons_of_mem _ ha)
def jy(P:Program)(t:TypeId):Bool:=ea P 10 t || match P.underlying t with|some (.struct fs)=>fs.toList.all fun f=>ea P 10 f.type|_=>false
theorem HQ(t:TypeId)(ht:jy P t=true)(n:Nat)(x y:Value):RE P P' C (Op.equalIn n t x y) (Op.equalIn n t x y):=by
 unfold jy at ht;rw[Bool.or_eq_true] at ht
 rcases ht with ht|ht
 ·exact xn h 10 t ht n x y
 cases n with
 |zero=>exact bJ _ _
 |succ n=>
  unfold Op.equalIn
  rcases hu:P.underlying t with _|td
  ·rw[hu] at ht;cases ht
  rw[hu] at ht;refine gC h hu ?_
  cases td with
  |struct fs=>
   have ht:∀f,f∈fs.toList→ea P 10 f.type=true:=List.all_eq_true.1 ht
   cases x<;>first|exact aN _ _|skip
   cases y<;>first|exact aN _ _|skip
   dsimp only;refine fK ?_;rw[HP h];split
   all_goals try refine aG (bJ _ _) fun _=>?_
   all_goals
    rw[←Array.forIn_toList]
    refine aG (xo _ _ _ _ fun f hf _=>?_) fun _=>?_
    ·have hx:=xn (P':=P') (C:=C) h 10 _ (ht f hf) n
     repeat' (first|exact aC _|exact hx _ _|exact jT h _ _ _|refine aG ?_ fun _=>?_|split|dsimp only)
    ·split<;>exact aC _
  |_=>cases ht
theorem Br(t:TypeId)(ht:jy P t=true)(n:Nat)(x y:Value):RE P P' C (Op.eqGuardIn n t x y) (Op.eqGuardIn n t x y):=by
 unfold jy at ht;rw[Bool.or_eq_true] at ht
 rcases ht with ht|ht
 ·exact Bq h 10 t ht n x y
 cases n with
 |zero=>exact bJ _ _
 |succ n=>
  unfold Op.eqGuardIn
  rcases hu:P.underlying t with _|td
  ·rw[hu] at ht;cases ht
  rw[hu] at ht;refine gC h hu ?_
  cases td with
  |struct fs=>
   have ht:∀f,f∈fs.toList→ea P 10 f.type=true:=List.all_eq_true.1 ht
   cases x<;>first|exact aC _|skip
   cases y<;>first|exact aC _|skip
   dsimp only
   all_goals
    rw[←Array.forIn_toList]
    refine aG (xo _ _ _ _ fun f hf _=>?_) fun _=>?_
    ·have hx:=Bq (P':=P') (C:=C) h 10 _ (ht f hf) n
     repeat' (first|exact aC _|exact hx _ _|exact jT h _ _ _|refine aG ?_ fun _=>?_|split|dsimp only)
    ·split<;>exact aC _
  |_=>cases ht
theorem HT(d:Nat)(t:TypeId):P'.eqGuardType d t=P.eqGuardType d t:=by
 obtain⟨fs,rfl⟩:=h.eq
 induction d generalizing t with
 |zero=>rfl
 |succ d ih=>simp only[Program.eqGuardType,ih];rfl
theorem HU{op:BinOp}{t:TypeId}(x y:Operand)(a b:Value)(hp:op=.eql∨op=.neq→jy P t=true):RE P P' C (eqGuard op t x y a b) (eqGuard op t x y a b):=by
 unfold eqGuard
 have key:jy P t=true→RE P P' C (do
  match a,b with
  |.nilIface,.nilIface=>
   if (x matches .const _) || (y matches .const _) then return
   if ←Op.eqGuardIn Op.maxDepth t a b then unsupported (.noEntry "binop/eql: two nil values of an interface type with methods, neither of them the literal nil")
  |.agg _,.agg _=>
   if !(←program).eqGuardType (←program).depth t then return
   if ←Op.eqGuardIn Op.maxDepth t a b then unsupported (.noEntry "binop/eql: two nil values of an interface type with methods, in a part of a struct or an array")
  |_,_=>pure ()) (do
  match a,b with
  |.nilIface,.nilIface=>
   if (x matches .const _) || (y matches .const _) then return
   if ←Op.eqGuardIn Op.maxDepth t a b then unsupported (.noEntry "binop/eql: two nil values of an interface type with methods, neither of them the literal nil")
  |.agg _,.agg _=>
   if !(←program).eqGuardType (←program).depth t then return
   if ←Op.eqGuardIn Op.maxDepth t a b then unsupported (.noEntry "binop/eql: two nil values of an interface type with methods, in a part of a struct or an array")
  |_,_=>pure ()):=fun hx=>by
  skip
  split
  ·repeat' (first|exact aC _|exact bJ _ _|exact Br h t hx _ _ _|refine aG ?_ fun _=>?_|split|dsimp only)
  ·refine fK (fK ?_);rw[HT h,h.depth]
   repeat' (first|exact aC _|exact bJ _ _|exact Br h t hx _ _ _|refine aG ?_ fun _=>?_|split|dsimp only)
  ·exact aC _
 cases op with
 |eql=>exact key (hp (.inl rfl))
 |neq=>exact key (hp (.inr rfl))
 |_=>exact aC _
theorem HV{op:BinOp}{t:TypeId}(a b:Value)(hp:op=.eql∨op=.neq→jy P t=true):RE P P' C (binOp op t a b) (binOp op t a b):=by
 unfold binOp
 split<;>first
  |exact HF h _ _ _ _ _
  |exact xj _ _ _
  |exact Bo h _ _ _
  |exact bJ _ _
  |exact aN _ _
  |exact aG (HQ h t (hp (by simp)) _ _ _) fun _=>aC _
  |(repeat' (first|contradiction|exact aC _|exact aN _ _|exact bJ _ _|exact Bc _ _ _ _|exact HD h _ _ _ _|exact Be _ _ _ _|exact Hv _ _ _|exact Ba _ _ _ _|exact Bb _ _ _ _|exact Hz _ _ _ _ _ _|exact xk _|exact HK h _ _ _|exact HL h _ _ _|exact HM h _ _ _|exact cY h _|exact Bo h _ _ _|exact HN h _ _ _|refine aG ?_ fun _=>?_|split|dsimp only))
end
section
variable{P P':Program}{C:Cx}(h:Kin P P')
include h
omit h in
theorem Bs{α β:Type}(f:α→Sem β)(hf:∀a,RE P P' C (f a) (f a))(l:Array α):RE P P' C (l.mapM f) (l.mapM f):=by
 rw[Array.mapM_eq_mapM_toList];refine AX ?_ _
 induction l.toList with
 |nil=>rw[List.mapM_nil];exact aC _
 |cons a l ih=>rw[List.mapM_cons];exact aG (hf a) fun b=>aG ih fun bs=>aC _
theorem HW(t:TypeId)(v:Value):RE P P' C (Instr.alloc t true v) (Instr.alloc t true v):=by
 unfold Instr.alloc
 refine aG (lE h t) fun z=>?_
 dsimp only
 exact aG (sB _ _) fun a=>aC _
omit h in
theorem HX(t:TypeId)(v:Value):RE P P' C (Instr.box t v) (Instr.box t v):=aG (sB _ _) fun a=>aC _
theorem HY(t:TypeId)(ps:Array (Nat×Value)):RE P P' C (Instr.build t ps) (Instr.build t ps):=by
 unfold Instr.build
 repeat' (first|exact aC _|exact aN _ _|exact lE h _|exact cY h _|exact dW h _|exact Bs _ (fun f=>aG (dW h _) fun n=>aC _) _|refine aG ?_ fun _=>?_|split|dsimp only)
theorem HZ(t:TypeId)(n:Nat)(ps:Array (Nat×Value)):RE P P' C (Instr.buildSlice t n ps) (Instr.buildSlice t n ps):=by
 unfold Instr.buildSlice
 repeat' (first|exact aC _|exact aN _ _|exact bJ _ _|exact lE h _|exact cY h _|exact dW h _|exact pK _ _|refine aG ?_ fun _=>?_|split|dsimp only)
omit h in
theorem pO(v:Value):RE P P' C (Instr.sureAddr v) (Instr.sureAddr v):=by
 unfold Instr.sureAddr;split
 ·exact aC _
 ·exact aN _ _
theorem H0(t:TypeId)(v:Value):RE P P' C (Instr.loadAt t v) (Instr.loadAt t v):=aG (pO v) fun a=>sA h t a
theorem H2(t:TypeId)(v x:Value):RE P P' C (Instr.storeAt t v x) (Instr.storeAt t v x):=aG (pO v) fun a=>Ht h t a x
theorem H3(s:TypeId)(v:Value)(k:Nat):RE P P' C (Instr.fieldAt s v k) (Instr.fieldAt s v k):=by
 unfold Instr.fieldAt
 repeat' (first|exact aC _|exact aN _ _|exact cY h _|exact pO _|exact Bn h _ _|refine aG ?_ fun _=>?_|split|dsimp only)
theorem H5(t:TypeId)(x i:Value):RE P P' C (Instr.indexAt t x i) (Instr.indexAt t x i):=by
 unfold Instr.indexAt
 repeat' (first|exact aC _|exact aN _ _|exact bJ _ _|exact cY h _|exact pO _|exact dW h _|exact sD _|exact xi h _ _ _ _|refine aG ?_ fun _=>?_|split|dsimp only)
theorem H6(t:TypeId)(x i:Value):RE P P' C (Instr.index t x i) (Instr.index t x i):=by
 unfold Instr.index
 repeat' (first|exact aC _|exact aN _ _|exact bJ _ _|exact cY h _|exact jT h _ _ _|exact dW h _|exact sD _|exact xi h _ _ _ _|refine aG ?_ fun _=>?_|split|dsimp only)
omit h in
theorem H7(x:Value)(i:Nat):RE P P' C (Instr.extract x i) (Instr.extract x i):=by
 unfold Instr.extract
 repeat' (first|exact aC _|exact aN _ _|split)
theorem H8(t:TypeId)(x:Value)(i:Nat):RE P P' C (Instr.field t x i) (Instr.field t x i):=by
 unfold Instr.field
 repeat' (first|exact aC _|exact aN _ _|exact cY h _|exact jT h _ _ _|exact Hu _|refine aG ?_ fun _=>?_|split|dsimp only)
theorem H9(t:TypeId)(x:Value):RE P P' C (Instr.makeInterface t x) (Instr.makeInterface t x):=by
 unfold Instr.makeInterface
 repeat' (first|exact aC _|exact aN _ _|exact cY h _|refine aG ?_ fun _=>?_|split|dsimp only)
theorem Ia(t:TypeId)(r:Option Value):RE P P' C (Instr.makeMap t r) (Instr.makeMap t r):=by
 unfold Instr.makeMap
 repeat' (first|exact aC _|exact aN _ _|exact cY h _|exact pL _|exact oe (o:=.map #[] 0) trivial|refine aG ?_ fun _=>?_|split|dsimp only)
theorem Ib(t:TypeId)(x y:Value):RE P P' C (Instr.makeSlice t x y) (Instr.makeSlice t x y):=by
 unfold Instr.makeSlice
 repeat' (first|exact aC _|exact aN _ _|exact cY h _|exact pL _|exact jg h _|exact dW h _|exact lE h _|exact pK _ _|exact xh _|exact dX h _|exact gA _|refine aG ?_ fun _=>?_|split|dsimp only)
theorem Ic(x:Value)(y:Nat)(c:BoundsCode):RE P P' C (Instr.sliceBound x y c) (Instr.sliceBound x y c):=by
 unfold Instr.sliceBound
 repeat' (first|exact aC _|exact sD _|exact xi h _ _ _ _|refine aG ?_ fun _=>?_|split|dsimp only)
theorem Bt(b:Bool)(n c:Nat)(x y z:Option Value):RE P P' C (Instr.sliceBounds b n c x y z) (Instr.sliceBounds b n c x y z):=by
 unfold Instr.sliceBounds
 repeat' (first|exact aC _|exact aN _ _|exact Ic h _ _ _|refine aG ?_ fun _=>?_|split|dsimp only)
theorem Ie(t:TypeId)(x:Value)(a b c:Option Value):RE P P' C (Instr.slice t x a b c) (Instr.slice t x a b c):=by
 unfold Instr.slice
 repeat' (first|exact aC _|exact aN _ _|exact cY h _|exact Bt h _ _ _ _ _ _|exact dW h _|exact sG h _|refine aG ?_ fun _=>?_|split|dsimp only)
theorem Ig(t:TypeId)(x:Value)(a b c:Option Value):RE P P' C (Instr.sliceAt t x a b c) (Instr.sliceAt t x a b c):=by
 unfold Instr.sliceAt
 repeat' (first|exact aC _|exact aN _ _|exact cY h _|exact Bt h _ _ _ _ _ _|exact dW h _|exact pO _|exact Ie h _ _ _ _ _|refine aG ?_ fun _=>?_|split|dsimp only)
end
end Go.Fc
