/- Lemmas. -/
import Derived.Test.YthpkmilhiganjaaGreatPMc
import Derived.Test.YthpkmilhiganjaaGreatPLc
import Derived.Test.YthpkmilhiganjaaGreatPMd
import Derived.Conc.CompanyWords
set_option linter.unusedSimpArgs false
set_option linter.unusedVariables false
set_option linter.unusedSectionVars false
set_option maxHeartbeats 32000000
set_option maxRecDepth 100000
namespace Go.Fi
open Go Go.RowKit
section
variable[EnvD]
variable{P:Program}{r:Option Nat}{Q:Exit→Act→World→Prop}{ops:Array Oper}
def ir(r:Option Nat)(P:Program)(ops:Array Oper)(c:Nat)(Q:Exit→Act→World→Prop)(Inv:Array Bool→Act→World→Prop)(i:Nat)(o:Oper):Prop:=
 ∀(L:Array Bool)(a:Act)(w:World),Inv L a w→L[i]?=some false→(∀e∈o.after,Region.binds .any e=true→L.getD e.on false=true)→Closed ops L →
  ∀(rest:List Nat)(N:Nat),(∀a' w',Inv (L.setIfInBounds i true) a' w'→bz r P ops rest N Q a' w')→bz r P ops (i::rest) (N+c) Q a w
theorem G7(c:Nat)(Inv:Array Bool→Act→World→Prop)(hdown:∀(i:Nat)(o:Oper),ops[i]?=some o→∀e∈o.after,Region.binds .any e=true→e.on<i)(fin:∀L a w,(∀j,j<ops.size→L.getD j false=true)→Inv L a w→Q .normal a w)(step:∀(i:Nat)(o:Oper),ops[i]?=some o→ir r P ops c Q Inv i o):∀(fuel t:Nat)(L:Array Bool)(a:Act)(w:World),L.size=ops.size→Closed ops L→open_ L≤fuel→Inv L a w→bz r P ops (Region.linearise.go .any ops fuel t L []) (fuel*c+1) Q a w:=by
 intro fuel
 induction fuel with
 |zero=>
  intro t L a w hsz hc ho hi;exact lj (eo (fin L a w (fun j hj=>mN (by omega) (by omega)) hi)) (by omega)
 |succ fuel ih=>
  intro t L a w hsz hc ho hi;simp only[Region.linearise.go]
  change bz r P ops (match (Region.ready .any ops L)[t%(Region.ready .any ops L).length]? with
   |some i=>Region.linearise.go .any ops fuel (t / (Region.ready .any ops L).length) (L.setIfInBounds i true) [i]
   |none=>[].reverse) _ Q a w
  cases hx:(Region.ready .any ops L)[t%(Region.ready .any ops L).length]? with
  |none=>
   have hnil:Region.ready .any ops L=[]:=by
    cases hr:Region.ready .any ops L with
    |nil=>rfl
    |cons x xs=>
     rw[hr] at hx;have hlt:t%(x::xs).length<(x::xs).length:=Nat.mod_lt _ (by simp);simp at hx;simp at hlt;omega
   refine lj (eo (fin L a w (fun j hj=>?_) hi)) (by omega)
   cases hl:L.getD j false with
   |true=>rfl
   |false=>exact absurd hnil (nW hsz hdown j hj hl)
  |some i=>
   simp only[];rw[linearise_go_acc,List.reverse_singleton,List.singleton_append];obtain⟨o,ho1,hl,he⟩:=jQ hsz (List.mem_of_getElem? hx)
   have:=step i o ho1 L a w hi hl he hc (Region.linearise.go .any ops fuel (t / (Region.ready .any ops L).length) (L.setIfInBounds i true) []) (fuel*c+1) fun a' w' hi'=>
    ih _ _ a' w' (by simpa using hsz) (hc.set ho1 he) (by have:=mM hl;omega) hi'
   rw[show (fuel+1)*c+1=fuel*c+1+c by rw[Nat.add_mul];omega];exact this
theorem AH(hm:P.follows .mixedOrders=true){id:Nat}(c:Nat)(Inv:Array Bool→Act→World→Prop){a:Act}{w:World}(hdown:∀(i:Nat)(o:Oper),ops[i]?=some o→∀e∈o.after,Region.binds .any e=true→e.on<i)(h0:∀w1,EnvD.E w w1→Inv (Array.replicate ops.size false) a { w1 with drawn:=w1.drawn+1 })(fin:∀L a w,(∀j,j<ops.size→L.getD j false=true)→Inv L a w→Q .normal a w)(step:∀(i:Nat)(o:Oper),ops[i]?=some o→ir r P ops c Q Inv i o):(Code.region id ops true).wpN r P (ops.size*c+1+1) Q a w:=by
 refine FY fun w1 e t=>?_
 simp only[Region.schedule,hm,Bool.true_or,if_true];refine G7 c Inv hdown fin step ops.size _ _ a _ (by simp) (fun i o ho hl=>?_) ?_ (h0 w1 e)
 ·have:(Array.replicate ops.size false).getD i false=false:=by
   rw[Array.getD_eq_getD_getElem?];simp[Array.getElem?_replicate]
   split<;>rfl
  rw[this] at hl;cases hl
 ·unfold open_;have:(Array.replicate ops.size false).toList.countP (fun b=>!b)≤(Array.replicate ops.size false).toList.length:=List.countP_le_length;simpa using this
end
def EvD(lo F k:Nat)(e:Event):Prop:=(∃a,e.loc=.cell a∧(a.block=F→a.off=k)∧(e.write=true→lo≤a.block∨a.block=F))∨∃m,e.loc=.mark m
@[reducible] def a7(lo F k:Nat):EnvD where
 E w w':=Bel w.heap.size w w'
 ext h:=h
 xt _ _ _ _:=False
 D _ es:=∀e∈es,EvD lo F k e
 nil _:=by simp
section
variable{lo F k:Nat}
theorem gz{a:Addr}{sy:Bool}(h:a.block≠F):EvD lo F k ⟨.cell a,false,sy⟩:=.inl ⟨a,rfl,fun e=>absurd e h,fun e=>by cases e⟩
theorem mP{a:Addr}{sy:Bool}(h:a.block=F→a.off=k):EvD lo F k ⟨.cell a,false,sy⟩:=.inl ⟨a,rfl,h,fun e=>by cases e⟩
theorem vX{a:Addr}{wr sy:Bool}(h:lo≤a.block)(h2:a.block≠F):EvD lo F k ⟨.cell a,wr,sy⟩:=.inl ⟨a,rfl,fun e=>absurd e h2,fun _=>.inl h⟩
theorem G8{a:Addr}{wr sy:Bool}(h:a.block=F)(h2:a.off=k):EvD lo F k ⟨.cell a,wr,sy⟩:=.inl ⟨a,rfl,fun _=>h2,fun _=>.inr h⟩
theorem _root_.Go.Fi.Bel.cellAt{w w1:World}(h:Bel w.heap.size w w1){a:Addr}{v:Value}(hc:w.cell? a=some v):w1.cell? a=some v:=by
 rw[h.cell (p:=a) ?_];exact hc;unfold World.cell? at hc
 rcases hx:w.heap[a.block]? with _|o
 ·rw[hx] at hc;cases hc
 ·exact (Array.getElem?_eq_some_iff.1 hx).1
theorem lq{a b c:World}(h:Bel a.heap.size a b)(k:Bel b.heap.size b c):Bel a.heap.size a c:=h.trans (k.mono h.size)
theorem pE(w:World)(cs:Array Value)(t:TypeId)(i:Nat):(w.alloc (.cells cs t)).cell? ⟨w.heap.size,i,none⟩=cs[i]?:=by
 have h:(w.alloc (.cells cs t)).heap[w.heap.size]?=some (.cells cs t):=by show (w.heap.push _)[w.heap.size]?=_;simp
 unfold World.cell?;rw[h];rfl
theorem G9{T:Array Value}{n:Nat}(h:T.size=n):T=((List.range n).map fun i=>T[i]?.getD undef).toArray:=by
 apply Array.ext (by simp[h]);intro i h1 h2;simp[h1]
end
section
variable[EnvD]
variable{P:Program}{r:Option Nat}{Q:Exit→Act→World→Prop}{ops:Array Oper}
structure dZ(W:World→Prop)(nt:Nat)(ds:List Deferred)(ops:Array Oper)(base qs:Nat→Prop)(B V:Nat→Value)(L:Array Bool)(a:Act)(w:World):Prop where
 world:W w
 size:a.tmps.size=nt
 defers:a.defers=ds
 base:∀t,base t→a.tmps[t]?.getD undef=B t
 run:∀i o t,ops[i]?=some o→o.dst=some t→qs i→L.getD i false=true→a.tmps[t]?.getD undef=V t
variable{W:World→Prop}{nt:Nat}{ds:List Deferred}{base qs:Nat→Prop}{B V:Nat→Value}
omit [EnvD] in
theorem gX{a:Act}{t u:Nat}{v:Value}(ht:t<a.tmps.size):(a.put (some t) v).tmps[u]?.getD undef=if t=u then v else a.tmps[u]?.getD undef:=by
 simp only[Act.put,Array.getElem?_setIfInBounds];split
 ·simp[ht]
 ·rfl
omit [EnvD] in
theorem rW{a:Act}{d:Option Nat}{v:Value}:(a.put d v).tmps.size=a.tmps.size:=by cases d<;>simp[Act.put]
omit [EnvD] in
theorem rX{a:Act}{d:Option Nat}{v:Value}:(a.put d v).defers=a.defers:=by cases d<;>simp[Act.put]
theorem dZ.put{L:Array Bool}{a:Act}{w w':World}(h:dZ W nt ds ops base qs B V L a w)(hW:W w'){i:Nat}{o:Oper}{t:Nat}{v:Value}(hi:ops[i]?=some o)(hl:L[i]?=some false)(hdst:o.dst=some t)(ht:t<nt)(hb:¬base t)(hu:∀j o',ops[j]?=some o'→o'.dst=some t→j=i)(hv:qs i→v=V t):dZ W nt ds ops base qs B V (L.setIfInBounds i true) (a.put (some t) v) w':=by
 refine⟨hW,rW.trans h.size,rX.trans h.defers,fun u hbu=>?_,fun j o' u hj hd hq hL=>?_⟩
 ·have hne:t≠u:=fun e=>hb (by rw[e];exact hbu)
  rw[gX (by rw[h.size];exact ht),if_neg hne];exact h.base u hbu
 ·rw[gX (by rw[h.size];exact ht)];split
  ·rename_i e;subst e;obtain rfl:=hu j o' hj hd;exact hv hq
  ·rename_i e;refine h.run j o' u hj hd hq ?_
   have hne:i≠j:=fun e'=>by
    subst e';rw[hi] at hj;cases hj;rw[hdst] at hd;cases hd;exact e rfl
   rwa [getD_set_ne false hne] at hL
theorem dZ.Ex{L:Array Bool}{a:Act}{w w':World}(h:dZ W nt ds ops base qs B V L a w)(hW:W w'){i:Nat}{o:Oper}{v:Value}(hi:ops[i]?=some o)(hdst:o.dst=none):dZ W nt ds ops base qs B V (L.setIfInBounds i true) (a.put none v) w':=by
 refine⟨hW,h.size,h.defers,h.base,fun j o' u hj hd hq hL=>?_⟩
 have hne:i≠j:=fun e'=>by
  subst e';rw[hi] at hj;cases hj;rw[hdst] at hd;cases hd
 exact h.run j o' u hj hd hq (by rwa [getD_set_ne false hne] at hL)
theorem dZ.oL{L:Array Bool}{a:Act}{w w':World}(h:dZ W nt ds ops base qs B V L a w)(hW:W w'):dZ W nt ds ops base qs B V L a w':=⟨hW,h.size,h.defers,h.base,h.run⟩
theorem AN(X:Array Bool→Act→World→Prop)(hW:∀w w1,W w→EnvD.E w w1→W w1)(hX:∀L a w w1,X L a w→EnvD.E w w1→X L a w1){i:Nat}{o:Oper}{t:Nat}(hXp:∀L a w v,X L a w→X (L.setIfInBounds i true) (a.put (some t) v) w)(hi:ops[i]?=some o)(hqi:qs i)(hd:∀c,o.op≠.defer c)(hdst:o.dst=some t)(ht:t<nt)(hb:¬base t)(hu:∀j o',ops[j]?=some o'→o'.dst=some t→j=i)(h:∀(L:Array Bool)(a:Act)(w:World),dZ W nt ds ops base qs B V L a w→X L a w→L[i]?=some false→(∀e∈o.after,Region.binds .any e=true→L.getD e.on false=true)→Closed ops L→(Region.wanted o (yielded ops a.tmps)=true∧(∀f,EnvD.D w (Go.Conc.listed P f a o w))∧(execOp a.eval o).run P w=.ok (.value (V t)) w)∨(Region.wanted o (yielded ops a.tmps)=false∧V t=undef)):ir r P ops 1 Q (fun L a w=>dZ W nt ds ops base qs B V L a w∧X L a w) i o:=by
 intro L a w hinv hl he hcl rest N hk
 have mv:∀w1,EnvD.E w w1→dZ W nt ds ops base qs B V L a w1∧X L a w1:=fun w1 e=>⟨hinv.1.oL (hW _ _ hinv.1.world e),hX _ _ _ _ hinv.2 e⟩
 have nx:∀w1 v,dZ W nt ds ops base qs B V L a w1∧X L a w1→v=V t→bz r P ops rest N Q (a.put (some t) v) w1:=fun w1 v hi1 hv=>
  hk _ _ ⟨hi1.1.put hi1.1.world hi hl hdst ht hb hu fun _=>hv,hXp _ _ _ _ hi1.2⟩
 rcases h L a w hinv.1 hinv.2 hl he hcl with ⟨hw,_⟩|⟨hw,hv⟩
 ·refine bE hi hw hd fun w1 e=>?_
  rcases h L a w1 (mv w1 e).1 (mv w1 e).2 hl he hcl with ⟨_,h1,h2⟩|⟨hw2,_⟩
  ·refine⟨h1,?_⟩;rw[h2];show bz r P ops rest N Q (a.put o.dst (V t)) w1;rw[hdst];exact nx w1 _ (mv w1 e) rfl
  ·rw[hw] at hw2;cases hw2
 ·refine zP hi hw ?_;rw[hdst];exact nx w _ hinv hv.symm
def yN(ops:Array Oper):Bool:=(List.range ops.size).all fun i=>match ops[i]? with
 |some o=>o.after.toList.all fun e=>!Region.binds .any e || decide (e.on<i)
 |none=>true
omit [EnvD] in
theorem Ha(h:yN ops=true):∀(i:Nat)(o:Oper),ops[i]?=some o→∀e∈o.after,Region.binds .any e=true→e.on<i:=by
 intro i o ho e he hb;unfold yN at h;rw[List.all_eq_true] at h;have:=h i (List.mem_range.2 (Array.getElem?_eq_some_iff.1 ho).1);rw[ho] at this;simp only[List.all_eq_true] at this;have:=this e (Array.mem_toList_iff.2 he);simpa[hb] using this
def yO(ops:Array Oper)(i t:Nat):Bool:=(List.range ops.size).all fun j=>match ops[j]? with
 |some o=>decide (o.dst≠some t) || decide (j=i)
 |none=>true
omit [EnvD] in
theorem iF{i t:Nat}(h:yO ops i t=true):∀j o',ops[j]?=some o'→o'.dst=some t→j=i:=by
 intro j o ho hd;unfold yO at h;rw[List.all_eq_true] at h;have:=h j (List.mem_range.2 (Array.getElem?_eq_some_iff.1 ho).1);rw[ho] at this;simpa[hd] using this
theorem AO(hm:P.follows .mixedOrders=true){id:Nat}(c:Nat)(W:World→Prop)(nt:Nat)(ds:List Deferred)(base qs:Nat→Prop)(B V:Nat→Value)(X:Array Bool→Act→World→Prop){a:Act}{w:World}(hdown:yN ops=true)(hW:∀w w1,W w→EnvD.E w w1→W w1)(hD:∀w d,W w→W { w with drawn:=d })(h0:W w)(hsz:a.tmps.size=nt)(hds:a.defers=ds)(hb:∀t,base t→a.tmps[t]?.getD undef=B t)(hX:∀w1,EnvD.E w w1→X (Array.replicate ops.size false) a { w1 with drawn:=w1.drawn+1 })(fin:∀L a w,(∀j,j<ops.size→L.getD j false=true)→dZ W nt ds ops base qs B V L a w→X L a w→Q .normal a w)(step:∀(i:Nat)(o:Oper),ops[i]?=some o→ir r P ops c Q (fun L a w=>dZ W nt ds ops base qs B V L a w∧X L a w) i o):(Code.region id ops true).wpN r P (ops.size*c+1+1) Q a w:=by
 refine AH hm c (fun L a w=>dZ W nt ds ops base qs B V L a w∧X L a w) (Ha hdown) (fun w1 e=>⟨⟨hD _ _ (hW _ _ h0 e),hsz,hds,hb,fun i o t _ _ _ hl=>?_⟩,hX w1 e⟩) (fun L a w hl hi=>fin L a w hl hi.1 hi.2) step;rw[Array.getD_eq_getD_getElem?] at hl;simp only[Array.getElem?_replicate] at hl
 split at hl<;>cases hl
def isB(want:Bool):Value→Bool
 |.bool b=>b==want
 |_=>false
omit [EnvD] in
theorem ga{o:Oper}{tmps:Array Value}{j t:Nat}{want:Bool}{v:Value}(hg:o.guard=some (j,want))(hj:(ops[j]?).bind (·.dst)=some t)(hv:tmps[t]?.getD undef=v):Region.wanted o (yielded ops tmps)=isB want v:=by
 unfold Region.wanted;rw[hg];show (yielded ops tmps j==some want)=_;unfold yielded;rw[hj];simp only[Option.bind_some]
 cases ht:tmps[t]? with
 |none=>
  rw[ht] at hv;simp only[Option.getD_none] at hv;subst hv;rfl
 |some u=>
  rw[ht] at hv;simp only[Option.getD_some] at hv;subst hv
  cases u<;>first|rfl|(rename_i b;cases b<;>cases want<;>rfl)
end
end Go.Fi
