/- Lemmas. -/
import Derived.Test.YthpkmilhiganjaaGreatPMc
import Derived.Test.YthpkmilhiganjaaGreatPLc
import Derived.Test.YthpkmilhiganjaaGreatPMa
import Derived.Test.YthpkmilhiganjaaGreatPMd
import Derived.Conc.CompanyWords
set_option linter.all false
set_option maxHeartbeats 32000000
set_option maxRecDepth 100000
namespace Go.Fi
open Go Go.RowKit
section
variable[EnvD]
variable{P:Program}{r:Option Nat}{Q:Exit->Act->World->Prop}{ops:Array Oper}
def lO(r:Option Nat)(P:Program)(ops:Array Oper)(c:Nat)(Q:Exit->Act->World->Prop)(Inv:Array Bool->Act->World->Prop)(i:Nat)(o:Oper):Prop:=
 ∀(L:Array Bool)(a:Act)(w:World),Inv L a w->L[i]?=some false->(∀e∈o.after,Region.binds .any e=true->L.getD e.on false=true)->Closed ops L ->
  ∀(rest:List Nat)(N:Nat),(∀a' w',Inv (L.setIfInBounds i true) a' w'->dB r P ops rest N Q a' w')->dB r P ops (i::rest) (N+c) Q a w
theorem Nh(c:Nat)(Inv:Array Bool->Act->World->Prop)(h3:∀(i:Nat)(o:Oper),ops[i]?=some o->∀e∈o.after,Region.binds .any e=true->e.on<i)(fin:∀L a w,(∀j,j<ops.size->L.getD j false=true)->Inv L a w->Q .normal a w)(step:∀(i:Nat)(o:Oper),ops[i]?=some o->lO r P ops c Q Inv i o):∀(fuel t:Nat)(L:Array Bool)(a:Act)(w:World),L.size=ops.size->Closed ops L->open_ L<=fuel->Inv L a w->dB r P ops (Region.linearise.go .any ops fuel t L []) (fuel*c+1) Q a w:=by
 intro fuel
 induction fuel with
 |zero=>
  intro t L a w h9 hc ho hi;exact oZ (iq (fin L a w (λj hj=>qA ab ab) hi)) ab
 |succ fuel ih=>
  intro t L a w h9 hc ho hi;simp only[Region.linearise.go]
  change dB r P ops (match (Region.ready .any ops L)[t%(Region.ready .any ops L).length]? with
   |some i=>Region.linearise.go .any ops fuel (t / (Region.ready .any ops L).length) (L.setIfInBounds i true) [i]
   |none=>[].reverse) _ Q a w
  cases hx:(Region.ready .any ops L)[t%(Region.ready .any ops L).length]? with
  |none=>
   have hh:Region.ready .any ops L=[]:=by
    cases hr:Region.ready .any ops L with
    |nil=>rfl
    |cons x xs=>
     rw[hr] at hx;have a9:t%(x::xs).length<(x::xs).length:=yz _ ae
     grind
   refine oZ (iq (fin L a w (λj hj=>?_) hi)) ab
   cases hl:L.getD j false with
   |true=>rfl
   |false=>exact absurd hh (rP h9 h3 j hj hl)
  |some i=>
   simp only[];rw[linearise_go_acc,TW,List.singleton_append];obtain⟨o,a4,hl,he⟩:=om h9 (JK hx)
   have:=step i o a4 L a w hi hl he hc (Region.linearise.go .any ops fuel (t / (Region.ready .any ops L).length) (L.setIfInBounds i true) []) (fuel*c+1) λa' w' a6=>
    ih _ _ a' w' ak (hc.set a4 he) (by have:=qz hl;omega) a6
   rw[show (fuel+1)*c+1=fuel*c+1+c by rw[iY];omega];exact this
theorem FV(hm:P.follows .mixedOrders=true){id:Nat}(c:Nat)(Inv:Array Bool->Act->World->Prop){a:Act}{w:World}(h3:∀(i:Nat)(o:Oper),ops[i]?=some o->∀e∈o.after,Region.binds .any e=true->e.on<i)(h0:∀w1,EnvD.E w w1->Inv (Array.replicate ops.size false) a { w1 with drawn:=w1.drawn+1 })(fin:∀L a w,(∀j,j<ops.size->L.getD j false=true)->Inv L a w->Q .normal a w)(step:∀(i:Nat)(o:Oper),ops[i]?=some o->lO r P ops c Q Inv i o):(Code.region id ops true).wpN r P (ops.size*c+1+1) Q a w:=by
 refine L4 λw1 e t=>?_
 simp only[Region.schedule,hm,iX,cz];refine Nh c Inv h3 fin step ops.size _ _ a _ ae (λi o ho hl=>?_) ?_ (h0 w1 e)
 .have:(Array.replicate ops.size false).getD i false=false:=by
   rw[dF]
   grind
  rw[this] at hl;cases hl
 .unfold open_;have:(Array.replicate ops.size false).toList.countP (λb=>!b)<=(Array.replicate ops.size false).toList.length:=List.countP_le_length;simp_all
end
def EvD(lo F k:Nat)(e:Event):Prop:=(∃a,e.loc=.cell a/\(a.block=F->a.off=k)/\(e.write=true->lo<=a.block\/a.block=F))\/∃m,e.loc=.mark m
@[reducible] def cQ(lo F k:Nat):EnvD where
 E w w':=Bel w.heap.size w w'
 ext h:=h
 xt _ _ _ _:=False
 D _ es:=∀e∈es,EvD lo F k e
 nil _:=by simp
section
variable{lo F k:Nat}
theorem kU{a:Addr}{sy:Bool}(h:a.block≠F):EvD lo F k ⟨.cell a,false,sy⟩:=.inl ⟨a,rfl,λe=>absurd e h,nofun⟩
theorem qB{a:Addr}{sy:Bool}(h:a.block=F->a.off=k):EvD lo F k ⟨.cell a,false,sy⟩:=.inl ⟨a,rfl,h,nofun⟩
theorem Aj{a:Addr}{wr sy:Bool}(h:lo<=a.block)(h2:a.block≠F):EvD lo F k ⟨.cell a,wr,sy⟩:=.inl ⟨a,rfl,λe=>absurd e h2,λ_=>.inl h⟩
theorem Ni{a:Addr}{wr sy:Bool}(h:a.block=F)(h2:a.off=k):EvD lo F k ⟨.cell a,wr,sy⟩:=.inl ⟨a,rfl,λ_=>h2,λ_=>.inr h⟩
theorem _root_.Go.Fi.Bel.cellAt{w w1:World}(h:Bel w.heap.size w w1){a:Addr}{v:Value}(hc:w.cell? a=some v):w1.cell? a=some v:=by
 rw[h.cell (p:=a) ?_];exact hc;unfold World.cell? at hc
 grind
theorem o7{a b c:World}(h:Bel a.heap.size a b)(k:Bel b.heap.size b c):Bel a.heap.size a c:=h.trans (k.mono h.size)
theorem Al(w:World)(cs:Array Value)(t:TypeId)(i:Nat):(w.alloc (.cells cs t)).cell? ⟨w.heap.size,i,none⟩=cs[i]?:=by
 have h:(w.alloc (.cells cs t)).heap[w.heap.size]?=some (.cells cs t):=by show (w.heap.push _)[w.heap.size]?=_;simp
 simp
theorem Nj{T:Array Value}{n:Nat}(h:T.size=n):T=((List.range n).map λi=>T[i]?.getD undef).toArray:=by
 grind
end
section
variable[EnvD]
variable{P:Program}{r:Option Nat}{Q:Exit->Act->World->Prop}{ops:Array Oper}
structure ia(W:World->Prop)(nt:Nat)(ds:List Deferred)(ops:Array Oper)(base qs:Nat->Prop)(B V:Nat->Value)(L:Array Bool)(a:Act)(w:World):Prop where
 world:W w
 size:a.tmps.size=nt
 defers:a.defers=ds
 base:∀t,base t->a.tmps[t]?.getD undef=B t
 run:∀i o t,ops[i]?=some o->o.dst=some t->qs i->L.getD i false=true->a.tmps[t]?.getD undef=V t
variable{W:World->Prop}{nt:Nat}{ds:List Deferred}{base qs:Nat->Prop}{B V:Nat->Value}
omit [EnvD] in
theorem lE{a:Act}{t u:Nat}{v:Value}(ht:t<a.tmps.size):(a.put (some t) v).tmps[u]?.getD undef=if t=u then v else a.tmps[u]?.getD undef:=by
 simp only[Act.put,iU]
 grind
omit [EnvD] in
theorem wM{a:Act}{d:Option Nat}{v:Value}:(a.put d v).tmps.size=a.tmps.size:=by cases d<;>simp[Act.put]
omit [EnvD] in
theorem wN{a:Act}{d:Option Nat}{v:Value}:(a.put d v).defers=a.defers:=by cases d<;>simp[Act.put]
theorem ia.put{L:Array Bool}{a:Act}{w w':World}(h:ia W nt ds ops base qs B V L a w)(hW:W w'){i:Nat}{o:Oper}{t:Nat}{v:Value}(hi:ops[i]?=some o)(hl:L[i]?=some false)(h5:o.dst=some t)(ht:t<nt)(hb:¬base t)(hu:∀j o',ops[j]?=some o'->o'.dst=some t->j=i)(hv:qs i->v=V t):ia W nt ds ops base qs B V (L.setIfInBounds i true) (a.put (some t) v) w':=by
 refine⟨hW,wM.trans h.size,wN.trans h.defers,λu ha=>?_,λj o' u hj hd hq hL=>?_⟩
 .have h8:t≠u:=λe=>hb (by rw[e];exact ha)
  rw[lE aP,bP h8];exact h.base u ha
 .rw[lE aP];split
  .simp_all
  .rename_i e;refine h.run j o' u hj hd hq ?_
   have h8:i≠j:=λe'=>by
    grind
   rwa [getD_set_ne false h8] at hL
theorem ia.Iv{L:Array Bool}{a:Act}{w w':World}(h:ia W nt ds ops base qs B V L a w)(hW:W w'){i:Nat}{o:Oper}{v:Value}(hi:ops[i]?=some o)(h5:o.dst=none):ia W nt ds ops base qs B V (L.setIfInBounds i true) (a.put none v) w':=by
 refine⟨hW,h.size,h.defers,h.base,λj o' u hj hd hq hL=>?_⟩
 have h8:i≠j:=λe'=>by
  simp_all
 exact h.run j o' u hj hd hq (by rwa [getD_set_ne false h8] at hL)
theorem ia.sG{L:Array Bool}{a:Act}{w w':World}(h:ia W nt ds ops base qs B V L a w)(hW:W w'):ia W nt ds ops base qs B V L a w':=⟨hW,h.size,h.defers,h.base,h.run⟩
theorem F0(X:Array Bool->Act->World->Prop)(hW:∀w w1,W w->EnvD.E w w1->W w1)(hX:∀L a w w1,X L a w->EnvD.E w w1->X L a w1){i:Nat}{o:Oper}{t:Nat}(hXp:∀L a w v,X L a w->X (L.setIfInBounds i true) (a.put (some t) v) w)(hi:ops[i]?=some o)(aa:qs i)(hd:∀c,o.op≠.defer c)(h5:o.dst=some t)(ht:t<nt)(hb:¬base t)(hu:∀j o',ops[j]?=some o'->o'.dst=some t->j=i)(h:∀(L:Array Bool)(a:Act)(w:World),ia W nt ds ops base qs B V L a w->X L a w->L[i]?=some false->(∀e∈o.after,Region.binds .any e=true->L.getD e.on false=true)->Closed ops L->(Region.wanted o (yielded ops a.tmps)=true/\(∀f,EnvD.D w (Go.Conc.listed P f a o w))/\(execOp a.eval o).run P w=.ok (.value (V t)) w)\/(Region.wanted o (yielded ops a.tmps)=false/\V t=undef)):lO r P ops 1 Q (λL a w=>ia W nt ds ops base qs B V L a w/\X L a w) i o:=by
 intro L a w hinv hl he hy rest N hk
 have mv:∀w1,EnvD.E w w1->ia W nt ds ops base qs B V L a w1/\X L a w1:=λw1 e=>⟨hinv.1.sG (hW _ _ hinv.1.world e),hX _ _ _ _ hinv.2 e⟩
 have nx:∀w1 v,ia W nt ds ops base qs B V L a w1/\X L a w1->v=V t->dB r P ops rest N Q (a.put (some t) v) w1:=λw1 v h' hv=>
  hk _ _ ⟨h'.1.put h'.1.world hi hl h5 ht hb hu λ_=>hv,hXp _ _ _ _ h'.2⟩
 rcases h L a w hinv.1 hinv.2 hl he hy with ⟨hw,_⟩|⟨hw,hv⟩
 .refine dD hi hw hd λw1 e=>?_
  rcases h L a w1 (mv w1 e).1 (mv w1 e).2 hl he hy with ⟨_,h1,h2⟩|⟨ag,_⟩
  .refine⟨h1,?_⟩;rw[h2];show dB r P ops rest N Q (a.put o.dst (V t)) w1;rw[h5];exact nx w1 _ (mv w1 e) rfl
  simp_all
 .refine Fa hi hw ?_;rw[h5];simp_all
def Ct(ops:Array Oper):Bool:=(List.range ops.size).all λi=>match ops[i]? with
 |some o=>o.after.toList.all λe=>!Region.binds .any e || decide (e.on<i)
 |none=>true
omit [EnvD] in
theorem Nk(h:Ct ops=true):∀(i:Nat)(o:Oper),ops[i]?=some o->∀e∈o.after,Region.binds .any e=true->e.on<i:=by
 intro i o ho e he hb;unfold Ct at h;rw[gp] at h;have:=h i (tJ.2 (cY.1 ho).1);rw[ho] at this
 grind
def Cu(ops:Array Oper)(i t:Nat):Bool:=(List.range ops.size).all λj=>match ops[j]? with
 |some o=>decide (o.dst≠some t) || decide (j=i)
 |none=>true
omit [EnvD] in
theorem mh{i t:Nat}(h:Cu ops i t=true):∀j o',ops[j]?=some o'->o'.dst=some t->j=i:=by
 intro j o ho hd;unfold Cu at h;rw[gp] at h;have:=h j (tJ.2 (cY.1 ho).1);rw[ho] at this;simp_all
theorem F7(hm:P.follows .mixedOrders=true){id:Nat}(c:Nat)(W:World->Prop)(nt:Nat)(ds:List Deferred)(base qs:Nat->Prop)(B V:Nat->Value)(X:Array Bool->Act->World->Prop){a:Act}{w:World}(h3:Ct ops=true)(hW:∀w w1,W w->EnvD.E w w1->W w1)(hD:∀w d,W w->W { w with drawn:=d })(h0:W w)(h9:a.tmps.size=nt)(a5:a.defers=ds)(hb:∀t,base t->a.tmps[t]?.getD undef=B t)(hX:∀w1,EnvD.E w w1->X (Array.replicate ops.size false) a { w1 with drawn:=w1.drawn+1 })(fin:∀L a w,(∀j,j<ops.size->L.getD j false=true)->ia W nt ds ops base qs B V L a w->X L a w->Q .normal a w)(step:∀(i:Nat)(o:Oper),ops[i]?=some o->lO r P ops c Q (λL a w=>ia W nt ds ops base qs B V L a w/\X L a w) i o):(Code.region id ops true).wpN r P (ops.size*c+1+1) Q a w:=by
 refine FV hm c (λL a w=>ia W nt ds ops base qs B V L a w/\X L a w) (Nk h3) (λw1 e=>⟨⟨hD _ _ (hW _ _ h0 e),h9,a5,hb,λi o t _ _ _ hl=>?_⟩,hX w1 e⟩) (λL a w hl hi=>fin L a w hl hi.1 hi.2) step;rw[dF] at hl
 grind
def isB(want:Bool):Value->Bool
 |.bool b=>b==want
 |_=>false
omit [EnvD] in
theorem jM{o:Oper}{tmps:Array Value}{j t:Nat}{want:Bool}{v:Value}(hg:o.guard=some (j,want))(hj:(ops[j]?).bind (·.dst)=some t)(hv:tmps[t]?.getD undef=v):Region.wanted o (yielded ops tmps)=isB want v:=by
 unfold Region.wanted;rw[hg];show (yielded ops tmps j==some want)=_;unfold yielded;rw[hj];simp only[lj]
 cases ht:tmps[t]? with
 |none=>
  rw[ht] at hv;simp only[Option.getD_none] at hv;subst hv;rfl
 |some u=>
  rw[ht] at hv;simp only[oR] at hv;subst hv
  cases u<;>first|rfl|(rename_i b;cases b<;>cases want<;>rfl)
end
end Go.Fi
