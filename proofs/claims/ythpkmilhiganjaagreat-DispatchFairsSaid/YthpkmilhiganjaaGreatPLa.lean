/- Lemmas. -/
import Derived.Test.YthpkmilhiganjaaGreatPAa
import Derived.Below
import Derived.Orders
import Derived.OrdersIn
import Derived.Tactics
import Derived.TacticsIn
import Derived.RangeFuncRecord
import Derived.RangeFuncCalls
import Derived.Deep.LoopGhost
import Derived.Conc.Own4
import Derived.Conc.Own5
import Derived.RangeFuncIn
import Derived.Laws.IdiomCopy
import Derived.Laws.Entries
import Derived.Laws.StructEq
import Derived.ChangeKeysEq
import Derived.Laws.NewFold
import Derived.MapKept
set_option linter.all false
set_option maxHeartbeats 32000000
set_option maxRecDepth 100000
namespace Go.Fi
open Go Go.RowKit
open Go.Conc (G)
structure Bel(B:Nat)(w w':World):Prop where
 os:w'.os=w.os
 output:w'.output=w.output
 size:w.heap.size<=w'.heap.size
 block:∀k,k<B->w'.heap[k]?=w.heap[k]?
theorem Bel.refl(B:Nat)(w:World):Bel B w w:=⟨rfl,rfl,bU _,λ_ _=>rfl⟩
theorem Bel.trans{B:Nat}{a b c:World}(h:Bel B a b)(k:Bel B b c):Bel B a c:=
 ⟨k.os.trans h.os,k.output.trans h.output,dN h.size k.size,λi hi=>(k.block i hi).trans (h.block i hi)⟩
theorem Bel.mono{B B':Nat}{w w':World}(h:Bel B w w')(hB:B'<=B):Bel B' w w':=⟨h.os,h.output,h.size,λk hk=>h.block k (lO hk hB)⟩
theorem Bel.of{B:Nat}{w w':World}(h:Below B w w'):Bel B w w':=⟨h.os,h.output,h.size,h.block⟩
theorem _root_.Go.RowKit.Below.bel{B:Nat}{w w':World}(h:Below B w w'):Bel B w w':=.of h
theorem Bel.drew{B:Nat}{a w:World}(h:Bel B a w):Bel B a w.drew:=⟨h.os,h.output,h.size,h.block⟩
theorem Bel.alloc{B:Nat}{a w:World}(h:Bel B a w)(hB:B<=w.heap.size)(o:Obj):Bel B a (w.alloc o):=
 h.trans (.of ((Below.refl _ _).alloc hB o))
theorem Bel.setCell{B:Nat}{a w:World}(h:Bel B a w){p:Addr}(hp:B<=p.block)(u:Value):Bel B a (w.setCell p u):=
 h.trans (.of ((Below.refl _ _).setCell hp u))
theorem Bel.grown{B:Nat}{a w w':World}{row:Option Nat}(h:Bel B a w)(hg:w.grownBy w' row)(hB:B<=w.heap.size)(hr:∀k,row=some k->B<=k):Bel B a w':=
 h.trans (.of ((Below.refl _ _).grown hg hB hr))
theorem Bel.cell{B:Nat}{w w':World}(h:Bel B w w'){p:Addr}(hp:p.block<B):w'.cell? p=w.cell? p:=World.cell?_of_block (w:=w) (h.block p.block hp)
theorem Bel.frozen{B:Nat}{w w':World}(h:Bel B w w'){p:Addr}(hp:p.block<B):w'.frozen? p=w.frozen? p:=World.frozen?_of_block (w:=w) (h.block p.block hp)
theorem Bel.frame{W w':World}(h:Bel W.heap.size W w')(may:MemPlace->Prop):W.keptBut w' may:=by
 refine⟨h.os,h.output,λi hi=>?_⟩;rw[h.block i hi]
 split<;>simp_all
theorem Bel.same{W w':World}(h:Bel W.heap.size W w'){p:MemPlace}(hp:p.block<W.heap.size):W.sameAt w' p:=by
 cases p with
 |cell b o=>exact World.cell?_of_block (w:=W) (h.block b hp)
 |map b=>exact h.block b hp
class EnvD where
 E:World->World->Prop
 ext:∀{w w':World},E w w'->Bel w.heap.size w w'
 xt:FuncId->Array Value->World->(Value->World->Prop)->Prop
 D:World->Array Event->Prop
 nil:∀w,D w #[]
class bE extends EnvD where
 ok:World->Prop
 keep:∀{w w':World},ok w->Bel w.heap.size w w'->ok w'
 lZ:∀w es,D w es
def iq(fr:Frame):Prop:=∀ch,fr.mode≠.panicking ch
section
variable[EnvD]
inductive T(P:Program)(n:Nat)(Φ:Frame->List Frame->World->Prop):Frame->List Frame->World->Prop
 |now {fr:Frame} {cs:List Frame} {w:World}:Φ fr cs w->T P n Φ fr cs w
 |quiet {fr:Frame} {cs:List Frame} {w:World} (fr':Frame) (cs':List Frame):(∀w1,stepG P true (G fr cs) w1=.go (G fr' cs') w1 #[])->iq fr'->T P n Φ fr' cs' w->(hn:n<=cs.length:=by simp)->T P n Φ fr cs w
 |step {fr:Frame} {cs:List Frame} {w:World}:(∀w1,EnvD.E w w1->∃fr' cs' w' es,stepG P true (G fr cs) w1=.go (G fr' cs') w' es/\iq fr'/\EnvD.D w1 es) ->
   (∀w1 fr' cs' w' es,EnvD.E w w1->stepG P true (G fr cs) w1=.go (G fr' cs') w' es->T P n Φ fr' cs' w')->(hn:n<=cs.length:=by simp)->T P n Φ fr cs w
 |ext {f:FuncId} {args:Array Value} {c:Frame} {cs:List Frame} {w:World} (R:World->Value->World->Prop):(∀w1,EnvD.E w w1->EnvD.xt f args w1 (R w1)) ->
   (∀w1 v w',EnvD.E w w1->R w1 v w'->T P n Φ (c.finish v) cs w')->(hn:n<=cs.length+1:=by simp)->T P n Φ (Frame.enter P f args .normal) (c::cs) w
variable{P:Program}{n:Nat}{Φ Ψ:Frame->List Frame->World->Prop}{fr:Frame}{cs:List Frame}{w:World}
theorem T.low{n':Nat}(h:T P n Φ fr cs w)(hn:n'<=n:=by simp):T P n' Φ fr cs w:=by
 induction h with
 |now h=>exact .now h
 |quiet fr' cs' h1 h2 _ h3 ih=>exact .quiet fr' cs' h1 h2 ih (dN hn h3)
 |step h1 _ h3 ih=>exact .step h1 ih (dN hn h3)
 |ext R h1 _ h3 ih=>exact .ext R h1 ih (dN hn h3)
theorem T.bind(h:T P n Φ fr cs w)(hk:∀fr cs w,Φ fr cs w->T P n Ψ fr cs w):T P n Ψ fr cs w:=by
 induction h with
 |now h=>simp_all
 |quiet fr' cs' h1 h2 _ h3 ih=>exact .quiet fr' cs' h1 h2 ih h3
 |step h1 _ h3 ih=>exact .step h1 ih h3
 |ext R h1 _ h3 ih=>exact .ext R h1 ih h3
theorem T.mono(h:T P n Φ fr cs w)(hk:∀fr cs w,Φ fr cs w->Ψ fr cs w):T P n Ψ fr cs w:=h.bind λ_ _ _ h=>.now (hk _ _ _ h)
theorem T.eD(h:∀w1,EnvD.E w w1->∃fr' cs' w' es,stepG P true (G fr cs) w1=.go (G fr' cs') w' es/\iq fr'/\EnvD.D w1 es/\T P n Φ fr' cs' w')(hn:n<=cs.length:=by simp):T P n Φ fr cs w:=by
 refine .step (λw1 e=>let ⟨a,b,c,d,h1,h2,h3,_⟩:=h w1 e;⟨a,b,c,d,h1,h2,h3⟩) (λw1 fr' cs' w' es e hs=>?_) hn;obtain⟨a,b,c,d,h1,_,_,h3⟩:=h w1 e;rw[h1] at hs
 injection hs with h1 h2 _
 injection h1 with h4 h5
 simp_all
end
section moves
variable{P:Program}{b:Frame}{a:Act}{k:List Item}{cs:List Frame}{w:World}
theorem dt:iq (b.atR a k):=λch=>by simp[Frame.atR]
theorem yh:stepG P true (G (b.atR a (.code .skip::k)) cs) w=.go (G (b.atR a k) cs) w #[]:=by rfl
theorem JH{l:Nat}:stepG P true (G (b.atR a (.code (.label l)::k)) cs) w=.go (G (b.atR a k) cs) w #[]:=by rfl
theorem yi{id:Nat}:stepG P true (G (b.atR a (.inBlock id::k)) cs) w=.go (G (b.atR a k) cs) w #[]:=by rfl
theorem yj{x y:Code}:stepG P true (G (b.atR a (.code (.seq x y)::k)) cs) w=.go (G (b.atR a (.code x::.code y::k)) cs) w #[]:=by rfl
theorem yk{c:Operand}{x y:Code}{t:Bool}(h:a.eval c=.bool t):stepG P true (G (b.atR a (.code (.cond c x y)::k)) cs) w=.go (G (b.atR a (.code (if t then x else y)::k)) cs) w #[]:=by
 have:=congrFun (Frame.eval_atR b a (.code (.cond c x y)::k)) c;simp only[Frame.atR] at this;simp[G,stepG,stepG.exec,Frame.atR,this,h]
theorem ym{id:Nat}{c:Code}:stepG P true (G (b.atR a (.code (.block id c)::k)) cs) w=.go (G (b.atR a (.code c::.inBlock id::k)) cs) w #[]:=by rfl
theorem yn{c:Code}:stepG P true (G (b.atR a (.code (.loop c)::k)) cs) w=.go (G (b.atR a (.code c::.inLoop c::k)) cs) w #[]:=by rfl
theorem yo{c:Code}:stepG P true (G (b.atR a (.inLoop c::k)) cs) w=.go (G (b.atR a (.code c::.inLoop c::k)) cs) w #[]:=by rfl
theorem yp{id:Nat}{k':List Item}(h:exitTo id k=some k'):stepG P true (G (b.atR a (.code (.exit id)::k)) cs) w=.go (G (b.atR a k') cs) w #[]:=by simp[G,stepG,stepG.exec,Frame.atR,h]
theorem yq(hb:b.roundOf=none):stepG P true (G (b.atR a (.code .ret::k)) cs) w=.go (G { b.atR a (.code .ret::k) with mode:=.returning } cs) w #[]:=by simp[G,stepG,stepG.exec,Frame.atR,hb]
theorem yr(hb:b.roundOf=none):stepG P true (G (b.atR a []) cs) w=.go (G { b.atR a [] with mode:=.returning } cs) w #[]:=by simp[G,stepG,stepG.exec,Frame.atR,hb]
variable{ops:Array Oper}
theorem yu{id:Nat}:stepG P true (G (b.atR a (.code (.region id ops false)::k)) cs) w=.go (G (b.atR a (.inRegion ops (List.range ops.size)::k)) cs) w #[]:=by rfl
theorem Dk{id:Nat}:stepG P true (G (b.atR a (.code (.region id ops true)::k)) cs) w=.go (G (b.atR a (.inRegion ops (Region.schedule (P.follows .mixedOrders) ops (w.tape w.drawn (.order b.fn id)))::k)) cs) { w with drawn:=w.drawn+1 } #[]:=by
 rfl
theorem uX:stepG P true (G (b.atR a (.inRegion ops []::k)) cs) w=.go (G (b.atR a k) cs) w #[]:=by rfl
theorem yw{i:Nat}{rest:List Nat}(h:((ops[i]?).map (Region.wanted · (yielded ops a.tmps))).getD false=false):stepG P true (G (b.atR a (.inRegion ops (i::rest)::k)) cs) w=.go (G (b.atR (a.put ((ops[i]?).bind (·.dst)) undef) (.inRegion ops rest::k)) cs) w #[]:=by
 rw[<-Frame.finish_atR];have h':=h;simp only[Frame.atR] at *;simp[G,stepG,stepG.exec,h']
theorem uY{i:Nat}{rest:List Nat}{o:Oper}(ho:ops[i]?=some o)(hw:Region.wanted o (yielded ops a.tmps)=true)(hd:∀c,o.op≠.defer c):stepG P true (G (b.atR a (.inRegion ops (i::rest)::k)) cs) w=stepG.apply P true (b.atR a (.inRegion ops (i::rest)::k)) cs none (execOp a.eval o) w:=by
 have:=stepGR_op (P:=P) (b:=b) (k:=k) (cs:=cs) (w:=w) (rest:=rest) ho hw;rw[Oper.semAt_eq _ _ _ hd] at this;exact this
end moves
section
variable[EnvD]
def Arr(b:Frame)(k:List Item)(cs:List Frame)(Q:Exit->Act->World->Prop)(fr:Frame)(cs':List Frame)(w:World):Prop:=
 cs'=cs/\∃e a,Q e a w/\match e with
  |.normal=>fr=b.atR a k
  |.exit id=>∃k1,exitTo id k1=exitTo id k/\fr=b.atR a (.code (.exit id)::k1)
  |.ret=>∃k1,fr=b.atR a (.code .ret::k1)
  |_=>False
def _root_.Go.Code.wpT(r:Option Nat)(P:Program)(c:Code)(Q:Exit->Act->World->Prop)(a:Act)(w:World):Prop:=
 ∀(b:Frame)(k:List Item)(cs:List Frame),b.roundOf=r->b.kind≠.early->T P cs.length (Arr b k cs Q) (b.atR a (.code c::k)) cs w
def j1(P:Program)(f:FuncId)(args:Array Value)(w:World)(R:Ending->World->Prop):Prop:=
 ∀(c:Frame)(cs:List Frame),iq c->T P (cs.length+1) (λfr cs' w'=>cs'=cs/\∃v,R (.returned v) w'/\fr=c.finish v) (Frame.enter P f args .normal) (c::cs) w
def qp(P:Program)(l:Nat)(f:FuncId)(tmps:Array Value)(assign body:Code)(w:World)(R:Ending->World->Prop):Prop:=
 ∀(c:Frame)(cs:List Frame),iq c->T P (cs.length+1) (λfr cs' w'=>cs'=cs/\∃v,R (.returned v) w'/\fr=c.finish v) (Frame.round l f tmps assign body .normal) (c::cs) w
theorem j1.mono{P:Program}{f:FuncId}{args:Array Value}{w:World}{R R':Ending->World->Prop}(h:j1 P f args w R)(hr:∀e w,R e w->R' e w):j1 P f args w R':=
 λc cs hc=>(h c cs hc).mono λ_ _ _ ⟨h1,v,h2,h3⟩=>⟨h1,v,hr _ _ h2,h3⟩
theorem qp.mono{P:Program}{l:Nat}{f:FuncId}{tmps:Array Value}{assign body:Code}{w:World}{R R':Ending->World->Prop}(h:qp P l f tmps assign body w R)(hr:∀e w,R e w->R' e w):qp P l f tmps assign body w R':=
 λc cs hc=>(h c cs hc).mono λ_ _ _ ⟨h1,v,h2,h3⟩=>⟨h1,v,hr _ _ h2,h3⟩
def _root_.Go.Oper.qu(P:Program)(o:Oper)(a:Act)(K:Act->World->Prop):Result Next->Prop
 |.ok (.value v) w'=>K (a.put o.dst v) w'
 |.ok .skip w'=>K (a.put o.dst undef) w'
 |.ok (.enter f args) w'=>j1 P f args w' fun
   |.returned v,bf=>K (a.put o.dst v) bf
   |_,_=>False
 |.ok (.round l f tmps assign body) w'=>qp P l f tmps assign body w' fun
   |.returned v,bf=>K (a.put o.dst v) bf
   |_,_=>False
 |_=>False
def _root_.Go.Oper.wpt(P:Program)(o:Oper)(a:Act)(w:World)(K:Act->World->Prop)(Q:Exit->Act->World->Prop):Prop:=
 o.qu P a K ((execOp a.eval o).run P w)
def _root_.Go.Oper.wpT(r:Option Nat)(P:Program)(o:Oper)(a:Act)(w:World)(K:Act->World->Prop)(Q:Exit->Act->World->Prop):Prop:=(∀c,o.op≠.defer c)/\(∀f,EnvD.D w (Go.Conc.listed P f a o w))/\o.wpt P a w K Q
section
variable(P:Program)(o:Oper)(a:Act)(K:Act->World->Prop)(w:World)
theorem _root_.Go.Oper.oZ(v:Value):o.qu P a K (.ok (.value v) w)=K (a.put o.dst v) w:=rfl
theorem _root_.Go.Oper.HW:o.qu P a K (.ok .skip w)=K (a.put o.dst undef) w:=rfl
theorem _root_.Go.Oper.BD(f:FuncId)(args:Array Value):o.qu P a K (.ok (.enter f args) w)=j1 P f args w fun
 |.returned v,bf=>K (a.put o.dst v) bf
 |_,_=>False:=rfl
theorem _root_.Go.Oper.QW(l:Nat)(f:FuncId)(tmps:Array Value)(assign body:Code):o.qu P a K (.ok (.round l f tmps assign body) w)=qp P l f tmps assign body w fun
 |.returned v,bf=>K (a.put o.dst v) bf
 |_,_=>False:=rfl
end
theorem _root_.Go.Oper.QX{P:Program}{o:Oper}{a:Act}{w:World}{K K':Act->World->Prop}{Q Q':Exit->Act->World->Prop}(h:∀a w,K a w->K' a w)(hh:o.wpt P a w K Q):o.wpt P a w K' Q':=by
 unfold Oper.wpt at *;generalize (execOp a.eval o).run P w=r at *
 cases r with
 |ok x w'=>
  cases x<;>simp only[Oper.qu] at hh ⊢ <;>
   first
    |exact h _ _ hh
    |exact j1.mono hh (λe bf he=>by cases e<;>first|exact h _ _ he|exact he)
    |exact qp.mono hh (λe bf he=>by cases e<;>first|exact h _ _ he|exact he)
 |halt x w'=>exact hh.elim
theorem _root_.Go.Oper.eT{r:Option Nat}{P:Program}{o:Oper}{a:Act}{w:World}{K K':Act->World->Prop}{Q Q':Exit->Act->World->Prop}(h:∀a w,K a w->K' a w)(hh:o.wpT r P a w K Q):o.wpT r P a w K' Q':=⟨hh.1,hh.2.1,Oper.QX (Q:=Q) h hh.2.2⟩
variable{P:Program}{ops:Array Oper}{Q:Exit->Act->World->Prop}{a:Act}{w:World}
def ir(r:Option Nat)(P:Program)(ops:Array Oper)(Q:Exit->Act->World->Prop):List Oper->Act->World->Prop
 |[],a,w=>Q .normal a w
 |o::rest,a,w=>∀w1,EnvD.E w w1->if Region.wanted o (yielded ops a.tmps) then o.wpT r P a w1 (ir r P ops Q rest) Q else ir r P ops Q rest (a.put o.dst undef) w1
def lg(r:Option Nat)(P:Program)(ops:Array Oper)(Q:Exit->Act->World->Prop)(i:Nat)(K:Act->World->Prop)(a:Act)(w:World):Prop:=
 match ops[i]? with
 |none=>K a w
 |some o=>∀w1,EnvD.E w w1->if Region.wanted o (yielded ops a.tmps) then o.wpT r P a w1 K Q else K (a.put o.dst undef) w1
def l8(r:Option Nat)(P:Program)(ops:Array Oper)(Q:Exit->Act->World->Prop):List Nat->Act->World->Prop
 |[],a,w=>Q .normal a w
 |i::rest,a,w=>lg r P ops Q i (l8 r P ops Q rest) a w
theorem JM{r:Option Nat}{i:Nat}{K K':Act->World->Prop}(h:∀a w,K a w->K' a w)(hh:lg r P ops Q i K a w):lg r P ops Q i K' a w:=by
 unfold lg at *
 cases ho:ops[i]? with
 |none=>rw[ho] at hh;grind
 |some o=>
  rw[ho] at hh;intro w1 e;have:=hh w1 e
  revert this
  cases Region.wanted o (yielded ops a.tmps) with
  |true=>exactλx=>Oper.eT (r:=r) (Q:=Q) (Q':=Q) h x
  |false=>simp_all
def jD(r:Option Nat)(P:Program)(md:Region.Mode)(ops:Array Oper)(Q:Exit->Act->World->Prop):Nat->Array Bool->Act->World->Prop
 |0,listed,a,w=>Region.ready md ops listed=[]/\Q .normal a w
 |fuel+1,listed,a,w=>
  (Region.ready md ops listed=[]->Q .normal a w)/\∀i∈Region.ready md ops listed,lg r P ops Q i (jD r P md ops Q fuel (listed.setIfInBounds i true)) a w
theorem JN{r:Option Nat}{md:Region.Mode}:∀(fuel t:Nat)(listed:Array Bool)(a:Act)(w:World),jD r P md ops Q fuel listed a w->l8 r P ops Q (Region.linearise.go md ops fuel t listed []) a w:=by
 intro fuel
 induction fuel with
 |zero=>intro t listed a w h;simpa[Region.linearise.go,l8] using h.2
 |succ fuel ih=>
  intro t listed a w h;obtain⟨h0,h1⟩:=h;simp only[Region.linearise.go]
  change l8 r P ops Q (match (Region.ready md ops listed)[t%(Region.ready md ops listed).length]? with
   |some i=>Region.linearise.go md ops fuel (t / (Region.ready md ops listed).length) (listed.setIfInBounds i true) [i]
   |none=>[].reverse) a w
  cases hi:(Region.ready md ops listed)[t%(Region.ready md ops listed).length]? with
  |none=>
   have du:Region.ready md ops listed=[]:=by
    cases hr:Region.ready md ops listed with
    |nil=>rfl
    |cons x xs=>
     rw[hr] at hi;have a9:t%(x::xs).length<(x::xs).length:=xU _ ae
     grind
   simpa[l8] using h0 du
  |some i=>
   simp only[];rw[linearise_go_acc,TK,List.singleton_append];exact JM (λa w=>ih _ _ a w) (h1 i (Jl hi))
theorem Dm{r:Option Nat}:∀(l:List Oper)(n:Nat)(a:Act)(w:World),(∀i,i<l.length->ops[n+i]?=l[i]?)->ir r P ops Q l a w->l8 r P ops Q (List.range' n l.length) a w
 |[],n,a,w,_,h=>h
 |o::l,n,a,w,hl,h=>by
  simp only[fS,List.range'_succ,l8,lg];have h0:=hl 0 ae;simp only[oH,CQ] at h0;rw[h0];intro w1 e;have:=h w1 e
  have ih:∀a w,ir r P ops Q l a w->l8 r P ops Q (List.range' (n+1) l.length) a w:=λa w h=>Dm l (n+1) a w (λi hi=>by
   have:=hl (i+1) ar;rw[sG] at this
   rw[<-this];grind) h
  revert this
  cases Region.wanted o (yielded ops a.tmps) with
  |true=>exactλx=>Oper.eT (r:=r) (Q:=Q) (Q':=Q) ih x
  |false=>simp_all
omit [EnvD] in
theorem u5{c:Frame}(h:iq c)(v:Value):iq (c.finish v):=by
 intro ch
 have:(c.finish v).mode=c.mode:=by unfold Frame.finish;split<;>rfl
 rw[this];exact h ch
theorem yx{r:Option Nat}:∀(l:List Nat)(a:Act)(w:World),l8 r P ops Q l a w->∀(b:Frame)(k:List Item)(cs:List Frame),b.roundOf=r->b.kind≠.early->T P cs.length (Arr b k cs Q) (b.atR a (.inRegion ops l::k)) cs w
 |[],a,w,h,b,k,cs,hr,hk=>.quiet _ _ (λ_=>uX) dt (.now ⟨rfl,.normal,a,h,rfl⟩)
 |i::rest,a,w,h,b,k,cs,hr,hk=>by
  have ih:∀(a:Act)(w:World),l8 r P ops Q rest a w->∀(b:Frame)(k:List Item)(cs:List Frame),b.roundOf=r->b.kind≠.early->T P cs.length (Arr b k cs Q) (b.atR a (.inRegion ops rest::k)) cs w:=yx rest;simp only[l8,lg] at h
  cases ho:ops[i]? with
  |none=>
   rw[ho] at h
   have hs:∀w1,stepG P true (G (b.atR a (.inRegion ops (i::rest)::k)) cs) w1=_:=λw1=>yw (P:=P) (b:=b) (a:=a) (k:=k) (cs:=cs) (w:=w1) (ops:=ops) (i:=i) (rest:=rest) (by simp[ho])
   simp only[ho,Option.bind_none,Act.put] at hs;exact .quiet _ _ hs dt (ih a w h b k cs hr hk)
  |some o=>
   rw[ho] at h
   cases hw:Region.wanted o (yielded ops a.tmps) with
   |false=>
    have hs:∀w1,stepG P true (G (b.atR a (.inRegion ops (i::rest)::k)) cs) w1=_:=λw1=>yw (P:=P) (b:=b) (a:=a) (k:=k) (cs:=cs) (w:=w1) (ops:=ops) (i:=i) (rest:=rest) (by simp[ho,hw])
    simp only[ho,jk] at hs
    refine .eD λw1 e=>⟨_,_,_,_,hs w1,dt,EnvD.nil w1,?_⟩
    have:=h w1 e;rw[hw] at this;simp_all
   |true=>
    refine .eD λw1 e=>?_
    have:=h w1 e;rw[hw] at this;obtain⟨hd,d8,hu⟩:=this;unfold Oper.wpt at hu;have hg:=uY (P:=P) (b:=b) (k:=k) (cs:=cs) (w:=w1) (rest:=rest) ho hw hd
    have co:∀v,(b.atR a (.inRegion ops (i::rest)::k)).finish v=b.atR (a.put o.dst v) (.inRegion ops rest::k):=by
     intro v;rw[Frame.finish_atR,ho];rfl
    have bt:((b.atR a (.inRegion ops (i::rest)::k)).kind==CallKind.early)=false:=by simpa[Frame.atR] using hk
    have da:EnvD.D w1 (seen P (b.atR a (.inRegion ops (i::rest)::k)).fn ((execOp a.eval o).events P w1 #[])++#[]):=by rw[mN];exact d8 _
    generalize a4:(execOp a.eval o).run P w1=R at hu
    cases R with
    |ok x w'=>
     cases x<;>simp only[Oper.qu] at hu
     .rename_i v;refine⟨b.atR (a.put o.dst v) (.inRegion ops rest::k),cs,w',seen P (b.atR a (.inRegion ops (i::rest)::k)).fn ((execOp a.eval o).events P w1 #[])++#[],by rw[hg,<-co];simp only[stepG.apply,cz,Sem.runT_eq,a4,bt,dB,cP,GStep.after];rfl,dt,da,ih _ _ hu b k cs hr hk⟩
     .refine⟨b.atR (a.put o.dst undef) (.inRegion ops rest::k),cs,w',seen P (b.atR a (.inRegion ops (i::rest)::k)).fn ((execOp a.eval o).events P w1 #[])++#[],by rw[hg,<-co];simp only[stepG.apply,cz,Sem.runT_eq,a4,bt,dB,cP,GStep.after];rfl,dt,da,ih _ _ hu b k cs hr hk⟩
     .rename_i f args;refine⟨Frame.enter P f args .normal,b.atR a (.inRegion ops (i::rest)::k)::cs,w',seen P (b.atR a (.inRegion ops (i::rest)::k)).fn ((execOp a.eval o).events P w1 #[])++#[],by rw[hg];simp only[stepG.apply,cz,Sem.runT_eq,a4,bt,dB,cP,GStep.after];rfl,λch=>by simp[Frame.enter],da,(hu _ cs dt).low.bind λfr cs' bf ⟨h1,v,h2,h3⟩=>?_⟩;simp_all
     .rename_i l f tmps assign body;refine⟨Frame.round l f tmps assign body .normal,b.atR a (.inRegion ops (i::rest)::k)::cs,w',seen P (b.atR a (.inRegion ops (i::rest)::k)).fn ((execOp a.eval o).events P w1 #[])++#[],by rw[hg];simp only[stepG.apply,cz,Sem.runT_eq,a4,bt,dB,cP,GStep.after];rfl,λch=>by simp[Frame.round],da,(hu _ cs dt).low.bind λfr cs' bf ⟨h1,v,h2,h3⟩=>?_⟩;simp_all
    |halt x w'=>exact hu.elim
end
section
variable[EnvD]
variable{P:Program}{r:Option Nat}{Q:Exit->Act->World->Prop}{a:Act}{w:World}
omit [EnvD] in
theorem Arr.mono{b:Frame}{k:List Item}{cs:List Frame}{Q Q':Exit->Act->World->Prop}(hq:∀e a w,Q e a w->Q' e a w){fr:Frame}{cs':List Frame}{w:World}(h:Arr b k cs Q fr cs' w):Arr b k cs Q' fr cs' w:=
 let ⟨h1,e,a,h2,h3⟩:=h;⟨h1,e,a,hq _ _ _ h2,h3⟩
theorem eT{c:Code}{Q':Exit->Act->World->Prop}(h:c.wpT r P Q a w)(hq:∀e a w,Q e a w->Q' e a w):c.wpT r P Q' a w:=
 λb k cs hr hk=>(h b k cs hr hk).mono λ_ _ _ x=>x.mono hq
theorem JO(h:Q .normal a w):Code.skip.wpT r P Q a w:=λb k cs _ _=>.quiet _ _ (λ_=>yh) dt (.now ⟨rfl,.normal,a,h,rfl⟩)
theorem JP{l:Nat}(h:Q .normal a w):(Code.label l).wpT r P Q a w:=λb k cs _ _=>.quiet _ _ (λ_=>JH) dt (.now ⟨rfl,.normal,a,h,rfl⟩)
theorem JQ{id:Nat}(h:Q (.exit id) a w):(Code.exit id).wpT r P Q a w:=λb k cs _ _=>.now ⟨rfl,.exit id,a,h,k,rfl,rfl⟩
theorem Dn(h:Q .ret a w):Code.ret.wpT r P Q a w:=λb k cs _ _=>.now ⟨rfl,.ret,a,h,k,rfl⟩
theorem yz{x y:Code}(h:x.wpT r P (Exit.then (y.wpT r P Q) Q) a w):(Code.seq x y).wpT r P Q a w:=by
 intro b k cs hr hk;refine .quiet _ _ (λ_=>yj) dt ((h b (.code y::k) cs hr hk).bind ?_)
 rintro fr cs' w' ⟨rfl,e,a',hq,he⟩
 cases e with
 |normal=>subst he;exact hq b k _ hr hk
 |exit id=>
  obtain⟨k1,h1,rfl⟩:=he;exact .now ⟨rfl,.exit id,a',hq,k1,h1.trans (exitTo_plain rfl id k),rfl⟩
 |ret=>obtain⟨k1,rfl⟩:=he;exact .now ⟨rfl,.ret,a',hq,k1,rfl⟩
 |_=>exact he.elim
theorem u6{c:Operand}{x y:Code}{t:Bool}(hc:a.eval c=.bool t)(h:(if t then x else y).wpT r P Q a w):(Code.cond c x y).wpT r P Q a w:=
 λb k cs hr hk=>.quiet _ _ (λ_=>yk hc) dt (h b k cs hr hk)
theorem yA{id:Nat}{c:Code}(h:c.wpT r P (Exit.inBlock id Q) a w):(Code.block id c).wpT r P Q a w:=by
 intro b k cs hr hk;refine .quiet _ _ (λ_=>ym) dt ((h b (.inBlock id::k) cs hr hk).bind ?_)
 rintro fr cs' w' ⟨rfl,e,a',hq,he⟩
 cases e with
 |normal=>subst he;exact .quiet _ _ (λ_=>yi) dt (.now ⟨rfl,.normal,a',hq,rfl⟩)
 |exit bw=>
  obtain⟨k1,h1,rfl⟩:=he;by_cases cq:bw=id
  .simp only[Exit.inBlock,cq,cz] at hq;subst cq
   have:exitTo bw k1=some k:=by rw[h1];simp[exitTo]
   exact .quiet _ _ (λ_=>yp this) dt (.now ⟨rfl,.normal,a',hq,rfl⟩)
  .simp only[Exit.inBlock,cq,cP] at hq
   have this:(id==bw)=false:=ak
   have hx:exitTo bw (.inBlock id::k)=exitTo bw k:=by simp[exitTo,this]
   exact .now ⟨rfl,.exit bw,a',hq,k1,h1.trans hx,rfl⟩
 |ret=>obtain⟨k1,rfl⟩:=he;exact .now ⟨rfl,.ret,a',hq,k1,rfl⟩
 |_=>exact he.elim
theorem yB{c:Code}(I:Nat->Act->World->Prop)(n0:Nat)(h0:I n0 a w)(round:∀k a w,I k a w->c.wpT r P (Exit.then (λa' w'=>∃n',n'<k/\I n' a' w') Q) a w):(Code.loop c).wpT r P Q a w:=by
 intro b k cs hr hk;refine .quiet _ _ (λ_=>yn) dt ?_
 have key:∀n a w,I n a w->T P cs.length (Arr b k cs Q) (b.atR a (.code c::.inLoop c::k)) cs w:=by
  intro n
  induction n using Nat.strongRecOn with
  |_ n ih=>
   intro a w hI;refine (round n a w hI b (.inLoop c::k) cs hr hk).bind ?_
   rintro fr cs' w' ⟨rfl,e,a',hq,he⟩
   cases e with
   |normal=>
    subst he;obtain⟨n',a9,f5⟩:=hq;exact .quiet _ _ (λ_=>yo) dt (ih n' a9 a' w' f5)
   |exit id=>
    obtain⟨k1,h1,rfl⟩:=he;exact .now ⟨rfl,.exit id,a',hq,k1,h1.trans (exitTo_plain rfl id k),rfl⟩
   |ret=>obtain⟨k1,rfl⟩:=he;exact .now ⟨rfl,.ret,a',hq,k1,rfl⟩
   |_=>exact he.elim
 grind
theorem qY{id:Nat}{ops:Array Oper}(h:ir r P ops Q ops.toList a w):(Code.region id ops false).wpT r P Q a w:=by
 intro b k cs hr hk;refine .quiet _ _ (λ_=>yu) dt (yx _ a w ?_ b k cs hr hk);have:=Dm (r:=r) (P:=P) (ops:=ops) (Q:=Q) ops.toList 0 a w (λi _=>ae) h;rw[List.range_eq_range',<-CR];exact this
theorem yC{id:Nat}{ops:Array Oper}(hm:P.follows .mixedOrders=true)(h:∀w1,EnvD.E w w1->jD r P .any ops Q ops.size (Array.replicate ops.size false) a { w1 with drawn:=w1.drawn+1 }):(Code.region id ops true).wpT r P Q a w:=by
 intro b k cs hr hk
 refine .eD λw1 e=>⟨_,_,_,_,Dk,dt,EnvD.nil w1,yx _ a _ ?_ b k cs hr hk⟩
 simp only[Region.schedule,hm,iY,cz];exact JN ops.size _ _ a _ (h w1 e)
end
section
variable[bE]
variable{P:Program}{r:Option Nat}{Q:Exit->Act->World->Prop}{a:Act}{w:World}
theorem jS{o:Oper}{K:Act->World->Prop}(hd:∀c,o.op≠.defer c)(h:o.wpt P a w K Q):o.wpT r P a w K Q:=⟨hd,λ_=>bE.lZ _ _,h⟩
def o6(P:Program)(fn:Func)(tmps:Array Value)(R:Ending->World->Prop):List Deferred->World->Prop
 |[],w=>∀w1,EnvD.E w w1->∃v,(results fn tmps).run P w1=.ok v w1/\R (.returned v) w1
 |d::ds,w=>∀w1,EnvD.E w w1->∃D w2,d = { target:=.collected D,args:=#[] }/\(Instr.takeDeferred D).run P w1=.ok [] w2/\o6 P fn tmps R ds w2
theorem yD{f:FuncId}{fn:Func}{R:Ending->World->Prop}(hf:P.funcs[f]?=some fn):∀(ds:List Deferred)(w:World)(fr:Frame)(c:Frame)(cs:List Frame),fr.fn=f->fr.mode=.returning->fr.defers=ds->fr.kind=.normal->iq c->o6 P fn fr.tmps R ds w->T P (cs.length+1) (λfr' cs' w'=>cs'=cs/\∃v,R (.returned v) w'/\fr'=c.finish v) fr (c::cs) w
 |[],w,fr,c,cs,hn,hm,hd,hk,hc,h=>by
  refine .eD λw1 e=>?_
  obtain⟨v,hr,hR⟩:=h w1 e;rw[<-hn] at hf;exact⟨c.finish v,cs,w1,_,by simp only[G,stepG,unwind,hm,hd,hf,Sem.runT_eq,hr,doReturn,hk,GStep.after];rfl,u5 hc v,bE.lZ _ _,.now ⟨rfl,v,hR,rfl⟩⟩
 |d::ds,w,fr,c,cs,hn,hm,hd,hk,hc,h=>by
  refine .eD λw1 e=>?_
  obtain⟨D,w2,rfl,ht,hl⟩:=h w1 e;refine⟨{ fr with defers:=[]++ds },c::cs,w2,_,by simp only[G,stepG,unwind,hm,hd,Sem.runT_eq,ht,GStep.after];rfl,λch=>by simp[hm],bE.lZ _ _,?_⟩;exact yD hf ds w2 { fr with defers:=[]++ds } c cs hn hm rfl hk hc hl
def bodyPostM(P:Program)(fn:Func)(R:Ending->World->Prop):Exit->Act->World->Prop
 |.normal,a,w | .ret,a,w=>o6 P fn a.tmps R a.defers w
 |_,_,_=>False
def bodyPost(P:Program)(fn:Func)(R:Ending->World->Prop):Exit->Act->World->Prop
 |.normal,a,w | .ret,a,w=>a.defers=[]/\∀w1,EnvD.E w w1->∃v,(results fn a.tmps).run P w1=.ok v w1/\R (.returned v) w1
 |_,_,_=>False
theorem Dp{f:FuncId}{fn:Func}{c:Code}{args:Array Value}{w:World}{R:Ending->World->Prop}(hf:P.funcs[f]?=some fn)(hb:fn.body=some c)(h:c.wpT none P (bodyPostM P fn R) { tmps:=args++Array.replicate (fn.ntmps-args.size) undef,defers:=[] } w):j1 P f args w R:=by
 intro cl cs ee
 let b:Frame:={ (default:Frame) with fn:=f,kind:=.normal,roundOf:=none }
 have bp:Frame.enter P f args .normal=b.atR { tmps:=args++Array.replicate (fn.ntmps-args.size) undef,defers:=[] } [.code c]:=by
  simp[Frame.enter,Frame.atR,hf,hb,b]
 rw[bp];refine (h b [] (cl::cs) rfl (by simp[b])).bind ?_
 rintro fr cs' w' ⟨rfl,e,a',hq,he⟩
 cases e with
 |normal=>
  subst he;exact .quiet _ _ (λ_=>yr rfl) (λch=>ae) (yD hf a'.defers w' _ cl cs rfl rfl rfl rfl ee hq)
 |ret=>
  obtain⟨k1,rfl⟩:=he;exact .quiet _ _ (λ_=>yq rfl) (λch=>ae) (yD hf a'.defers w' _ cl cs rfl rfl rfl rfl ee hq)
 |_=>exact hq.elim
theorem u7{f:FuncId}{fn:Func}{c:Code}{args:Array Value}{w:World}{R:Ending->World->Prop}(hf:P.funcs[f]?=some fn)(hb:fn.body=some c)(h:c.wpT none P (bodyPost P fn R) { tmps:=args++Array.replicate (fn.ntmps-args.size) undef,defers:=[] } w):j1 P f args w R:=by
 refine Dp hf hb (eT h λe a w hq=>?_)
 cases e with
 |normal=>obtain⟨h1,h2⟩:=hq;show o6 _ _ _ _ a.defers _;rw[h1];exact h2
 |ret=>obtain⟨h1,h2⟩:=hq;show o6 _ _ _ _ a.defers _;rw[h1];exact h2
 |_=>exact hq.elim
def QY(P:Program)(l:Nat)(R:Ending->World->Prop):Exit->Act->World->Prop
 |.normal,_,w=>∀w1,EnvD.E w w1->∃v w',(Instr.endRound l none).run P w1=.ok v w'/\R (.returned v) w'
 |.ret,_,w=>∀w1,EnvD.E w w1->∃v w',(Instr.endRound l (some .ret)).run P w1=.ok v w'/\R (.returned v) w'
 |_,_,_=>False
theorem JR{l:Nat}{f:FuncId}{tmps:Array Value}{assign body:Code}{w:World}{R:Ending->World->Prop}(h:assign.wpT (some l) P (Exit.then (λa1 w1=>∀w2,EnvD.E w1 w2->∃w3,(Instr.beginRound l).run P w2=.ok () w3/\body.wpT (some l) P (QY P l R) a1 w3) (λ_ _ _=>False)) { tmps:=tmps,defers:=[] } w):qp P l f tmps assign body w R:=by
 intro c cs hc
 let b:Frame:={ (default:Frame) with fn:=f,kind:=.normal,roundOf:=some l }
 have f6:Frame.round l f tmps assign body .normal=b.atR { tmps:=tmps,defers:=[] } [.code assign,.beginRound,.code body]:=by rfl
 rw[f6];refine (h b [.beginRound,.code body] (c::cs) rfl (by simp[b])).bind ?_
 rintro fr cs' w' ⟨rfl,e,a1,hq,he⟩
 cases e with
 |normal=>
  subst he
  refine .eD λw2 e2=>?_
  obtain⟨w3,f8,c7⟩:=hq w2 e2;refine⟨b.atR a1 [.code body],c::cs,w3,_,by simp only[G,stepG,stepG.exec,stepG.apply,Frame.atR,b,Option.elim,Sem.run_bind,Sem.runT_eq,f8,Result.andThen,Sem.run_pure,Frame.finish,cz,GStep.after];rfl,dt,bE.lZ _ _,(c7 b [] (c::cs) rfl (by simp[b])).bind ?_⟩
  rintro fr cs' w4 ⟨rfl,e,a2,hq,he⟩
  cases e with
  |normal=>
   subst he
   refine .eD λw5 e5=>?_
   obtain⟨v,w6,b9,hR⟩:=hq w5 e5;exact⟨c.finish v,cs,w6,_,by simp only[G,stepG,stepG.exec,Frame.atR,b,Sem.runT_eq,b9,doReturn,GStep.after];rfl,u5 hc v,bE.lZ _ _,.now ⟨rfl,v,hR,rfl⟩⟩
  |ret=>
   obtain⟨k1,rfl⟩:=he
   refine .eD λw5 e5=>?_
   obtain⟨v,w6,b9,hR⟩:=hq w5 e5;exact⟨c.finish v,cs,w6,_,by simp only[G,stepG,stepG.exec,Frame.atR,b,Sem.runT_eq,b9,doReturn,GStep.after];rfl,u5 hc v,bE.lZ _ _,.now ⟨rfl,v,hR,rfl⟩⟩
  |_=>exact hq.elim
 |_=>exact hq.elim
def BE(P:Program)(l:Nat)(r:Option Nat)(Q:Exit->Act->World->Prop)(a':Act):Ending->World->Prop
 |.returned _,w3=>∀w4,EnvD.E w3 w4->∃jump w5,(Instr.endLoop l).run P w4=.ok jump w5 /\
   (match jump with
    |none=>Q .normal a' w5
    |some c=>c.wpT r P Q a' w5)
 |_,_=>False
theorem JS{g:Operand}{ps:Array Tmp}{assign body:Code}{Q:Exit->Act->World->Prop}{a:Act}{w:World}(h:∀w0,EnvD.E w w0->∀fn,∃(l:Nat)(mark:List Deferred)(w1:World)(d:Deferred)(dk:World)(f:FuncId)(args:Array Value)(w2:World),(Instr.enterLoop fn a.tmps ps assign body r).run P w0=.ok (l,mark) w1/\(resolve a.eval (rangeCall g l) 0).run P w1=.ok d dk/\(invoke d.target d.args).run P dk=.ok (.enter f args) w2/\j1 P f args w2 (BE P l r Q { a with defers:=mark++a.defers })):(Code.rangeFunc g ps assign body).wpT r P Q a w:=by
 intro b k cs hr hk
 refine .eD λw0 e0=>?_
 obtain⟨l,mark,w1,d,dk,f,args,w2,he,dy,hinv,c9⟩:=h w0 e0 b.fn;rw[<-hr] at he
 have bt:(b.kind==CallKind.early)=false:=ak
 have d8:=Frame.eval_atR b { a with defers:=mark++a.defers } (.inRangeFunc l::k);simp only[Frame.atR] at d8;have cx:Sem.run P (resolve ({ tmps:=a.tmps,defers:=mark++a.defers }:Act).eval { callee:=.value g,args:=#[.const (.func (.yield l) #[] #[])],argTypes:=#[] } 0) w1=.ok d dk:=dy
 obtain⟨es,df⟩:∃es,stepG P true (G (b.atR a (.code (.rangeFunc g ps assign body)::k)) cs) w0=.go (G (Frame.enter P f args .normal) (b.atR { a with defers:=mark++a.defers } (.inRangeFunc l::k)::cs)) w2 es:=by
  exact⟨_,by simp only[G,stepG,stepG.exec,Frame.atR,Sem.runT_eq,he,stepG.apply,d8,Sem.run_bind,cx,hinv,Result.andThen,bt,cz,dB,cP,GStep.after];rfl⟩
 refine⟨Frame.enter P f args .normal,b.atR { a with defers:=mark++a.defers } (.inRangeFunc l::k)::cs,w2,es,df,λch=>by simp[Frame.enter],bE.lZ _ _,(c9 _ cs dt).low.bind ?_⟩
 rintro fr cs' w3 ⟨rfl,v,hR,rfl⟩
 rw[finish_atR_inRangeFunc]
 refine .eD λw4 e4=>?_
 obtain⟨jump,w5,b9,hj⟩:=hR w4 e4;refine⟨b.atR { a with defers:=mark++a.defers } ((jump.map Item.code).toList++k),_,w5,_,by simp only[G,stepG,stepG.exec,Frame.atR,Sem.runT_eq,b9,GStep.after];rfl,dt,bE.lZ _ _,?_⟩
 cases jump with
 |none=>exact .now ⟨rfl,.normal,_,hj,rfl⟩
 |some c=>exact hj b k _ hr hk
end
end Go.Fi
namespace Go.Fi
open Go Go.RowKit
inductive PV where
 |undef
 |jE
 |bool (b:Bool)
 |int (k:IntKind) (n:Int)
 |str (s:ByteArray)
 |agg (cs:List PV)
 |tup (vs:List PV)
 |sl (n:Nat) (cells:List PV)
 |ip (cells:List PV) (off:Nat)
 |gN
 |lh
 |ifc (t:TypeId) (p:PV)
 |fn (f:FuncId) (cap:List PV)
 |yl (l:Nat)
 deriving Inhabited
def dF(w:World)(b off:Nat)(n:Nat)(vals:Nat->Value):Prop:=∀j,j<n->w.cell? ⟨b,off+j,none⟩=some (vals j)
inductive Rep(G:Nat->Prop)(w:World):PV->Value->Prop
 |undef (v:Value):Rep G w .undef v
 |jE (b:Bool):Rep G w .jE (.bool b)
 |bool (b:Bool):Rep G w (.bool b) (.bool b)
 |int (k:IntKind) (n:Int):Rep G w (.int k n) (.int k n)
 |str (s:ByteArray):Rep G w (.str s) (.string s)
 |agg {cs:List PV} {vs:Array Value}:cs.length=vs.size->(∀(j:Nat)(p:PV)(v:Value),cs[j]?=some p->vs[j]?=some v->Rep G w p v)->Rep G w (.agg cs) (.agg vs)
 |tup {cs:List PV} {vs:Array Value}:cs.length=vs.size->(∀(j:Nat)(p:PV)(v:Value),cs[j]?=some p->vs[j]?=some v->Rep G w p v)->Rep G w (.tup cs) (.tuple vs)
 |slnil:Rep G w (.sl 0 []) (.slice none 0 0)
 |sl {n cap b off:Nat} {cells:List PV} (vals:Nat->Value):n<=cap->dF w b off cells.length vals->(cells≠[]->G b) ->
   (∀(j:Nat)(p:PV),cells[j]?=some p->Rep G w p (vals j))->Rep G w (.sl n cells) (.slice (some ⟨b,off,none⟩) n cap)
 |slz {n cap:Nat} {a:Addr}:n<=cap->Rep G w (.sl n []) (.slice (some a) n cap)
 |ip {o b off:Nat} {cells:List PV} (vals:Nat->Value):dF w b off cells.length vals->(cells≠[]->G b) ->
   (∀(j:Nat)(p:PV),cells[j]?=some p->Rep G w p (vals j))->Rep G w (.ip cells o) (.pointer (some ⟨b,off+o,none⟩))
 |gN:Rep G w .gN (.pointer none)
 |lh:Rep G w .lh .nilIface
 |ifc {t:TypeId} {p:PV} {v:Value}:Rep G w p v->Rep G w (.ifc t p) (.iface t v)
 |fn {f:FuncId} {cap:List PV} {vs:Array Value}:cap.length=vs.size->(∀(j:Nat)(p:PV)(v:Value),cap[j]?=some p->vs[j]?=some v->Rep G w p v)->Rep G w (.fn f cap) (.func (.func f) #[] vs)
 |yl (l:Nat):Rep G w (.yl l) (.func (.yield l) #[] #[])
theorem dF.keep{w w':World}{b off n:Nat}{vals:Nat->Value}(h:dF w b off n vals)(hb:w'.heap[b]?=w.heap[b]?):dF w' b off n vals:=by
 intro j hj;rw[<-h j hj];simp only[World.cell?,hb]
theorem dF.lt{w:World}{b off n:Nat}{vals:Nat->Value}(h:dF w b off n vals)(hn:0<n):b<w.heap.size:=by
 have h0:=h 0 hn;simp only[World.cell?] at h0
 rcases eX b w.heap.size with a9|fh
 .exact a9
 .rw[CS fh] at h0;cases h0
theorem Rep.mono{G G':Nat->Prop}{w w':World}{p:PV}{v:Value}(h:Rep G w p v)(hG:∀b,b<w.heap.size->G b->G' b)(hw:∀b,b<w.heap.size->G b->w'.heap[b]?=w.heap[b]?):Rep G' w' p v:=by
 induction h with
 |undef v=>exact .undef v
 |jE b=>exact .jE b
 |bool b=>exact .bool b
 |int k n=>exact .int k n
 |str s=>exact .str s
 |agg hl _ ih=>exact .agg hl ih
 |tup hl _ ih=>exact .tup hl ih
 |slnil=>exact .slnil
 |@sl n cap b off cells vals hn hc hg hr ih=>
  cases cells with
  |nil=>exact .slz hn
  |cons x xs=>
   have hb:b<w.heap.size:=hc.lt ae;exact .sl vals hn (hc.keep (hw b hb (hg ae))) (λ_=>hG b hb (hg ae)) ih
 |slz hn=>exact .slz hn
 |@ip o b off cells vals hc hg hr ih=>
  cases cells with
  |nil=>exact .ip vals (λj hj=>by simp at hj) (λh=>absurd rfl h) (λj p hj=>by simp at hj)
  |cons x xs=>
   have hb:b<w.heap.size:=hc.lt ae;exact .ip vals (hc.keep (hw b hb (hg ae))) (λ_=>hG b hb (hg ae)) ih
 |gN=>exact .gN
 |lh=>exact .lh
 |ifc _ ih=>exact .ifc ih
 |fn hl _ ih=>exact .fn hl ih
 |yl l=>exact .yl l
theorem Rep.imp{G G':Nat->Prop}{w:World}{p:PV}{v:Value}(h:Rep G w p v)(hG:∀b,G b->G' b):Rep G' w p v:=
 h.mono (λb _=>hG b) (λ_ _ _=>rfl)
inductive AV where
 |w (own full:Bool) (v:PV)
 |ptr (id ver off:Nat)
 |msl (id ver sz off n:Nat)
 |mp (id:Nat)
 |agg (cs:List AV)
 |tup (cs:List AV)
 |fn (f:FuncId) (cap:List AV)
 deriving Inhabited
structure Mm where
 addr:Nat->Nat->Option (Nat×Nat)
 top:Nat->Nat
 dom:Nat->Prop
structure Base where
 n:Nat
 G:Nat->Prop
def Good(B:Base)(L:Nat->Prop)(own:Bool)(b:Nat):Prop:=¬L b/\(own=true->B.n<=b)/\(b<B.n->B.G b)
inductive bG(B:Base)(L:Nat->Prop)(m:Mm)(w:World):AV->Value->Prop
 |w {own full:Bool} {p:PV} {v:Value}:Rep (Good B L own) w p v->(full=true->∀a n c,v=.slice a n c->n=c)->bG B L m w (.w own full p) v
 |ptr {id ver off b C:Nat}:m.dom id->ver<=m.top id->m.addr id ver=some (b,C)->ver<=C->bG B L m w (.ptr id ver off) (.pointer (some ⟨b,off,none⟩))
 |msl {id ver sz off n cap:Nat} {a:Option Addr}:m.dom id->ver<=m.top id->n<=cap ->
   (m.addr id ver=none->cap=0/\ver=0) ->
   (∀b C,m.addr id ver=some (b,C)->(0<cap->a=some ⟨b,off,none⟩)/\off+cap*sz<=C/\ver<=off+cap*sz) ->
   bG B L m w (.msl id ver sz off n) (.slice a n cap)
 |mp {id b:Nat}:m.dom id->1<=m.top id->m.addr id 1=some (b,0)->bG B L m w (.mp id) (.map (some b))
 |agg {cs:List AV} {vs:Array Value}:cs.length=vs.size->(∀(j:Nat)(p:AV)(v:Value),cs[j]?=some p->vs[j]?=some v->bG B L m w p v)->bG B L m w (.agg cs) (.agg vs)
 |tup {cs:List AV} {vs:Array Value}:cs.length=vs.size->(∀(j:Nat)(p:AV)(v:Value),cs[j]?=some p->vs[j]?=some v->bG B L m w p v)->bG B L m w (.tup cs) (.tuple vs)
 |fn {f:FuncId} {cap:List AV} {vs:Array Value}:cap.length=vs.size->(∀(j:Nat)(p:AV)(v:Value),cap[j]?=some p->vs[j]?=some v->bG B L m w p v)->bG B L m w (.fn f cap) (.func (.func f) #[] vs)
structure Mm.le(m m':Mm):Prop where
 dom:∀id,m.dom id->m'.dom id
 top:∀id,m.dom id->m.top id<=m'.top id
 addr:∀id ver,m.dom id->ver<=m.top id->m'.addr id ver=m.addr id ver
theorem Mm.le.refl(m:Mm):m.le m:=⟨λ_ h=>h,λ_ _=>bU _,λ_ _ _ _=>rfl⟩
theorem Mm.le.trans{a b c:Mm}(h:a.le b)(k:b.le c):a.le c:=
 ⟨λid hd=>k.dom id (h.dom id hd),λid hd=>dN (h.top id hd) (k.top id (h.dom id hd)),
   λid ver hd hv=>(k.addr id ver (h.dom id hd) (dN hv (h.top id hd))).trans (h.addr id ver hd hv)⟩
theorem bG.mono{B:Base}{L L':Nat->Prop}{m m':Mm}{w w':World}{p:AV}{v:Value}(h:bG B L m w p v)(hm:m.le m')(hL:∀b,b<w.heap.size->¬L b->¬L' b)(hw:∀b,b<w.heap.size->¬L b->w'.heap[b]?=w.heap[b]?):bG B L' m' w' p v:=by
 induction h with
 |w hr hf=>exact .w (hr.mono (λb hb hg=>⟨hL b hb hg.1,hg.2⟩) (λb hb hg=>hw b hb hg.1)) hf
 |ptr hd ht ha hC=>exact .ptr (hm.dom _ hd) (dN ht (hm.top _ hd)) ((hm.addr _ _ hd ht).trans ha) hC
 |mp hd ht ha=>exact .mp (hm.dom _ hd) (dN ht (hm.top _ hd)) ((hm.addr _ _ hd ht).trans ha)
 |msl hd ht hn h0 h1=>
  refine .msl (hm.dom _ hd) (dN ht (hm.top _ hd)) hn (λe=>h0 ((hm.addr _ _ hd ht).symm.trans e)) (λb C e=>h1 b C ((hm.addr _ _ hd ht).symm.trans e))
 |agg hl _ ih=>exact .agg hl ih
 |tup hl _ ih=>exact .tup hl ih
 |fn hl _ ih=>exact .fn hl ih
abbrev Env:=List (Nat×AV)
abbrev bz:=List (Nat×List AV)
def get:Env->Nat->AV
 |[],_=>.w false false .undef
 |(k,v)::r,t=>if k=t then v else get r t
def bY:bz->Nat->Option (List AV)
 |[],_=>none
 |(k,v)::r,t=>if k=t then some v else bY r t
def dm:bz->Nat->List AV->bz
 |[],_,_=>[]
 |(k,v)::r,t,x=>if k=t then (k,x)::r else (k,v)::dm r t x
def put(env:Env):Option Nat->AV->Env
 |some d,v=>(d,v)::env
 |none,_=>env
def m8:Value->AV
 |.bool b=>.w false false (.bool b)
 |.int k n=>.w false false (.int k n)
 |.string s=>.w false false (.str s)
 |.slice none 0 0=>.w true true (.sl 0 [])
 |.pointer none=>.w true false .gN
 |.nilIface=>.w true false .lh
 |_=>.w false false .undef
def cst:Value->AV
 |.agg cs=>.agg (cs.toList.map m8)
 |.tuple cs=>.tup (cs.toList.map m8)
 |v=>m8 v
def ev(env:Env):Operand->AV
 |.tmp t=>get env t
 |.const v=>cst v
 |.func f=>.fn f []
 |.global _=>.w false false .undef
def inI(k:IntKind)(n:Int):Prop:=k.min<=n/\n<=k.max
def tyL(P:Program)(t:TypeId):Option (Nat×Bool):=
 match P.info? t,P.underlying t with
 |some i,some (.struct _)=>some (i.size,true)
 |some i,some (.array _ _)=>some (i.size,true)
 |some i,some _=>some (i.size,false)
 |_,_=>none
def slE(P:Program)(t:TypeId):Option (TypeId×Nat):=
 match P.underlying t with
 |some (.slice e)=>(P.info? e).map λi=>(e,i.size)
 |_=>none
def arE(P:Program)(t:TypeId):Option (Nat×Nat):=
 match P.underlying t with
 |some (.array n e)=>(P.info? e).map λi=>(n,i.size)
 |_=>none
def isStr(P:Program)(t:TypeId):Bool:=
 match P.underlying t with
 |some .string=>true
 |_=>false
def fOf(P:Program)(s:TypeId)(k:Nat):Option (Nat×Nat×Bool):=
 match P.underlying s with
 |some (.struct fs)=>
  match fs[k]? with
  |some f=>(tyL P f.type).bind λ(z,a)=>if z=0 then none else some (f.offset,z,a)
  |none=>none
 |_=>none
def fu(P:Program)(t:TypeId):Option (List AV):=
 match P.info? t with
 |some i=>i.zero.map λz=>z.cells.toList.map m8
 |none=>none
def byE(P:Program)(e:TypeId):Option Nat:=(P.info? e).map (·.bytes)
def pls(P:Program)(t:TypeId):Option (List (Nat×Nat)):=
 match P.underlying t with
 |some (.struct fs)=>fs.toList.mapM λf=>(P.info? f.type).map λx=>(f.offset,x.size)
 |some (.array n e)=>(P.info? e).map λx=>(List.range n).map λi=>(i*x.size,x.size)
 |_=>none
def o7(P:Program)(t:TypeId):Option IntKind:=
 match P.underlying t with
 |some (.int k)=>some k
 |_=>none
def AV.cells:AV->List AV
 |.agg cs=>cs
 |.w own _ (.agg cs)=>cs.map (AV.w own false)
 |v=>[v]
def AV.ok:AV->Bool
 |.w _ _ .undef=>false
 |.w _ _ (.tup _)=>false
 |.tup _=>false
 |_=>true
def AV.one:AV->Bool
 |.w _ _ .undef=>false
 |.w _ _ (.tup _)=>false
 |.w _ _ (.agg _)=>false
 |.tup _=>false
 |.agg _=>false
 |_=>true
def AV.isAgg:AV->Bool
 |.agg _=>true
 |.w _ _ (.agg _)=>true
 |_=>false
def jF(l:List AV)(i:Nat):AV:=l.getD i (.w false false .undef)
def fw(l:List PV)(i:Nat):PV:=l.getD i .undef
def nth{α:Type}[Inhabited α](l:List α)(i:Nat):α:=l.getD i default
def setAt(cells:List AV)(off:Nat):List AV->List AV
 |[]=>cells
 |v::r=>setAt (cells.set off v) (off+1) r
def o8(place:Nat->Option (Nat×Nat))(cells:List AV):List (Nat×AV)->Option (List AV)
 |[]=>some cells
 |(i,v)::rest=>
  match place i with
  |none=>none
  |some (off,size)=>if v.ok=false\/v.cells.length≠size\/off+v.cells.length>cells.length then none else o8 place (setAt cells off v.cells) rest
def iN(n:Nat)(zs:List AV):List AV:=(List.replicate n zs).flatten
def eqS:Nat->PV->PV->Option Bool
 |1,.int k a,.int k' b=>if k=k' then some (decide (a=b)) else none
 |0,.bool a,.bool b=>some (a==b)
 |2,.str a,.str b=>some (decide (a=b))
 |_,_,_=>none
def eqL:List Nat->List AV->List AV->Option Bool
 |[],[],[]=>some true
 |n::ns,.w _ _ a::x,.w _ _ b::y=>
  match eqS n a b with
  |some t=>match eqL ns x y with
   |some u=>some (t&&u)
   |none=>none
  |none=>none
 |_,_,_=>none
def lvF(lv:TypeId->Option (List Nat)):List Field->Nat->Option (List Nat)
 |[],_=>some []
 |f::fs,cur=>if f.name = "_" \/ f.offset≠cur then none else match lv f.type with
  |some k=>match lvF lv fs (cur+k.length) with
   |some r=>some (k++r)
   |none=>none
  |none=>none
def lvs(P:Program):Nat->TypeId->Option (List Nat)
 |0,_=>none
 |d+1,t=>
  match P.underlying t with
  |some .bool=>some [0]
  |some (.int _)=>some [1]
  |some .string=>some [2]
  |some (.struct fs)=>if P.stoodInHeld t then none else match P.info? t,lvF (lvs P d) fs.toList 0 with
   |some i,some r=>if i.size=r.length then some r else none
   |_,_=>none
  |some (.array n e)=>match lvs P d e,P.info? e,P.info? t with
   |some k,some i,some it=>if i.size=k.length/\it.size=n*k.length then some (List.replicate n k).flatten else none
   |_,_,_=>none
  |_=>none
def lj(P:Program)(t:TypeId):Option (List Nat):=
 match P.underlying t with
 |some (.struct _)|some (.array _ _)=>if P.eqGuardType P.depth t then none else lvs P 6 t
 |_=>none
def isBool(P:Program)(t:TypeId):Bool:=
 match P.underlying t with
 |some .bool=>true
 |_=>false
def m9(op:BinOp)(k:IntKind)(a b:Int):Option (Prop×PV):=
 match op with
 |.add=>some (inI k (a+b),.int k (a+b))
 |.sub=>some (inI k (a-b),.int k (a-b))
 |.mul=>some (inI k (a*b),.int k (a*b))
 |.quo=>some (b≠0/\inI k (a.tdiv b),.int k (a.tdiv b))
 |.rem=>some (b≠0,.int k (a.tmod b))
 |.shl=>if k=.i64 then some ((0<=b/\b<64)/\inI k (a*2 ^ b.toNat),.int k (a*2 ^ b.toNat)) else none
 |.shr=>if b=32/\k=.u64 then some (True,.int k (a / 4294967296)) else if b≠1/\k=.i64 then some (0<=b/\b<64,.int k (a / 2 ^ b.toNat)) else some (b=1,.int k (a / 2))
 |.and=>if b=4294967295/\k=.u64 then some (0<=a/\a<4294967296,.int k a) else if b=1/\k=.i64 then some (0<=a/\a<4294967296,.int k (a%2)) else none
 |.eql=>some (True,.bool (decide (a=b)))
 |.neq=>some (True,.bool (!decide (a=b)))
 |.lss=>some (True,.bool (decide (a<b)))
 |.leq=>some (True,.bool (decide (a<=b)))
 |.gtr=>some (True,.bool (decide (b<a)))
 |.geq=>some (True,.bool (decide (b<=a)))
 |_=>none
def bin(P:Program)(t:TypeId)(op:BinOp)(x y:PV):Option (Prop×PV):=
 match x,y with
 |.int k a,.int k' b=>if k=k' then m9 op k a b else none
 |.str a,.str b=>
  match op with
  |.eql=>some (True,.bool (decide (a=b)))
  |.neq=>some (True,.bool (!decide (a=b)))
  |.add=>some (a.size+b.size<=1000000000000,.str (a++b))
  |_=>none
 |.bool a,.bool b=>
  bif isBool P t then match op with
  |.eql=>some (True,.bool (a==b))
  |.neq=>some (True,.bool (!(a==b)))
  |_=>none
  else none
 |_,_=>none
def qv:AV->Option Int
 |.w _ _ (.int _ a)=>some a
 |_=>none
def lov(ρ:Operand->AV):Option Operand->Option Int
 |none=>some 0
 |some o=>qv (ρ o)
def hiv(ρ:Operand->AV)(k:Nat):Option Operand->Option Int
 |none=>some k
 |some o=>qv (ρ o)
def BG(P:Program)(ρ:Operand->AV)(t:TypeId)(x:AV)(lo hi mx:Option Operand):Option (Prop×AV×List (List AV)):=
 match isStr P t,x with
 |true,.w _ _ (.str s)=>
  match lov ρ lo,hiv ρ s.size hi,mx with
  |some l,some u,none=>some (0<=l/\l<=u/\u<=s.size,.w false false (.str (s.extract l.toNat u.toNat)),[])
  |_,_,_=>none
 |false,.w own _ (.ip cells off)=>
  match arE P t,lo,hi,mx with
  |some (n,sz),none,none,none=>some (off+n*sz<=cells.length/\0<n,.w own true (.sl n ((cells.drop off).take (n*sz))),[])
  |some (n,sz),none,some y,none=>match qv (ρ y) with
   |some u=>some (off+n*sz<=cells.length/\0<n/\0<=u/\u<=n,.w own false (.sl u.toNat ((cells.drop off).take (u.toNat*sz))),[])
   |none=>none
  |_,_,_,_=>none
 |_,_=>none
def BH(t:TypeId):AV->AV
 |.w own _ p=>.w own false (.ifc t p)
 |_=>.w false false .undef
def BI(P:Program)(t:TypeId):Bool:=
 match P.underlying t with
 |some (.interface _)=>false
 |some _=>true
 |none=>false
def uo(s:ByteArray)(k:Nat):Nat:=(s.data.toList.getD k 0).toNat
def gz(l:List (PV×PV)):AV:=.w false false (.agg (l.map λp=>.agg [p.1,p.2]))
def dL:PV->Value
 |.int k n=>.int k n
 |.str s=>.string s
 |.bool b=>.bool b
 |_=>undef
def isLit:PV->Bool
 |.int _ _=>true
 |.str _=>true
 |.bool _=>true
 |_=>false
def rK:List PV->Option (List (PV×PV))
 |[]=>some []
 |.agg [a,b]::r=>(rK r).map ((a,b) :: ·)
 |_=>none
def fI:List AV->Option (List (PV×PV))
 |[.w _ _ (.agg ps)]=>rK ps
 |_=>none
def eqK:PV->PV->Bool
 |.str a,.str b=>decide (a=b)
 |.int k a,.int k' b=>decide (k=k')&&decide (a=b)
 |_,_=>false
def okK:TypeDesc->PV->Bool
 |.string,.str _=>true
 |.int k,.int k' _=>decide (k=k')
 |_,_=>false
def okM(d:TypeDesc)(kp:PV)(l:List (PV×PV)):Bool:=okK d kp&&l.all λp=>okK d p.1&&isLit p.2
def ll:List (PV×PV)->PV->Option PV
 |[],_=>none
 |p::r,k=>if eqK k p.1=true then some p.2 else ll r k
def iO:List (PV×PV)->PV->PV->List (PV×PV)
 |[],k,v=>[(k,v)]
 |p::r,k,v=>if eqK k p.1=true then (k,v)::r else p::iO r k v
def xl(P:Program)(t:TypeId):Option PV:=
 match (P.info? t).bind (·.zero) with
 |some (.int k n)=>some (.int k n)
 |some (.string s)=>some (.str s)
 |some (.bool b)=>some (.bool b)
 |_=>none
def lq(P:Program)(t:TypeId):Option (TypeDesc×PV):=
 match P.underlying t with
 |some (.map k e)=>match P.underlying k,xl P e with
  |some d,some z=>some (d,z)
  |_,_=>none
 |_=>none
def lkR(c:Bool)(r:Option PV)(z:PV):AV:=
 match c,r with
 |true,some v=>.w false false (.tup [v,.bool true])
 |true,none=>.w false false (.tup [z,.bool false])
 |false,some v=>.w false false v
 |false,none=>.w false false z
def lkV(P:Program)(t:TypeId)(cells:Option (List AV))(k:AV)(c:Bool):Option (Prop×AV×List (List AV)):=
 match cells.bind fI,k,lq P t with
 |some l,.w _ _ kp,some (d,z)=>some (okM d kp l=true,lkR c (ll l kp) z,[])
 |_,_,_=>none
def mpC(h:bz):AV->Option (List AV)
 |.mp id=>bY h id
 |_=>none
def qw{α:Type}(c:List α)(off cnt:Nat):List α:=if off=0/\cnt=c.length then c else (c.drop off).take cnt
theorem yJ{α:Type}(c:List α)(off cnt:Nat):qw c off cnt=(c.drop off).take cnt:=by
 unfold qw;simp_all
def iu(h:bz)(sz:Nat):AV->Option (Nat×List AV×Prop)
 |.msl id ver z off k=>match bY h id with
  |some c=>some (k,qw c off (k*sz),c.length=ver/\z=sz/\off+k*sz<=ver)
  |none=>none
 |.w own _ (.sl k c)=>some (k,c.map (AV.w own false),c.length=k*sz)
 |_=>none
def flat:PV->Bool
 |.undef=>true
 |.jE=>true
 |.bool _=>true
 |.int _ _=>true
 |.str _=>true
 |.gN=>true
 |.lh=>true
 |_=>false
def gA:List PV->Bool
 |[]=>true
 |x::r=>flat x&&gA r
def pvs:List AV->Option (List PV)
 |[]=>some []
 |.w _ _ p::r=>match pvs r with
  |some q=>some (p::q)
  |none=>none
 |_=>none
def BJ(P:Program)(h:bz)(t tx:TypeId)(s x:AV):Option (Prop×AV×List (List AV)):=
 match slE P t,slE P tx with
 |some (e,sz),some _=>
  match byE P e,fu P e,iu h sz x with
  |some by_,some z,some (k2,news,c)=>
   match s with
   |.w own true (.sl k cells)=>
    match pvs news with
    |some q=>some ((c/\cells.length=k*sz/\z.length=sz/\0<sz/\k+k2<=1000000000/\by_<=100000),.w (gA q&&(own || cells.isEmpty)) false (.sl (k+k2) (cells++q)),[])
    |none=>none
   |_=>none
  |_,_,_=>none
 |_,_=>none
def BK(P:Program)(h:bz)(args:List AV)(tys:List TypeId):Option (Prop×AV×List (List AV)):=
 match args,tys with
 |[s,x],[t,tx]=>BJ P h t tx s x
 |_,_=>none
def aOp(P:Program)(h:bz)(n:Nat)(ρ:Operand->AV):Op->Option (Prop×AV×List (List AV))
 |.move x | .assign x=>some (True,ρ x,[])
 |.pick c a b=>
  match ρ c with
  |.w _ _ (.bool t)=>
   match ρ a,ρ b with
   |.w _ _ (.bool x),.w _ _ (.bool y)=>some (True,.w false false (.bool (bif t then x else y)),[])
   |x,y=>some (True,bif t then x else y,[])
  |_=>none
 |.alloc t=>match fu P t with
  |some z=>some (True,.ptr n z.length 0,[z])
  |none=>none
 |.box _ x=>some ((ρ x).ok=true,.ptr n (ρ x).cells.length 0,[(ρ x).cells])
 |.build t parts=>match fu P t with
  |some z=>match pls P t with
   |some l=>match o8 (l[·]?) z (parts.toList.map λ(i,x)=>(i,ρ x)) with
    |some cs=>some (True,.agg cs,[])
    |none=>none
   |none=>none
  |none=>none
 |.buildSlice t len parts=>match slE P t with
  |some (e,sz)=>match fu P e with
   |some z=>match o8 (λi=>some (i*sz,sz)) (iN len z) (parts.toList.map λ(i,x)=>(i,ρ x)) with
    |some cs=>some (z.length=sz/\0<sz/\len*sz<=1000,.msl n cs.length sz 0 len,[cs])
    |none=>none
   |none=>none
  |none=>none
 |.load t a=>
  match tyL P t with
  |some (sz,g)=>
   match ρ a with
   |.ptr id ver off=>match bY h id with
    |some cells=>bif g then some (cells.length=ver/\off+sz<=cells.length,.agg ((cells.drop off).take sz),[])
     else some (cells.length=ver/\off<cells.length,jF cells off,[])
    |none=>none
   |.w own _ (.ip cells off)=>bif g then some (off+sz<=cells.length,.w own false (.agg ((cells.drop off).take sz)),[])
     else some (off<cells.length,.w own false (fw cells off),[])
   |_=>none
  |none=>none
 |.nilCheck x=>match ρ x with
  |.ptr id ver off=>some (True,.ptr id ver off,[])
  |.w own f (.ip cells off)=>some (True,.w own f (.ip cells off),[])
  |.fn f c=>some (True,.fn f c,[])
  |.w own f (.fn g c)=>some (True,.w own f (.fn g c),[])
  |_=>none
 |.binOp op t x y _=>
  match lj P t with
  |some k=>match eqL k (ρ x).cells (ρ y).cells with
   |some b=>match op with
    |.eql=>some ((ρ x).isAgg=true/\(ρ y).isAgg=true,.w false false (.bool b),[])
    |.neq=>some ((ρ x).isAgg=true/\(ρ y).isAgg=true,.w false false (.bool (!b)),[])
    |_=>none
   |none=>none
  |none=>match ρ x,ρ y with
   |.w _ _ a,.w _ _ b=>match bin P t op a b with
    |some (c,v)=>some (c,.w false false v,[])
    |none=>none
   |_,_=>none
 |.unOp op _ x=>
  match op,ρ x with
  |.not,.w _ _ (.bool b)=>some (True,.w false false (.bool (!b)),[])
  |.neg,.w _ _ (.int k a)=>some (inI k (-a),.w false false (.int k (-a)),[])
  |_,_=>none
 |.convert src dst x=>
  match o7 P src,o7 P dst,ρ x with
  |some _,some k,.w _ _ (.int _ a)=>some (inI k a,.w false false (.int k a),[])
  |_,_,_=>none
 |.makeInterface t x=>bif BI P t then some (True,BH t (ρ x),[]) else none
 |.makeFunc (.func f) first captured=>if first.size=0 then some (True,.fn f (captured.toList.map ρ),[]) else none
 |.makeSlice t l c=>
  match slE P t,ρ l,ρ c with
  |some (e,sz),.w _ _ (.int _ a),.w _ _ (.int _ b)=>match fu P e,byE P e with
   |some z,some by_=>some (a=b/\0<=a/\a<=1000000000/\z.length=sz/\0<sz/\by_<=100000,.msl n (iN a.toNat z).length sz 0 a.toNat,[iN a.toNat z])
   |_,_=>none
  |_,_,_=>none
 |.slice t x lo hi mx=>
  match slE P t with
  |some (_,sz)=>
   match lov ρ lo,ρ x with
   |some l,.w own _ (.sl k cells)=>
    match hiv ρ k hi,mx with
    |some u,none=>some (0<=l/\l<=u/\u<=k,.w own false (.sl (u.toNat-l.toNat) ((cells.drop (l.toNat*sz)).take ((u.toNat-l.toNat)*sz))),[])
    |some u,some y=>match qv (ρ y),hi with
     |some q,some _=>some (0<=l/\l<=u/\u<=k/\q=u,.w own true (.sl (u.toNat-l.toNat) ((cells.drop (l.toNat*sz)).take ((u.toNat-l.toNat)*sz))),[])
     |_,_=>none
    |none,_=>none
   |some l,.msl id ver z off k=>
    match hiv ρ k hi,mx with
    |some u,none=>some (0<=l/\l<=u/\u<=k/\z=sz,.msl id ver z (off+l.toNat*sz) (u.toNat-l.toNat),[])
    |_,_=>none
   |_,_=>none
  |none=>BG P ρ t (ρ x) lo hi mx
 |.fieldAddr s x f=>match fOf P s f with
  |some (o,_,_)=>match ρ x with
   |.ptr id ver off=>some (True,.ptr id ver (off+o),[])
   |.w own _ (.ip cells off)=>some (True,.w own false (.ip cells (off+o)),[])
   |_=>none
  |none=>none
 |.field s x f=>match fOf P s f with
  |some (o,z,g)=>match ρ x with
   |.agg cs=>bif g then some (o+z<=cs.length,.agg ((cs.drop o).take z),[]) else some (o<cs.length,jF cs o,[])
   |.w own _ (.agg cs)=>bif g then some (o+z<=cs.length,.w own false (.agg ((cs.drop o).take z)),[]) else some (o<cs.length,.w own false (fw cs o),[])
   |_=>none
  |none=>none
 |.indexAddr t x i=>
  match ρ i with
  |.w _ _ (.int _ j)=>
   match slE P t with
   |some (_,sz)=>match ρ x with
    |.w own _ (.sl k cells)=>some (0<=j/\j<k/\j.toNat*sz<cells.length,.w own false (.ip cells (j.toNat*sz)),[])
    |.msl id ver z off k=>some (0<=j/\j<k/\z=sz,.ptr id ver (off+j.toNat*sz),[])
    |_=>none
   |none=>match arE P t with
    |some (k,sz)=>match ρ x with
     |.ptr id ver off=>some (0<=j/\j<k,.ptr id ver (off+j.toNat*sz),[])
     |.w own _ (.ip cells off)=>some (0<=j/\j<k,.w own false (.ip cells (off+j.toNat*sz)),[])
     |_=>none
    |none=>none
  |_=>none
 |.index t x i=>
  match ρ i,ρ x with
  |.w _ _ (.int _ j),.w _ _ (.str s)=>bif isStr P t then some (0<=j/\j<s.size,.w false false (.int .u8 (uo s j.toNat)),[]) else none
  |_,_=>none
 |.lookup t x k c=>lkV P t (mpC h (ρ x)) (ρ k) c
 |.extract x i=>match ρ x with
  |.tup vs=>if i<vs.length then some (True,jF vs i,[]) else none
  |.w own _ (.tup vs)=>if i<vs.length then some (True,.w own false (fw vs i),[]) else none
  |_=>none
 |.call { callee:=.builtin .len,args:=args,argTypes:=tys } =>
  match args.toList,tys.toList with
  |[x],[t]=>match ρ x with
   |.w _ _ (.sl k _)=>match slE P t with
    |some _=>some (True,.w false false (.int .i64 k),[])
    |none=>none
   |.msl _ _ _ _ k=>match slE P t with
    |some _=>some (True,.w false false (.int .i64 k),[])
    |none=>none
   |.w _ _ (.str s)=>bif isStr P t then some (True,.w false false (.int .i64 s.size),[]) else none
   |_=>none
  |_,_=>none
 |.call { callee:=.builtin .max,args:=args,argTypes:=_ } =>
  match args.toList with
  |[x,y]=>match ρ x,ρ y with
   |.w _ _ (.int k a),.w _ _ (.int k' b)=>if k=k' then some (True,.w false false (.int k (if a<b then b else a)),[]) else none
   |_,_=>none
  |_=>none
 |.call { callee:=.builtin .min,args:=args,argTypes:=_ } =>
  match args.toList with
  |[x,y]=>match ρ x,ρ y with
   |.w _ _ (.int k a),.w _ _ (.int k' b)=>if k=k' then some (True,.w false false (.int k (if b<a then b else a)),[]) else none
   |_,_=>none
  |_=>none
 |.call { callee:=.builtin .append,args:=args,argTypes:=tys }=>BK P h (args.toList.map ρ) tys.toList
 |_=>none
def frz(h:bz):Nat->AV->Option PV
 |_,.w _ _ p=>some p
 |0,_=>none
 |d+1,.ptr id ver off=>match bY h id with
  |some cells=>if cells.length=ver then (cells.mapM (frz h d)).map λc=>.ip c off else none
  |none=>none
 |d+1,.msl id ver sz off n=>match bY h id with
  |some cells=>if cells.length=ver then (cells.mapM (frz h d)).map λc=>.sl n (qw c off (n*sz)) else none
  |none=>none
 |d+1,.agg cs=>(cs.mapM (frz h d)).map .agg
 |d+1,.tup cs=>(cs.mapM (frz h d)).map .tup
 |d+1,.fn f c=>(c.mapM (frz h d)).map (.fn f)
 |_+1,.mp _=>none
def iv(c:List AV)(at_:Nat)(new:List AV):List AV:=if at_=c.length then c++new else c.take at_++new++c.drop (at_+new.length)
def eD:List AV->Bool
 |[]=>true
 |x::r=>x.one&&eD r
def LB(m:Mm)(h:bz)(b:Nat):Prop:=∃id cells C,(id,cells)∈h/\m.dom id/\m.addr id cells.length=some (b,C)
def jG:List AV->Bool
 |[.w _ _ (.agg _)]=>true
 |[.w _ _ .undef]=>true
 |_=>false
theorem yK{c:List AV}(h:jG c=true):c.length=1:=by
 unfold jG at h
 split at h<;>first|rfl|cases h
def nT(es:Array MapEntry)(l:List (PV×PV)):Prop:=l.length=es.size/\∀(j:Nat)(p:PV×PV)(e:MapEntry),l[j]?=some p->es[j]?=some e->e.key=dL p.1/\e.val=dL p.2
theorem Dw:∀l:List (PV×PV),rK (l.map λp=>PV.agg [p.1,p.2])=some l
 |[]=>rfl
 |p::r=>by simp[rK,Dw r]
theorem yL(l:List (PV×PV)):fI [gz l]=some l:=by
 simp[fI,gz,Dw]
theorem Dx{es:Array MapEntry}{l:List (PV×PV)}(h:nT es l):∀l',fI [gz l]=some l'->nT es l':=λl' e=>by
 rw[yL] at e;simp_all
def Entry(B:Base)(L:Nat->Prop)(m:Mm)(w:World)(id:Nat)(cells:List AV):Prop:=
 m.top id=cells.length/\((m.addr id cells.length=none/\cells=[]) \/
  (∃b C cs e,m.addr id cells.length=some (b,C)/\w.heap[b]?=some (.cells cs e (0,0))/\cs.size=C/\cells.length<=C/\B.n<=b /\
    ∀(j:Nat)(p:AV)(v:Value),cells[j]?=some p->cs[j]?=some v->bG B L m w p v) \/
  ∃b es clk,m.addr id cells.length=some (b,0)/\jG cells=true/\w.heap[b]?=some (.map es clk)/\B.n<=b/\∀l,fI cells=some l->nT es l)
structure cQ(B:Base)(h:bz)(m:Mm)(w:World):Prop where
 entry:∀id cells,(id,cells)∈h->m.dom id->Entry B (LB m h) m w id cells
 inj:h.Pairwise λx y=>x.1≠y.1/\∀b C C',m.dom x.1->m.dom y.1->m.addr x.1 x.2.length=some (b,C)->m.addr y.1 y.2.length≠some (b,C')
theorem Addr.jH(b o i:Nat):(⟨b,o,none⟩:Addr).add i=⟨b,o+i,none⟩:=by unfold Addr.add;split<;>simp_all
section
variable{P:Program}{B:Base}{L:Nat->Prop}{m:Mm}{w:World}
theorem vc(v:Value):bG B L m w (m8 v) v:=by
 unfold m8;split
 .exact .w (.bool _) nofun
 .exact .w (.int _ _) nofun
 .exact .w (.str _) nofun
 .exact .w .slnil (λ_ a n c h=>ak)
 .exact .w .gN nofun
 .exact .w .lh nofun
 .exact .w (.undef _) nofun
theorem gv{α β:Type}{f:α->β}{l:List α}{j:Nat}{y:β}(h:(l.map f)[j]?=some y):∃x,l[j]?=some x/\f x=y:=by
 rw[jm] at h;simp_all
theorem JW(v:Value):bG B L m w (cst v) v:=by
 unfold cst;split
 .rename_i cs;refine .agg ae (λj p v hp hv=>?_);obtain⟨x,hx,rfl⟩:=gv hp;rw[jo] at hx
  obtain rfl:x=v:=by rw[hx] at hv;injection hv
  exact vc _
 .rename_i cs;refine .tup ae (λj p v hp hv=>?_);obtain⟨x,hx,rfl⟩:=gv hp;rw[jo] at hx
  obtain rfl:x=v:=by rw[hx] at hv;injection hv
  exact vc _
 .exact vc _
theorem mR{env:Env}{a:Act}(x:Operand)(h:∀t,x=.tmp t->bG B L m w (get env t) (a.tmps.getD t undef)):bG B L m w (ev env x) (a.eval x):=by
 cases x with
 |tmp t=>exact h t rfl
 |const v=>exact JW v
 |global g=>exact .w (.undef _) nofun
 |func f=>exact .fn rfl (λj p v hp=>by simp at hp)
theorem fZ{h:bz}{id:Nat}{c:List AV}(e:bY h id=some c):(id,c)∈h:=by
 induction h with
 |nil=>cases e
 |cons x r ih=>
  obtain⟨k,v⟩:=x;simp only[bY] at e
  grind
theorem cQ.read{h:bz}(hs:cQ B h m w){id:Nat}{cells:List AV}(hin:(id,cells)∈h)(hd:m.dom id){b C:Nat}(ha:m.addr id cells.length=some (b,C))(hC:cells.length<=C):∃cs e,w.heap[b]?=some (.cells cs e (0,0))/\cs.size=C/\cells.length<=C/\B.n<=b/\∀(j:Nat)(p:AV)(v:Value),cells[j]?=some p->cs[j]?=some v->bG B (LB m h) m w p v:=by
 rcases (hs.entry id cells hin hd).2 with ⟨h0,_⟩|⟨b',C',cs,e,h1,h2,h3,h4,h5,h6⟩|⟨b',es,clk,h1,h2,_,_,_⟩
 .rw[h0] at ha;cases ha
 .rw[h1] at ha;grind
 .have:=yK h2;rw[h1] at ha;grind
theorem nG{b j:Nat}{cs:Array Value}{e:TypeId}{f:Nat×Nat}(h:w.heap[b]?=some (.cells cs e f)):w.cell? ⟨b,j,none⟩=cs[j]?:=by
 simp[World.cell?,h]
theorem Dy(b off:Nat){t:TypeId}{sz:Nat}{g:Bool}(ht:tyL P t=some (sz,g))(vals:Nat->Value)(hc:∀j,j<(bif g then sz else 1)->w.cell? ⟨b,off+j,none⟩=some (vals j)):(Instr.loadAt t (.pointer (some ⟨b,off,none⟩))).run P w=.ok (bif g then .agg ((List.range sz).map vals).toArray else vals 0) w:=by
 have hl:∀i:TypeInfo,i.size=sz->g=true->(loadCells ⟨b,off,none⟩ i.size).run P w=.ok ((List.range sz).map vals).toArray w:=by
  intro i hi hg;subst hi hg
  have hl:=run_loadCells_list (P:=P) w ⟨b,off,none⟩ ((List.range i.size).map vals) (λj v hj=>by
   obtain⟨x,hx,rfl⟩:=gv hj;obtain⟨a9,rfl⟩:=fg.1 hx;simp only[sH] at a9
   rw[Addr.jH];simp only[sI];exact hc _ (by simpa using a9))
  simp_all
 unfold tyL at ht;split at ht
 .rename_i i _ hi hu;simp only[cV,dz] at ht;obtain⟨h1,rfl⟩:=ht;simp[Instr.loadAt,Instr.sureAddr,loadVar,isAgg,run_underlying hu,sizeOf,typeInfo,hi,hl i h1 rfl]
 .rename_i i _ _ hi hu;simp only[cV,dz] at ht;obtain⟨h1,rfl⟩:=ht;simp[Instr.loadAt,Instr.sureAddr,loadVar,isAgg,run_underlying hu,sizeOf,typeInfo,hi,hl i h1 rfl]
 .rename_i i d eo en hi hu;simp only[cV,dz] at ht;obtain⟨h1,rfl⟩:=ht;have h0:=hc 0 ae;simp only[oH] at h0
  have ay:(isAgg t).run P w=.ok false w:=by
   unfold isAgg;simp only[Sem.run_bind,run_underlying hu,Result.andThen_ok];rfl
  simp[Instr.loadAt,Instr.sureAddr,loadVar,ay,h0]
 .cases ht
end
def fO(P:Program)(B:Base)(H:bz)(m:Mm)(w:World)(r:Sem Next)(v:AV):Prop:=
 ∃v',r.run P w=.ok (.value v') w/\bG B (LB m H) m w v v'
section
variable{P:Program}{B:Base}{L:Nat->Prop}{m:Mm}{w:World}
theorem bG.iw{o f:Bool}{k:IntKind}{n:Int}{v:Value}(h:bG B L m w (.w o f (.int k n)) v):v=.int k n:=by
 cases h with|w h _=>cases h;rfl
theorem bG.j3{o f:Bool}{b:Bool}{v:Value}(h:bG B L m w (.w o f (.bool b)) v):v=.bool b:=by
 cases h with|w h _=>cases h;rfl
theorem bG.o9{o f:Bool}{b:ByteArray}{v:Value}(h:bG B L m w (.w o f (.str b)) v):v=.string b:=by
 cases h with|w h _=>cases h;rfl
theorem gI(k:IntKind)(n:Int):bG B L m w (.w false false (.int k n)) (.int k n):=.w (.int _ _) nofun
theorem il(b:Bool):bG B L m w (.w false false (.bool b)) (.bool b):=.w (.bool _) nofun
theorem Dz(b:ByteArray):bG B L m w (.w false false (.str b)) (.string b):=.w (.str _) nofun
theorem TV{o f:Bool}{p:PV}{v:Value}{q:PV}(_:bG B L m w (.w o f p) v){u:Value}(h:Rep (Good B L o) w q u):bG B L m w (.w o false q) u:=.w h nofun
theorem bG.BL{o f:Bool}{cs:List PV}{v:Value}(h:bG B L m w (.w o f (.agg cs)) v):∃vs:Array Value,v=.agg vs/\cs.length=vs.size/\∀(j:Nat)(p:PV)(u:Value),cs[j]?=some p->vs[j]?=some u->Rep (Good B L o) w p u:=by
 cases h with|w h _=>cases h with|agg hl hr=>grind
theorem vd{x:AV}{v:Value}(h:bG B L m w x v)(br:x.ok=true):x.cells.length=v.cells.size/\∀(j:Nat)(p:AV)(u:Value),x.cells[j]?=some p->v.cells[j]?=some u->bG B L m w p u:=by
 have one:∀{x:AV}{v:Value},bG B L m w x v->v.cells=#[v]->x.cells=[x]->x.cells.length=v.cells.size /\
  ∀(j:Nat)(p:AV)(u:Value),x.cells[j]?=some p->v.cells[j]?=some u->bG B L m w p u:=by
  grind
 cases x with
 |w o f q=>
  cases q with
  |agg cs=>
   obtain⟨vs,rfl,hl,hr⟩:=h.BL;refine⟨by simpa[AV.cells,Value.cells] using hl,λj p u hp hu=>?_⟩;obtain⟨y,hy,rfl⟩:=gv aE;exact .w (hr j y u hy aE) nofun
  |undef=>cases br
  |tup vs=>cases br
  |_=>exact one h (by cases h with|w h _=>cases h<;>rfl) rfl
 |ptr id ver off=>exact one h (by cases h;rfl) rfl
 |msl id ver sz off n=>exact one h (by cases h;rfl) rfl
 |mp id=>exact one h (by cases h;rfl) rfl
 |agg cs=>
  cases h with
  |agg hl hr=>trivial
 |tup cs=>cases br
 |fn f c=>exact one h (by cases h;rfl) rfl
theorem yN(a b:Int):(a==b)=decide (a=b):=by
 by_cases h:a=b<;>simp[h]
theorem mT{k:IntKind}{n:Int}(h:inI k n):k.wrap n=n:=by
 obtain⟨h1,h2⟩:=h
 cases k<;>simp[IntKind.wrap,IntKind.min,IntKind.max,IntKind.bits,IntKind.signed] at *<;>(try split)<;>omega
theorem JX{op:BinOp}{k:IntKind}{a b:Int}{c:Prop}{p:PV}(h:m9 op k a b=some (c,p))(hc:c)(t:TypeId):∃v,(binOp op t (.int k a) (.int k b)).run P w=.ok v w/\bG B L m w (.w false false p) v:=by
 by_cases d2:op=.shr/\b=32/\k=.u64
 .obtain⟨rfl,rfl,rfl⟩:=d2;simp only[m9,and_self,cz,cV,dz] at h;obtain⟨rfl,rfl⟩:=h;have hm:min (Int.toNat 32) IntKind.u64.bits=32:=rfl
  have e:a.fdiv (2 ^ (32:Nat))=a / 4294967296:=by rw[Jm _ af];rfl
  refine⟨.int .u64 (a / 4294967296),?_,gI _ _⟩;simp only[binOp,Op.shift,bN (show ¬(32:Int)<0 by decide),hm,e];rfl
 by_cases hand:op=.and
 .subst hand;simp only[m9] at h;split at h
  .rename_i hb;obtain⟨rfl,rfl⟩:=hb;cases h;obtain⟨n,rfl⟩:∃n:Nat,a=n:=⟨a.toNat,ab⟩
   have hn:n<4294967296:=ab
   refine⟨.int .u64 n,?_,gI _ _⟩
   have e:(BitVec.ofInt IntKind.u64.bits (n:Int) &&& BitVec.ofInt IntKind.u64.bits 4294967295).toNat=n:=by
    show (BitVec.ofInt 64 (n:Int) &&& BitVec.ofInt 64 4294967295).toNat=n;rw[BitVec.toNat_and,CU,CU]
    have e1:((n:Int)%((2 ^ 64:Nat):Int)).toNat=n:=ab
    have e2:((4294967295:Int)%((2 ^ 64:Nat):Int)).toNat=2 ^ 32-1:=af
    rw[e1,e2,TL];omega
   have hw:IntKind.u64.wrap (n:Int)=n:=mT aR;simp only[binOp,Op.intBits,e,hw];rfl
  .split at h
   .rename_i hb;obtain⟨rfl,rfl⟩:=hb;cases h;obtain⟨n,rfl⟩:∃n:Nat,a=n:=⟨a.toNat,ab⟩
    have hn:n<4294967296:=ab
    refine⟨.int .i64 ((n:Int)%2),?_,gI _ _⟩
    have e:(BitVec.ofInt IntKind.i64.bits (n:Int) &&& BitVec.ofInt IntKind.i64.bits 1).toNat=n%2:=by
     show (BitVec.ofInt 64 (n:Int) &&& BitVec.ofInt 64 1).toNat=n%2;rw[BitVec.toNat_and,CU,CU]
     have e1:((n:Int)%((2 ^ 64:Nat):Int)).toNat=n:=ab
     have e2:((1:Int)%((2 ^ 64:Nat):Int)).toNat=2 ^ 1-1:=af
     rw[e1,e2,TL]
    have hw:IntKind.i64.wrap ((n%2:Nat):Int)=(n:Int)%2:=by
     rw[mT aR];omega
    simp only[binOp,Op.intBits,e,hw];rfl
   .cases h
 by_cases d3:op=.shl
 .subst d3;simp only[m9] at h;split at h
  .rename_i hk;subst hk;cases h;obtain⟨⟨h0,h1⟩,h2⟩:=hc
   have hm:min b.toNat IntKind.i64.bits=b.toNat:=by simp[IntKind.bits];omega
   refine⟨.int .i64 (a*2 ^ b.toNat),?_,gI _ _⟩;simp only[binOp,Op.shift,bN (show ¬b<0 by omega),hm,mT h2];rfl
  .cases h
 by_cases er:op=.shr/\b≠1/\k=.i64
 .obtain⟨rfl,hb,rfl⟩:=er;simp only[m9] at h;rw[bN (λh=>by cases h.2),cu ⟨hb,aE⟩] at h;cases h
  have hm:min b.toNat IntKind.i64.bits=b.toNat:=by simp[IntKind.bits];omega
  have e:a.fdiv (2 ^ b.toNat)=a / 2 ^ b.toNat:=Jm _ (Int.le_of_lt (Int.pow_pos af));refine⟨.int .i64 (a / 2 ^ b.toNat),?_,gI _ _⟩;simp only[binOp,Op.shift,bN (show ¬b<0 by omega),hm,e];rfl
 have e6:op=.shr->m9 op k a b=some (b=1,.int k (a / 2)):=by
  rintro rfl
  simp only[m9];rw[bN (λh=>d2 ⟨rfl,h.1,h.2⟩),bN (λh=>er ⟨rfl,h.1,h.2⟩)]
 cases op<;>first|(rw[e6 rfl] at h)|(simp only[m9] at h)<;>first|(cases h;done)|(exact absurd rfl hand)|(exact absurd rfl d3)|skip
 all_goals cases h
 .exact⟨_,by simp[binOp,Op.intArith,mT hc],gI _ _⟩
 .exact⟨_,by simp[binOp,Op.intArith,mT hc],gI _ _⟩
 .exact⟨_,by simp[binOp,Op.intArith,mT hc],gI _ _⟩
 .exact⟨_,by simp[binOp,Op.intDiv,hc.1,mT hc.2],gI _ _⟩
 .exact⟨_,by simp[binOp,Op.intDiv,hc],gI _ _⟩
 .subst hc
  have hm:min (Int.toNat 1) k.bits=1:=by cases k<;>rfl
  have e:a.fdiv (2 ^ (1:Nat))=a / 2:=by rw[Jm _ af];rfl
  refine⟨.int k (a / 2),?_,gI _ _⟩;simp only[binOp,Op.shift,bN (show ¬(1:Int)<0 by decide),hm,e];rfl
 .exact⟨_,by simp[binOp,Op.intCmp,yN],il _⟩
 .exact⟨_,by simp[binOp,Op.intCmp,bne,yN],il _⟩
 .exact⟨_,by simp[binOp,Op.intCmp],il _⟩
 .exact⟨_,by simp[binOp,Op.intCmp],il _⟩
 .exact⟨_,by simp[binOp,Op.intCmp],il _⟩
 .exact⟨_,by simp[binOp,Op.intCmp],il _⟩
end
section
variable{P:Program}{B:Base}{L:Nat->Prop}{m:Mm}{w:World}
theorem yO(a b:ByteArray):(a.toList==b.toList)=decide (a=b):=by
 by_cases h:a=b
 .subst h;simp
 .simp only[h,decide_false];rw[beq_eq_false_iff_ne];intro he;rw[ByteArray.toList_eq,ByteArray.toList_eq] at he;apply h;obtain⟨⟨x⟩⟩:=a;simp_all
theorem JY{t:TypeId}{op:BinOp}{x y p:PV}{c:Prop}{vx vy:Value}{ox fx oy fy:Bool}(h:bin P t op x y=some (c,p))(hc:c)(hx:bG B L m w (.w ox fx x) vx)(hy:bG B L m w (.w oy fy y) vy):(∃v,(binOp op t vx vy).run P w=.ok v w/\bG B L m w (.w false false p) v)/\((∃k n,vx=.int k n)\/(∃s,vx=.string s)\/(∃s,vx=.bool s)):=by
 unfold bin at h;split at h
 .rename_i k a k' b;obtain rfl:=hx.iw;obtain rfl:=hy.iw;split at h
  .rename_i hk;subst hk;exact⟨JX h hc t,.inl ⟨_,_,rfl⟩⟩
  .cases h
 .rename_i a b;obtain rfl:=hx.o9;obtain rfl:=hy.o9;refine⟨?_,.inr (.inl ⟨_,rfl⟩)⟩;split at h
  .cases h;exact⟨_,by simp[binOp,Op.stringOp,yO],il _⟩
  .cases h;exact⟨_,by simp[binOp,Op.stringOp,yO],il _⟩
  .cases h;refine⟨_,?_,Dz _⟩
   have:¬(((a.size+b.size:Nat):Int)>IntKind.i64.max):=by simp[IntKind.max,IntKind.signed,IntKind.bits];omega
   simp only[binOp,Op.stringOp,bN this];rfl
  .cases h
 .rename_i a b;obtain rfl:=hx.j3;obtain rfl:=hy.j3;refine⟨?_,.inr (.inr ⟨_,rfl⟩)⟩
  have hu:isBool P t=true->P.underlying t=some .bool:=by
   intro hb;unfold isBool at hb
   grind
  cases hb:isBool P t with
  |false=>rw[hb] at h;cases h
  |true=>
   rw[hb] at h;simp only[cond_true] at h
   have he:=λd=>run_equalIn_bool' (P:=P) w d t a b (hu hb)
   split at h
   .cases h;exact⟨_,by simp[binOp,Op.equal,Op.maxDepth,he 9999],il _⟩
   .cases h;exact⟨_,by simp[binOp,Op.equal,Op.maxDepth,he 9999],il _⟩
   .cases h
 .cases h
theorem yP:∀{k r:List Nat}{xs ys:List AV}{b:Bool},eqL (k++r) xs ys=some b->∃b1 b2,eqL k (xs.take k.length) (ys.take k.length)=some b1/\eqL r (xs.drop k.length) (ys.drop k.length)=some b2/\b=(b1&&b2)
 |[],r,xs,ys,b,h=>⟨true,b,by simp[eqL],av,ae⟩
 |n::k,r,xs,ys,b,h=>by
  cases xs with
  |nil=>trivial
  |cons x xs=>
   cases ys with
   |nil=>cases x<;>simp[eqL] at h
   |cons y ys=>
    cases x with
    |w o f p=>
     cases y with
     |w o' f' q=>
      simp only[lP,eqL] at h
      cases hs:eqS n p q with
      |none=>grind
      |some t=>
       simp only[hs] at h
       cases hr:eqL (k++r) xs ys with
       |none=>grind
       |some u=>
        simp only[hr,cV] at h;obtain⟨b1,b2,h1,h2,h3⟩:=yP hr;exact⟨t&&b1,b2,by simp[eqL,hs,h1],ak,by rw[<-h,h3,Bool.and_assoc]⟩
     |_=>simp[eqL] at h
    |_=>simp[eqL] at h
theorem pR:∀{k:List Nat}{xs ys:List AV}{b:Bool},eqL k xs ys=some b->xs.length=k.length/\ys.length=k.length
 |[],xs,ys,b,h=>by cases xs with
  |nil=>cases ys with
   |nil=>trivial
   |cons y ys=>trivial
  |cons x xs=>cases x<;>simp[eqL] at h
 |n::k,xs,ys,b,h=>by
  cases xs with
  |nil=>trivial
  |cons x xs=>
   cases ys with
   |nil=>cases x<;>simp[eqL] at h
   |cons y ys=>
    cases x with
    |w o f p=>
     cases y with
     |w o' f' q=>
      simp only[eqL] at h
      cases hs:eqS n p q with
      |none=>grind
      |some t=>
       simp only[hs] at h
       cases hr:eqL k xs ys with
       |none=>grind
       |some u=>have:=pR hr;simp_all
     |_=>simp[eqL] at h
    |_=>simp[eqL] at h
def Leaves(B:Base)(L:Nat->Prop)(m:Mm)(w:World)(xs:List AV)(vs:Array Value)(off:Nat):Prop:=
 ∀(j:Nat)(p:AV),xs[j]?=some p->∃v,vs[off+j]?=some v/\bG B L m w p v
theorem Leaves.take{xs:List AV}{vs:Array Value}{off:Nat}(h:Leaves B L m w xs vs off)(k:Nat):Leaves B L m w (xs.take k) vs off:=by
 intro j p hp;rw[lQ] at hp;split at hp
 .exact h j p hp
 .cases hp
theorem Leaves.drop{xs:List AV}{vs:Array Value}{off:Nat}(h:Leaves B L m w xs vs off)(k:Nat):Leaves B L m w (xs.drop k) vs (off+k):=by
 intro j p hp;rw[xV] at hp;obtain⟨v,hv,hr⟩:=h _ p hp
 grind
def gO(P:Program)(t:TypeId)(vs:Array Value)(off n:Nat)(V:Value):Prop:=
 match P.underlying t with
 |some (.struct _)|some (.array _ _)=>V=.agg (vs.extract off (off+n))
 |_=>vs[off]?=some V
theorem ve{xs:List AV}{vs:Array Value}{off n:Nat}(h:Leaves B L m w xs vs off)(hn:xs.length=n):Leaves B L m w xs (vs.extract off (off+n)) 0:=by
 intro j p hp;obtain⟨v,hv,hr⟩:=h j p hp
 have hj:j<n:=by rw[<-hn];exact (fg.1 hp).1
 grind
theorem vg{t:TypeId}{d:Nat}{k:List Nat}(hl:lvs P d t=some k)(vs:Array Value)(off:Nat)(xs:List AV)(hx:Leaves B L m w xs vs off)(hn:xs.length=k.length):∃V,(part t vs off).run P w=.ok V w/\gO P t vs off k.length V:=by
 cases d with
 |zero=>cases hl
 |succ d=>
  have scal:∀D:TypeDesc,P.underlying t=some D->(∀fs,D≠.struct fs)->(∀n e,D≠.array n e)->k.length=1->∃V,(part t vs off).run P w=.ok V w/\gO P t vs off k.length V:=by
   intro D hu h1 h2 hk
   have ay:(isAgg t).run P w=.ok false w:=by
    unfold isAgg
    cases D<;>first|exact absurd rfl (h1 _)|exact absurd rfl (h2 _ _)|simp[run_underlying hu]
   cases xs with
   |nil=>rw[hk] at hn;cases hn
   |cons x xs=>
    obtain⟨v,hv,_⟩:=hx 0 x rfl;refine⟨v,?_,?_⟩
    .simp only[oH] at hv;simp[part,ay,hv]
    .unfold gO;rw[hu];simp_all
  have aggr:∀(i:TypeInfo),(∃fs,P.underlying t=some (.struct fs))\/(∃n e,P.underlying t=some (.array n e))->P.info? t=some i->i.size=k.length->∃V,(part t vs off).run P w=.ok V w/\gO P t vs off k.length V:=by
   intro i hu hi hs;refine⟨.agg (vs.extract off (off+k.length)),?_,?_⟩
   .rcases hu with ⟨fs,hu⟩|⟨n,e,hu⟩
    .simp[part,isAgg,run_underlying hu,sizeOf,typeInfo,hi,hs]
    .simp[part,isAgg,run_underlying hu,sizeOf,typeInfo,hi,hs]
   .unfold gO
    rcases hu with ⟨fs,hu⟩|⟨n,e,hu⟩<;>rw[hu]
  unfold lvs at hl;split at hl
  .rename_i hu;cases hl;simp_all
  .rename_i hu;cases hl;simp_all
  .rename_i hu;cases hl;simp_all
  .rename_i fs hu;split at hl
   .cases hl
   .split at hl
    .simp_all
    .cases hl
  .rename_i n e hu;split at hl
   .rename_i k' i it _ _ ct;split at hl
    .rename_i hs;cases hl;simp_all
    .cases hl
   .cases hl
  .cases hl
theorem DC{d D:Nat}(ih:∀t k,lvs P d t=some k->∀(xs ys:List AV)(vs us:Array Value)(off a5:Nat)(b:Bool),eqL k xs ys=some b->Leaves B L m w xs vs off->Leaves B L m w ys us a5->∀V U,gO P t vs off k.length V->gO P t us a5 k.length U->(Op.equalIn D t V U).run P w=.ok b w)(vs us:Array Value):∀(fs:List Field)(cur:Nat)(r:List Nat),lvF (lvs P d) fs cur=some r->∀(xs ys:List AV)(b:Bool),eqL r xs ys=some b->Leaves B L m w xs vs cur->Leaves B L m w ys us cur->(Op.eqFields D vs us fs).run P w=.ok b w
 |[],cur,r,h,xs,ys,b,he,_,_=>by
  cases h
  cases xs with
  |nil=>cases ys with
   |nil=>simp[eqL] at he;subst he;rfl
   |cons y ys=>trivial
  |cons x xs=>cases x<;>simp[eqL] at he
 |f::fs,cur,r,h,xs,ys,b,he,hx,hy=>by
  simp only[lvF] at h;split at h
  .cases h
  .rename_i db;obtain⟨h1,h2⟩:=not_or.1 db;have h2:f.offset=cur:=Decidable.not_not.1 h2;split at h
   .rename_i k hk;split at h
    .rename_i r' b5;cases h;obtain⟨b1,b2,e1,e2,rfl⟩:=yP he;obtain⟨l1,l2⟩:=pR e1;obtain⟨V,hV,pV⟩:=vg hk vs cur _ (hx.take k.length) l1;obtain⟨U,hU,pU⟩:=vg hk us cur _ (hy.take k.length) l2;have hq:=ih f.type k hk _ _ vs us cur cur b1 e1 (hx.take _) (hy.take _) V U pV pU;have cy:=DC ih vs us fs (cur+k.length) r' b5 _ _ b2 e2 (hx.drop _) (hy.drop _);simp only[Op.eqFields,ne_eq,h1,not_false_eq_true,cz,Sem.run_bind,h2,hV,hU,hq,Result.andThen_ok]
     split<;>simp_all
    .cases h
   .cases h
theorem DD{d D e c:Nat}{k:List Nat}(hk:lvs P d e=some k)(hc:c=k.length)(ih:∀(xs ys:List AV)(vs us:Array Value)(off a5:Nat)(b:Bool),eqL k xs ys=some b->Leaves B L m w xs vs off->Leaves B L m w ys us a5->∀V U,gO P e vs off k.length V->gO P e us a5 k.length U->(Op.equalIn D e V U).run P w=.ok b w)(vs us:Array Value):∀(n s:Nat)(xs ys:List AV)(b:Bool),eqL (List.replicate n k).flatten xs ys=some b->Leaves B L m w xs vs (s*c)->Leaves B L m w ys us (s*c)->(Op.eqItems D e c vs us (List.range' s n)).run P w=.ok b w
 |0,s,xs,ys,b,he,_,_=>by
  cases xs with
  |nil=>cases ys with
   |nil=>simp[eqL] at he;subst he;rfl
   |cons y ys=>trivial
  |cons x xs=>cases x<;>simp[eqL] at he
 |n+1,s,xs,ys,b,he,hx,hy=>by
  rw[Jn,List.flatten_cons] at he;obtain⟨b1,b2,e1,e2,rfl⟩:=yP he;obtain⟨l1,l2⟩:=pR e1;obtain⟨V,hV,pV⟩:=vg hk vs (s*c) _ (hx.take k.length) l1;obtain⟨U,hU,pU⟩:=vg hk us (s*c) _ (hy.take k.length) l2;have hq:=ih _ _ vs us (s*c) (s*c) b1 e1 (hx.take _) (hy.take _) V U pV pU
  have cw:s*c+k.length=(s+1)*c:=by rw[<-hc,eU,Nat.one_mul]
  have cy:=DD hk hc ih vs us n (s+1) _ _ b2 e2 (by have:=hx.drop k.length;rwa [cw] at this) (by have:=hy.drop k.length;rwa [cw] at this);rw[List.range'_succ];simp only[Op.eqItems,Sem.run_bind,hV,hU,hq,Result.andThen_ok]
  split<;>simp_all
theorem yQ:∀(d:Nat)(t:TypeId)(k:List Nat),lvs P d t=some k->∀D,d<=D->∀(xs ys:List AV)(vs us:Array Value)(off a5:Nat)(b:Bool),eqL k xs ys=some b->Leaves B L m w xs vs off->Leaves B L m w ys us a5->∀V U,gO P t vs off k.length V->gO P t us a5 k.length U->(Op.equalIn D t V U).run P w=.ok b w
 |0,t,k,h,_,_,_,_,_,_,_,_,_,_,_,_,_,_,_,_=>by cases h
 |d+1,t,k,h,D,hD,xs,ys,vs,us,off,a5,b,he,hx,hy,V,U,pV,pU=>by
  obtain⟨D,rfl⟩:∃D',D=D'+1:=⟨D-1,ab⟩
  have scal:∀q:Nat,k=[q]->(P.underlying t=some .bool/\q=0\/(∃k,P.underlying t=some (.int k))/\q=1\/P.underlying t=some .string/\q=2)->(Op.equalIn (D+1) t V U).run P w=.ok b w:=by
   intro q hk hu;subst hk;obtain⟨l1,l2⟩:=pR he
   match xs,ys,l1,l2 with
   |[x],[y],_,_=>
    cases x with
    |w o f p=>
     cases y with
     |w o' f' p'=>
      obtain⟨v,hv,rv⟩:=hx 0 _ rfl;obtain⟨u,d4,ru⟩:=hy 0 _ rfl;simp only[oH] at hv d4
      have e1:vs[off]?=some V:=by
       rcases hu with ⟨hu,_⟩|⟨⟨_,hu⟩,_⟩|⟨hu,_⟩<;>simpa[gO,hu] using pV
      have e2:us[a5]?=some U:=by
       rcases hu with ⟨hu,_⟩|⟨⟨_,hu⟩,_⟩|⟨hu,_⟩<;>simpa[gO,hu] using pU
      rw[e1] at hv;injection hv with hv;subst hv
      rw[e2] at d4;injection d4 with d4;subst d4
      simp only[eqL] at he
      cases hs:eqS q p p' with
      |none=>simp[hs] at he
      |some r=>
       simp only[hs,cV,ia] at he;subst he;unfold eqS at hs;split at hs
       .obtain rfl:=rv.iw;obtain rfl:=ru.iw;split at hs
        .rename_i fp;subst fp
         injection hs with hs;subst hs
         rcases hu with ⟨_,h0⟩|⟨⟨k',hu⟩,_⟩|⟨_,h0⟩
         .cases h0
         .rw[run_equalIn_int w D t _ k' _ _ hu,yN]
         .cases h0
        .cases hs
       .obtain rfl:=rv.j3;obtain rfl:=ru.j3
        injection hs with hs;subst hs
        rcases hu with ⟨hu,_⟩|⟨_,h0⟩|⟨_,h0⟩
        .exact run_equalIn_bool' w D t _ _ hu
        .cases h0
        .cases h0
       .obtain rfl:=rv.o9;obtain rfl:=ru.o9
        injection hs with hs;subst hs
        rcases hu with ⟨_,h0⟩|⟨_,h0⟩|⟨hu,_⟩
        .cases h0
        .cases h0
        .rw[run_equalIn_string w D t _ _ hu,yO]
       .cases hs
     |_=>simp[eqL] at he
    |_=>simp[eqL] at he
  unfold lvs at h;split at h
  .rename_i hu;injection h with h;subst h;exact scal 0 rfl (.inl ⟨hu,rfl⟩)
  .rename_i hu;injection h with h;subst h;exact scal 1 rfl (.inr (.inl ⟨⟨_,hu⟩,rfl⟩))
  .rename_i hu;injection h with h;subst h;exact scal 2 rfl (.inr (.inr ⟨hu,rfl⟩))
  .rename_i fs hu;split at h
   .cases h
   .rename_i hp;split at h
    .rename_i i r hi hr;split at h
     .injection h with h;subst h
      have e1:V=.agg (vs.extract off (off+r.length)):=by simpa[gO,hu] using pV
      have e2:U=.agg (us.extract a5 (a5+r.length)):=by simpa[gO,hu] using pU
      subst e1;subst e2
      have hf:P.fieldsOf t=fs:=by simp[Program.fieldsOf,hu]
      rw[run_equalIn_struct w D t _ _ (by rw[hf];exact hu) aT,hf];obtain⟨l1,l2⟩:=pR he;exact DC (λt k hk xs ys vs us off a5 b=>yQ d t k hk D ab xs ys vs us off a5 b) _ _ fs.toList 0 r hr xs ys b he (ve hx l1) (ve hy l2)
     .cases h
    .cases h
  .rename_i n e hu;split at h
   .rename_i k' i it hk hi ct;split at h
    .rename_i hs;injection h with h;subst h
     have e1:V=.agg (vs.extract off (off+(List.replicate n k').flatten.length)):=by simpa[gO,hu] using pV
     have e2:U=.agg (us.extract a5 (a5+(List.replicate n k').flatten.length)):=by simpa[gO,hu] using pU
     subst e1;subst e2;rw[run_equalIn_array w D _ _ hu hi,List.range_eq_range'];obtain⟨l1,l2⟩:=pR he
     have bm:P.cellsOf e=k'.length:=by simp[Program.cellsOf,hi,hs.1]
     exact DD hk bm (λxs ys vs us off a5 b=>yQ d e k' hk D ab xs ys vs us off a5 b) _ _ n 0 xs ys b he
      (by simpa using ve hx l1) (by simpa using ve hy l2)
    .cases h
   .cases h
  .cases h
end
section
variable{P:Program}{B:Base}{m:Mm}{w:World}{H h:bz}{n:Nat}{env:Env}{a:Act}
theorem DF{L:Nat->Prop}{x:AV}{v:Value}(hx:bG B L m w x v)(hg:x.isAgg=true):∃vs:Array Value,v=.agg vs/\x.cells.length=vs.size/\Leaves B L m w x.cells vs 0:=by
 have bu:x.ok=true:=by
  cases x with
  |w o f p=>cases p<;>first|rfl|(cases hg;done)
  |tup cs=>cases hg
  |_=>rfl
 obtain⟨h1,h2⟩:=vd hx bu
 have hv:∃vs,v=.agg vs:=by
  cases x with
  |w o f p=>cases p with
   |agg cs=>obtain⟨vs,rfl,_⟩:=hx.BL;simp
   |_=>cases hg
  |agg cs=>cases hx with|agg _ _=>simp
  |_=>cases hg
 obtain⟨vs,rfl⟩:=hv;refine⟨vs,rfl,h1,λj p hp=>?_⟩
 have hj:j<vs.size:=by rw[<-show x.cells.length=vs.size from h1];grind
 exact⟨vs[j],by simp[hj],h2 j p _ hp (by simp[Value.cells,hj])⟩
theorem bG.pb{L:Nat->Prop}{id ver off:Nat}{v:Value}(h:bG B L m w (.ptr id ver off) v):∃b C,v=.pointer (some ⟨b,off,none⟩)/\m.dom id/\(ver<=m.top id/\ver<=C)/\m.addr id ver=some (b,C):=by
 cases h with|ptr h1 h2 h3 h4=>simp_all
theorem bG.qx{L:Nat->Prop}{o f:Bool}{cells:List PV}{off:Nat}{v:Value}(h:bG B L m w (.w o f (.ip cells off)) v):∃b o' vals,v=.pointer (some ⟨b,o'+off,none⟩)/\dF w b o' cells.length vals/\(cells≠[]->Good B L o b)/\∀(j:Nat)(p:PV),cells[j]?=some p->Rep (Good B L o) w p (vals j):=by
 cases h with|w h _=>cases h with|ip vals h1 h2 h3=>grind
theorem DG(op:BinOp)(g3:op=.eql\/op=.neq)(t:TypeId)(x y:Operand)(yt:TypeId){k:List Nat}{r:Bool}(hq:lj P t=some k)(he:eqL k (ev env x).cells (ev env y).cells=some r)(hx:bG B (LB m H) m w (ev env x) (a.eval x))(hy:bG B (LB m H) m w (ev env y) (a.eval y))(gx:(ev env x).isAgg=true)(gy:(ev env y).isAgg=true)(o:Oper)(ho:o.op=.binOp op t x y yt):fO P B H m w (execOp a.eval o) (.w false false (.bool (if op=.eql then r else !r))):=by
 obtain⟨vs,ew,l1,lx⟩:=DF hx gx;obtain⟨us,eu,l2,ly⟩:=DF hy gy;obtain⟨e1,e2⟩:=pR he;unfold lj at hq
 have main:P.eqGuardType P.depth t=false->lvs P 6 t=some k->(∃fs,P.underlying t=some (.struct fs))\/(∃n e,P.underlying t=some (.array n e)) ->
  fO P B H m w (execOp a.eval o) (.w false false (.bool (if op=.eql then r else !r))):=by
  intro hg hl hu;have a4:=yQ (w:=w) 6 t k hl Op.maxDepth (by simp[Op.maxDepth]) _ _ vs us 0 0 r he lx ly (.agg vs) (.agg us)
   (by
     have:vs.extract 0 (0+k.length)=vs:=by rw[dJ,<-e1,l1];simp
     rcases hu with ⟨fs,hu⟩|⟨n,e,hu⟩<;>simp[gO,hu]<;>(rw[dJ] at this;exact this.symm))
   (by
     have:us.extract 0 (0+k.length)=us:=by rw[dJ,<-e2,l2];simp
     rcases hu with ⟨fs,hu⟩|⟨n,e,hu⟩<;>simp[gO,hu]<;>(rw[dJ] at this;exact this.symm))
  rcases g3 with rfl|rfl
  .exact⟨_,by simp[execOp,ho,eqGuard,ew,eu,hg,binOp,Op.equal,a4],il _⟩
  .exact⟨_,by simp[execOp,ho,eqGuard,ew,eu,hg,binOp,Op.equal,a4],il _⟩
 grind
theorem JZ(op:BinOp)(t:TypeId)(x y:Operand)(yt:TypeId){p q r:PV}{ox fx oy fy:Bool}{c:Prop}(ex:ev env x=.w ox fx p)(ey:ev env y=.w oy fy q)(hb:bin P t op p q=some (c,r))(hc:c)(hx:bG B (LB m H) m w (ev env x) (a.eval x))(hy:bG B (LB m H) m w (ev env y) (a.eval y))(o:Oper)(ho:o.op=.binOp op t x y yt):fO P B H m w (execOp a.eval o) (.w false false r):=by
 rw[ex] at hx;rw[ey] at hy;obtain⟨⟨v,hv,hr⟩,hk⟩:=JY hb hc hx hy;refine⟨v,?_,hr⟩
 have hg:(eqGuard op t x y (a.eval x) (a.eval y)).run P w=.ok () w:=by
  unfold eqGuard
  rcases hk with ⟨k,n,e⟩|⟨s,e⟩|⟨s,e⟩<;>rw[e]<;>cases op<;>rfl
 simp[execOp,ho,hg,hv]
theorem J0(t:TypeId)(x:Operand)(o:Oper)(ho:o.op=.makeInterface t x){c:Prop}{v:AV}{E:List (List AV)}(h0:aOp P h n (ev env) (.makeInterface t x)=some (c,v,E))(hx:bG B (LB m H) m w (ev env x) (a.eval x)):E=[]/\fO P B H m w (execOp a.eval o) v:=by
 simp only[aOp] at h0
 cases hn:BI P t with
 |false=>rw[hn] at h0;cases h0
 |true=>
  rw[hn] at h0;simp only[cond_true,cV,dz] at h0;obtain⟨rfl,rfl,rfl⟩:=h0;refine⟨rfl,.iface t (a.eval x),?_,?_⟩
  .unfold BI at hn;split at hn
   .cases hn
   .rename_i d hd hu;simp only[execOp,ho,Instr.makeInterface,Sem.run_bind,run_underlying hu,Result.andThen_ok]
    cases d<;>first|rfl|exact absurd rfl (hd _)
   .cases hn
  .unfold BH;split
   .rename_i own f p e;rw[e] at hx
    cases hx with|w hr _=>exact .w (.ifc hr) (λ_ _ _ _ h=>au)
   .exact .w (.undef _) nofun
theorem QZ(op:UnOp)(t:TypeId)(x:Operand)(o:Oper)(ho:o.op=.unOp op t x){c:Prop}{v:AV}{E:List (List AV)}(h0:aOp P h n (ev env) (.unOp op t x)=some (c,v,E))(hc:c)(hx:bG B (LB m H) m w (ev env x) (a.eval x)):E=[]/\fO P B H m w (execOp a.eval o) v:=by
 simp only[aOp] at h0;split at h0
 .rename_i o' f' b e;cases h0;rw[e] at hx;exact⟨rfl,_,by simp[execOp,ho,hx.j3,Op.unary],il _⟩
 .rename_i o' f' k b e;cases h0;rw[e] at hx
  have:(0:Int)-b=-b:=ab
  exact⟨rfl,_,by simp[execOp,ho,hx.iw,Op.unary,Op.intArith,this,mT hc],gI _ _⟩
 .cases h0
theorem J1(src dst:TypeId)(x:Operand)(o:Oper)(ho:o.op=.convert src dst x){c:Prop}{v:AV}{E:List (List AV)}(h0:aOp P h n (ev env) (.convert src dst x)=some (c,v,E))(hc:c)(hx:bG B (LB m H) m w (ev env x) (a.eval x)):E=[]/\fO P B H m w (execOp a.eval o) v:=by
 simp only[aOp] at h0;split at h0
 .rename_i ks k o' f' k' b ft hk e;cases h0;rw[e] at hx
  have hd:∃d,P.underlying src=some d:=by
   unfold o7 at ft
   grind
  obtain⟨d,hd⟩:=hd;unfold o7 at hk;split at hk
  .rename_i hu;cases hk;exact⟨rfl,_,by simp[execOp,ho,hx.iw,convert,run_underlying hd,run_underlying hu,Conv.intToInt,mT hc],gI _ _⟩
  .cases hk
 .cases h0
theorem J2(c0 x y:Operand)(o:Oper)(ho:o.op=.pick c0 x y){c:Prop}{v:AV}{E:List (List AV)}(h0:aOp P h n (ev env) (.pick c0 x y)=some (c,v,E))(eb:bG B (LB m H) m w (ev env c0) (a.eval c0))(hx:bG B (LB m H) m w (ev env x) (a.eval x))(hy:bG B (LB m H) m w (ev env y) (a.eval y)):E=[]/\fO P B H m w (execOp a.eval o) v:=by
 simp only[aOp] at h0;split at h0
 .rename_i o' f' t e;rw[e] at eb;have hb:=eb.j3;split at h0
  .rename_i ox fx px oy fy py ex ey;cases h0;rw[ex] at hx;rw[ey] at hy;refine⟨rfl,if t then a.eval x else a.eval y,by simp[execOp,ho,hb,asBool],?_⟩;rw[hx.j3,hy.j3]
   cases t<;>exact il _
  .cases h0;refine⟨rfl,if t then a.eval x else a.eval y,by simp[execOp,ho,hb,asBool],?_⟩
   grind
 .cases h0
theorem J3(s:TypeId)(x:Operand)(f:Nat)(o:Oper)(ho:o.op=.fieldAddr s x f){c:Prop}{v:AV}{E:List (List AV)}(h0:aOp P h n (ev env) (.fieldAddr s x f)=some (c,v,E))(hx:bG B (LB m H) m w (ev env x) (a.eval x)):E=[]/\fO P B H m w (execOp a.eval o) v:=by
 simp only[aOp] at h0;split at h0
 .rename_i a5 z g hf;unfold fOf at hf;split at hf
  .rename_i fs hu;split at hf
   .rename_i fd cm
    cases ht:tyL P fd.type with
    |none=>simp[ht] at hf
    |some zz=>
     obtain⟨z',g'⟩:=zz;simp only[ht,jk] at hf;split at hf
     .cases hf
     .rename_i hz;simp only[cV,dz] at hf;obtain⟨rfl,rfl,rfl⟩:=hf
      have hi:∃i,P.info? fd.type=some i/\i.size=z':=by
       unfold tyL at ht;split at ht
       .rename_i i _ hi _;injection ht with ht;injection ht with h1 _;exact⟨i,hi,h1⟩
       .rename_i i _ _ hi _;injection ht with ht;injection ht with h1 _;exact⟨i,hi,h1⟩
       .rename_i i _ _ _ hi _;injection ht with ht;injection ht with h1 _;exact⟨i,hi,h1⟩
       .cases ht
      obtain⟨i,hi,fm⟩:=hi
      have a4:∀b off,(Instr.fieldAt s (.pointer (some ⟨b,off,none⟩)) f).run P w=.ok (.pointer (some ⟨b,off+fd.offset,none⟩)) w:=by
       intro b off;have h1:(fs[f]?:Option Field)=some fd:=cm;simp[Instr.fieldAt,run_underlying hu,h1,Instr.sureAddr,fieldPlace,sizeOf,typeInfo,hi,fm,hz,Addr.jH]
      split at h0
      .rename_i id ver off e;simp only[cV,dz] at h0;obtain⟨rfl,rfl,rfl⟩:=h0;rw[e] at hx;obtain⟨b,C,hv,h1,h2,h3⟩:=hx.pb;exact⟨rfl,_,by simp[execOp,ho,hv,a4],.ptr h1 h2.1 h3 h2.2⟩
      .rename_i own f' cells off e;simp only[cV,dz] at h0;obtain⟨rfl,rfl,rfl⟩:=h0;rw[e] at hx;obtain⟨b,o',vals,hv,h1,h2,h3⟩:=hx.qx;refine⟨rfl,_,by simp[execOp,ho,hv,a4];rfl,.w ?_ (λh=>au)⟩;rw[pN];exact .ip vals h1 h2 h3
      .cases h0
   .cases hf
  .cases hf
 .cases h0
end
section
variable{P:Program}{B:Base}{m:Mm}{w:World}{H h:bz}{n:Nat}{env:Env}{a:Act}
theorem bG.HX{L:Nat->Prop}{cs:List AV}{v:Value}(h:bG B L m w (.agg cs) v):∃vs:Array Value,v=.agg vs/\cs.length=vs.size/\∀(j:Nat)(p:AV)(u:Value),cs[j]?=some p->vs[j]?=some u->bG B L m w p u:=by
 cases h with|agg h1 h2=>grind
theorem bG.xm{L:Nat->Prop}{cs:List AV}{v:Value}(h:bG B L m w (.tup cs) v):∃vs:Array Value,v=.tuple vs/\cs.length=vs.size/\∀(j:Nat)(p:AV)(u:Value),cs[j]?=some p->vs[j]?=some u->bG B L m w p u:=by
 cases h with|tup h1 h2=>grind
theorem bG.Q0{L:Nat->Prop}{o f:Bool}{cs:List PV}{v:Value}(h:bG B L m w (.w o f (.tup cs)) v):∃vs:Array Value,v=.tuple vs/\cs.length=vs.size/\∀(j:Nat)(p:PV)(u:Value),cs[j]?=some p->vs[j]?=some u->Rep (Good B L o) w p u:=by
 cases h with|w h _=>cases h with|tup h1 h2=>grind
theorem getD_some{α:Type}{l:List α}{i:Nat}{d:α}(h:i<l.length):l[i]?=some (l.getD i d):=by
 simp_all
theorem J4{L:Nat->Prop}{cs:List AV}{vs:Array Value}(hl:cs.length=vs.size)(hr:∀(j:Nat)(p:AV)(u:Value),cs[j]?=some p->vs[j]?=some u->bG B L m w p u)(o z:Nat)(hz:o+z<=cs.length):bG B L m w (.agg ((cs.drop o).take z)) (.agg (vs.extract o (o+z))):=by
 refine .agg ar (λj p u hp hu=>?_);rw[lQ] at hp
 grind
theorem J5{G:Nat->Prop}{cs:List PV}{vs:Array Value}(hl:cs.length=vs.size)(hr:∀(j:Nat)(p:PV)(u:Value),cs[j]?=some p->vs[j]?=some u->Rep G w p u)(o z:Nat)(hz:o+z<=cs.length):Rep G w (.agg ((cs.drop o).take z)) (.agg (vs.extract o (o+z))):=by
 refine .agg ar (λj p u hp hu=>?_);rw[lQ] at hp
 grind
theorem DH{t:TypeId}{z:Nat}{g:Bool}(ht:tyL P t=some (z,g)):∃i d,P.info? t=some i/\i.size=z/\P.underlying t=some d/\(isAgg t).run P w=.ok g w:=by
 unfold tyL at ht;split at ht
 .rename_i i fs hi hu;injection ht with ht;injection ht with h1 h2;subst h1;subst h2;exact⟨i,_,hi,rfl,hu,by simp[isAgg,run_underlying hu]⟩
 .rename_i i n e hi hu;injection ht with ht;injection ht with h1 h2;subst h1;subst h2;exact⟨i,_,hi,rfl,hu,by simp[isAgg,run_underlying hu]⟩
 .rename_i i d eo en hi hu;injection ht with ht;injection ht with h1 h2;subst h1;subst h2
  refine⟨i,d,hi,rfl,hu,?_⟩
  cases d<;>first|exact absurd rfl (eo _)|exact absurd rfl (en _ _)|simp[isAgg,run_underlying hu]
 .cases ht
theorem J6{s:TypeId}{f o z:Nat}{g:Bool}(hf:fOf P s f=some (o,z,g)):∃(fs:Array Field)(fd:Field),P.underlying s=some (.struct fs)/\(fs[f]?:Option Field)=some fd/\fd.offset=o/\tyL P fd.type=some (z,g):=by
 unfold fOf at hf;split at hf
 .rename_i fs hu;split at hf
  .rename_i fd cm
   cases ht:tyL P fd.type with
   |none=>grind
   |some zz=>
    grind
  .cases hf
 .cases hf
theorem J7(s:TypeId)(x:Operand)(f:Nat)(o:Oper)(ho:o.op=.field s x f){c:Prop}{v:AV}{E:List (List AV)}(h0:aOp P h n (ev env) (.field s x f)=some (c,v,E))(hc:c)(hx:bG B (LB m H) m w (ev env x) (a.eval x)):E=[]/\fO P B H m w (execOp a.eval o) v:=by
 simp only[aOp] at h0;split at h0
 .rename_i off z g hf;obtain⟨fs,fd,hu,cm,rfl,ht⟩:=J6 hf;obtain⟨i,d,hi,hz,_,ay⟩:=DH (w:=w) ht
  have a4:∀vs:Array Value,(Instr.field s (.agg vs) f).run P w=if g=true then .ok (.agg (vs.extract fd.offset (fd.offset+z))) w else (match vs[fd.offset]? with|some v=>.ok v w|none=>.halt (.stuck "part: no such cell") w):=by
   intro vs;cases g
   .simp only[Instr.field,Sem.run_bind,run_underlying hu,Result.andThen_ok,cm,asAgg,Sem.run_pure,part,ay]
    cases vs[fd.offset]?<;>simp[stuck]
   .simp only[Instr.field,Sem.run_bind,run_underlying hu,Result.andThen_ok,cm,asAgg,Sem.run_pure,part,ay];simp[sizeOf,typeInfo,hi,hz]
  split at h0
  .rename_i cs e;rw[e] at hx;obtain⟨vs,hv,hl,hr⟩:=hx.HX;cases g
   .simp only[cond_false,cV,dz] at h0;obtain⟨rfl,rfl,rfl⟩:=h0
    have a9:fd.offset<vs.size:=ab
    exact⟨rfl,vs[fd.offset],by simp[execOp,ho,hv,a4,a9],hr _ _ _ (getD_some hc) (by simp[a9])⟩
   .simp only[cond_true,cV,dz] at h0;obtain⟨rfl,rfl,rfl⟩:=h0;exact⟨rfl,_,by simp[execOp,ho,hv,a4],J4 hl hr _ _ hc⟩
  .rename_i own f' cs e;rw[e] at hx;obtain⟨vs,hv,hl,hr⟩:=hx.BL;cases g
   .simp only[cond_false,cV,dz] at h0;obtain⟨rfl,rfl,rfl⟩:=h0
    have a9:fd.offset<vs.size:=ab
    exact⟨rfl,vs[fd.offset],by simp[execOp,ho,hv,a4,a9],.w (hr _ _ _ (getD_some hc) (by simp[a9])) nofun⟩
   .simp only[cond_true,cV,dz] at h0;obtain⟨rfl,rfl,rfl⟩:=h0;exact⟨rfl,_,by simp[execOp,ho,hv,a4],.w (J5 hl hr _ _ hc) nofun⟩
  .cases h0
 .cases h0
theorem jT{t:TypeId}{e z:Nat}(hs:slE P t=some (e,z)):P.underlying t=some (.slice e)/\∃i,P.info? e=some i/\i.size=z:=by
 unfold slE at hs;split at hs
 .rename_i e' hu
  cases hi:P.info? e' with
  |none=>grind
  |some i=>
   simp_all
 .cases hs
theorem J8{t:TypeId}{k z:Nat}(hs:arE P t=some (k,z)):∃e,P.underlying t=some (.array k e)/\∃i,P.info? e=some i/\i.size=z:=by
 unfold arE at hs;split at hs
 .rename_i n e hu
  cases hi:P.info? e with
  |none=>grind
  |some i=>
   simp_all
 .cases hs
theorem bG.nW{L:Nat->Prop}{o f:Bool}{cells:List PV}{k:Nat}{v:Value}(h:bG B L m w (.w o f (.sl k cells)) v):∃a0 cap,v=.slice a0 k cap/\k<=cap/\(f=true->k=cap)/\(a0=none->k=0/\cap=0)/\(cells≠[]->∃b off vals,a0=some ⟨b,off,none⟩/\dF w b off cells.length vals/\Good B L o b/\∀(j:Nat)(p:PV),cells[j]?=some p->Rep (Good B L o) w p (vals j)):=by
 cases h with
 |w h hf=>
  cases h with
  |slnil=>grind
  |sl vals h1 h2 h3 h4=>grind
  |slz h1=>grind
theorem bG.nX{L:Nat->Prop}{id ver sz off k:Nat}{v:Value}(h:bG B L m w (.msl id ver sz off k) v):∃a0 cap,v=.slice a0 k cap/\k<=cap/\m.dom id/\ver<=m.top id/\(m.addr id ver=none->cap=0/\ver=0)/\(∀b C,m.addr id ver=some (b,C)->(0<cap->a0=some ⟨b,off,none⟩)/\off+cap*sz<=C/\ver<=off+cap*sz):=by
 cases h with|msl h1 h2 h3 h4 h5=>grind
theorem J9(t:TypeId)(x i:Operand)(o:Oper)(ho:o.op=.indexAddr t x i){c:Prop}{v:AV}{E:List (List AV)}(h0:aOp P h n (ev env) (.indexAddr t x i)=some (c,v,E))(hc:c)(hx:bG B (LB m H) m w (ev env x) (a.eval x))(hi:bG B (LB m H) m w (ev env i) (a.eval i)):E=[]/\fO P B H m w (execOp a.eval o) v:=by
 simp only[aOp] at h0;split at h0
 .rename_i oi fi ki j ei;rw[ei] at hi;have hiv:=hi.iw;split at h0
  .rename_i e sz hs;obtain⟨hu,it,ct,hz⟩:=jT hs
   have a4:∀(b off k cap:Nat),0<=j->j<k->(Instr.indexAt t (.slice (some ⟨b,off,none⟩) k cap) (.int ki j)).run P w=.ok (.pointer (some ⟨b,off+j.toNat*sz,none⟩)) w:=by
    intro b off k cap h1 h2;simp[Instr.indexAt,asIntOf,run_underlying hu,h1,h2,sizeOf,typeInfo,ct,hz,Addr.jH]
   split at h0
   .rename_i own f' k cells e;cases h0;obtain⟨c1,c2,c3⟩:=hc;rw[e] at hx;obtain⟨a0,cap,hv,_,_,_,cf⟩:=hx.nW;obtain⟨b,off,vals,rfl,h1,h2,h3⟩:=cf ak;exact⟨rfl,_,by simp[execOp,ho,hv,hiv,a4 b off k cap c1 c2],.w (.ip vals h1 (λ_=>h2) h3) nofun⟩
   .rename_i id ver z off k e;cases h0;obtain⟨c1,c2,c3⟩:=hc;subst c3;rw[e] at hx;obtain⟨a0,cap,hv,h1,h2,h3,h4,h5⟩:=hx.nX
    cases ha:m.addr id ver with
    |none=>grind
    |some bc=>
     obtain⟨b,C⟩:=bc;obtain⟨h6,h8,h9⟩:=h5 b C ha;have h7:=h6 ab;subst h7;exact⟨rfl,_,by simp[execOp,ho,hv,hiv,a4 b off k cap c1 c2],.ptr h2 h3 ha ab⟩
   .cases h0
  .split at h0
   .rename_i k sz hs;obtain⟨e,hu,it,ct,hz⟩:=J8 hs
    have a4:∀(b off:Nat),0<=j->j<k->(Instr.indexAt t (.pointer (some ⟨b,off,none⟩)) (.int ki j)).run P w=.ok (.pointer (some ⟨b,off+j.toNat*sz,none⟩)) w:=by
     intro b off h1 h2;simp[Instr.indexAt,asIntOf,run_underlying hu,h1,h2,sizeOf,typeInfo,ct,hz,Addr.jH,Instr.sureAddr]
    split at h0
    .rename_i id ver off e;cases h0;rw[e] at hx;obtain⟨b,C,hv,h1,h2,h3⟩:=hx.pb;exact⟨rfl,_,by simp[execOp,ho,hv,hiv,a4 b off hc.1 hc.2],.ptr h1 h2.1 h3 h2.2⟩
    .rename_i own f' cells off e;cases h0;rw[e] at hx;obtain⟨b,o',vals,hv,h1,h2,h3⟩:=hx.qx;refine⟨rfl,_,by simp[execOp,ho,hv,hiv,a4 b (o'+off) hc.1 hc.2];rfl,.w ?_ nofun⟩;rw[pN];exact .ip vals h1 h2 h3
    .cases h0
   .cases h0
 .cases h0
theorem Ka(t:TypeId)(x i:Operand)(o:Oper)(ho:o.op=.index t x i){c:Prop}{v:AV}{E:List (List AV)}(h0:aOp P h n (ev env) (.index t x i)=some (c,v,E))(hc:c)(hx:bG B (LB m H) m w (ev env x) (a.eval x))(hi:bG B (LB m H) m w (ev env i) (a.eval i)):E=[]/\fO P B H m w (execOp a.eval o) v:=by
 simp only[aOp] at h0;split at h0
 .rename_i oi fi ki j ox fx s ei ex;rw[ei] at hi;rw[ex] at hx
  cases hS:isStr P t with
  |false=>rw[hS] at h0;cases h0
  |true=>
   rw[hS] at h0;simp only[cond_true,cV,dz] at h0;obtain⟨rfl,rfl,rfl⟩:=h0
   have hu:P.underlying t=some .string:=by
    unfold isStr at hS
    grind
   obtain⟨c1,c2⟩:=hc
   have a9:j.toNat<s.size:=ab
   have bY:s[j.toNat]?=some s[j.toNat]:=by simp[a9]
   have hd:s.data.toList.getD j.toNat 0=s[j.toNat]:=by
    rw[dT]
    have:s.data.toList[j.toNat]?=some s[j.toNat]:=by
     rw[jo];rw[dE aE];rfl
    rw[this];rfl
   exact⟨rfl,.int .u8 (s.data.toList.getD j.toNat 0).toNat,by rw[hd];simp[execOp,ho,hx.o9,hi.iw,Instr.index,asIntOf,run_underlying hu,c1,bY],gI _ _⟩
 .cases h0
theorem Kb(x:Operand)(i:Nat)(o:Oper)(ho:o.op=.extract x i){c:Prop}{v:AV}{E:List (List AV)}(h0:aOp P h n (ev env) (.extract x i)=some (c,v,E))(hx:bG B (LB m H) m w (ev env x) (a.eval x)):E=[]/\fO P B H m w (execOp a.eval o) v:=by
 simp only[aOp] at h0;split at h0
 .rename_i vs e;rw[e] at hx;obtain⟨us,hv,hl,hr⟩:=hx.xm;split at h0
  .rename_i a9;cases h0
   have ba:i<us.size:=ab
   exact⟨rfl,us[i],by simp[execOp,ho,hv,Instr.extract,ba],hr _ _ _ (getD_some a9) (by simp[ba])⟩
  .cases h0
 .rename_i own f' vs e;rw[e] at hx;obtain⟨us,hv,hl,hr⟩:=hx.Q0;split at h0
  .rename_i a9;cases h0
   have ba:i<us.size:=ab
   exact⟨rfl,us[i],by simp[execOp,ho,hv,Instr.extract,ba],.w (hr _ _ _ (getD_some a9) (by simp[ba])) nofun⟩
  .cases h0
 .cases h0
end
section
variable{P:Program}{B:Base}{m:Mm}{w:World}{H h:bz}{n:Nat}{env:Env}{a:Act}
theorem DI(t:TypeId)(x:Operand)(o:Oper)(ho:o.op=.load t x){c:Prop}{v:AV}{E:List (List AV)}(h0:aOp P h n (ev env) (.load t x)=some (c,v,E))(hc:c)(hs:cQ B H m w)(bh:∀id cs,bY h id=some cs->(id,cs)∈H)(hx:bG B (LB m H) m w (ev env x) (a.eval x)):E=[]/\fO P B H m w (execOp a.eval o) v:=by
 simp only[aOp] at h0;split at h0
 .rename_i sz g ht;split at h0
  .rename_i id ver off e;rw[e] at hx;obtain⟨b,C,hv,h1,h2,h3⟩:=hx.pb;split at h0
   .rename_i cells hg
    have main:cells.length=ver->off+(bif g then sz else 1)<=cells.length->∃cs:Array Value,cells.length<=cs.size/\(∀(j:Nat)(p:AV)(v:Value),cells[j]?=some p->cs[j]?=some v->bG B (LB m H) m w p v) /\
     (execOp a.eval o).run P w=.ok (.value (bif g then .agg ((List.range sz).map λj=>cs.getD (off+j) undef).toArray else cs.getD off undef)) w:=by
     intro e9 hle;rw[<-e9] at h3;obtain⟨cs,e',hh,hC,g0,_,hr⟩:=hs.read (bh id cells hg) h1 h3 ab;refine⟨cs,ab,hr,?_⟩
     have a4:=Dy (P:=P) (w:=w) b off ht (λj=>cs.getD (off+j) undef) (λj hj=>by
      have:off+j<cs.size:=ab
      rw[nG hh]
      simp[this])
     simp only[oH] at a4;simp[execOp,ho,hv,a4]
    cases g with
    |false=>
     simp only[cond_false,cV,dz] at h0 main;obtain⟨rfl,rfl,rfl⟩:=h0;obtain⟨cs,hle,hr,a4⟩:=main hc.1 (by have:=hc.2;omega)
     exact⟨rfl,_,a4,hr _ _ _ (getD_some hc.2) (by have:=hc.2;have:off<cs.size:=by omega
                                                  simp[this])⟩
    |true=>
     simp only[cond_true,cV,dz] at h0 main;obtain⟨rfl,rfl,rfl⟩:=h0;obtain⟨cs,hle,hr,a4⟩:=main hc.1 hc.2;refine⟨rfl,_,a4,.agg (by have:=hc.2;simp;omega) (λj p u hp hu=>?_)⟩;rw[lQ] at hp;split at hp
     .rw[xV] at hp;have hj:off+j<cells.length:=(fg.1 hp).1
      have dr:off+j<cs.size:=ab
      simp only[xW,jm] at hu;rename_i a9;rw[CV a9] at hu;simp only[dZ,cV] at hu;refine hr _ p u hp ?_;rw[<-hu];simp[dr]
     .cases hp
   .cases h0
  .rename_i own f' cells off e;rw[e] at hx;obtain⟨b,o',vals,hv,h1,h2,h3⟩:=hx.qx
   have main:off+(bif g then sz else 1)<=cells.length->(execOp a.eval o).run P w=.ok (.value (bif g then .agg ((List.range sz).map λj=>vals (off+j)).toArray else vals off)) w:=by
    intro hle
    have a4:=Dy (P:=P) (w:=w) b (o'+off) ht (λj=>vals (off+j)) (λj hj=>by
     rw[pN];exact h1 _ ab)
    simp only[oH] at a4;simp[execOp,ho,hv,a4]
   cases g with
   |false=>
    simp only[cond_false,cV,dz] at h0 main;obtain⟨rfl,rfl,rfl⟩:=h0;exact⟨rfl,_,main ab,.w (h3 _ _ (getD_some hc)) nofun⟩
   |true=>
    simp only[cond_true,cV,dz] at h0 main;obtain⟨rfl,rfl,rfl⟩:=h0;refine⟨rfl,_,main hc,.w (.agg ar (λj p u hp hu=>?_)) nofun⟩;rw[lQ] at hp
    grind
  .cases h0
 .cases h0
theorem Kc(args:Array Operand)(tys:Array TypeId)(o:Oper)(ho:o.op=.call { callee:=.builtin .len,args:=args,argTypes:=tys }){c:Prop}{v:AV}{E:List (List AV)}(h0:aOp P h n (ev env) (.call { callee:=.builtin .len,args:=args,argTypes:=tys })=some (c,v,E))(hx:∀x∈args.toList,bG B (LB m H) m w (ev env x) (a.eval x)):E=[]/\fO P B H m w (execOp a.eval o) v:=by
 simp only[aOp] at h0;split at h0
 .rename_i x t ao e7
  have ha:args=#[x]:=by rw[<-oI (xs:=args),ao]
  have ht:tys=#[t]:=by rw[<-oI (xs:=tys),e7]
  subst ha;subst ht;have hx:=hx x ae;split at h0
  .rename_i own f' k cells e;rw[e] at hx;obtain⟨a0,cap,hv,_⟩:=hx.nW;split at h0
   .rename_i es hs;cases h0;obtain⟨hu,_⟩:=jT (e:=es.1) (z:=es.2) hs;exact⟨rfl,_,by simp[execOp,ho,resolve,invoke,builtin,Builtin.len_,hv,run_underlying hu,goInt],gI _ _⟩
   .cases h0
  .rename_i id ver z off k e;rw[e] at hx;obtain⟨a0,cap,hv,_⟩:=hx.nX;split at h0
   .rename_i es hs;cases h0;obtain⟨hu,_⟩:=jT (e:=es.1) (z:=es.2) hs;exact⟨rfl,_,by simp[execOp,ho,resolve,invoke,builtin,Builtin.len_,hv,run_underlying hu,goInt],gI _ _⟩
   .cases h0
  .rename_i own f' s e;rw[e] at hx
   cases hS:isStr P t with
   |false=>rw[hS] at h0;cases h0
   |true=>
    rw[hS] at h0;simp only[cond_true,cV,dz] at h0;obtain⟨rfl,rfl,rfl⟩:=h0
    have hu:P.underlying t=some .string:=by
     unfold isStr at hS
     grind
    exact⟨rfl,_,by simp[execOp,ho,resolve,invoke,builtin,Builtin.len_,hx.o9,run_underlying hu,goInt],gI _ _⟩
  .cases h0
 .cases h0
theorem Ke(args:Array Operand)(tys:Array TypeId)(o:Oper)(ho:o.op=.call { callee:=.builtin .max,args:=args,argTypes:=tys }){c:Prop}{v:AV}{E:List (List AV)}(h0:aOp P h n (ev env) (.call { callee:=.builtin .max,args:=args,argTypes:=tys })=some (c,v,E))(hx:∀x∈args.toList,bG B (LB m H) m w (ev env x) (a.eval x)):E=[]/\fO P B H m w (execOp a.eval o) v:=by
 simp only[aOp] at h0;split at h0
 .rename_i x y ao
  have ha:args=#[x,y]:=by rw[<-oI (xs:=args),ao]
  subst ha;have d5:=hx x ae;have d6:=hx y ae;split at h0
  .rename_i ex ey;rw[ex] at d5;rw[ey] at d6;split at h0
   .rename_i hk;subst hk;cases h0;exact⟨rfl,_,by simp[execOp,ho,resolve,invoke,builtin,Builtin.max_,Builtin.max2,d5.iw,d6.iw],gI _ _⟩
   .cases h0
  .cases h0
 .cases h0
theorem Kf(args:Array Operand)(tys:Array TypeId)(o:Oper)(ho:o.op=.call { callee:=.builtin .min,args:=args,argTypes:=tys }){c:Prop}{v:AV}{E:List (List AV)}(h0:aOp P h n (ev env) (.call { callee:=.builtin .min,args:=args,argTypes:=tys })=some (c,v,E))(hx:∀x∈args.toList,bG B (LB m H) m w (ev env x) (a.eval x)):E=[]/\fO P B H m w (execOp a.eval o) v:=by
 simp only[aOp] at h0;split at h0
 .rename_i x y ao
  have ha:args=#[x,y]:=by rw[<-oI (xs:=args),ao]
  subst ha;have d5:=hx x ae;have d6:=hx y ae;split at h0
  .rename_i ex ey;rw[ex] at d5;rw[ey] at d6;split at h0
   .rename_i hk;subst hk;cases h0;exact⟨rfl,_,by simp[execOp,ho,resolve,invoke,builtin,Builtin.min_,Builtin.min2,d5.iw,d6.iw],gI _ _⟩
   .cases h0
  .cases h0
 .cases h0
theorem Kg(x:Operand)(o:Oper)(ho:o.op=.nilCheck x){c:Prop}{v:AV}{E:List (List AV)}(h0:aOp P h n (ev env) (.nilCheck x)=some (c,v,E))(hx:bG B (LB m H) m w (ev env x) (a.eval x)):E=[]/\fO P B H m w (execOp a.eval o) v:=by
 simp only[aOp] at h0;split at h0
 .rename_i id ver off e;cases h0;rw[e] at hx;obtain⟨b,C,hv,_⟩:=hx.pb;rw[hv] at hx;exact⟨rfl,_,by simp[execOp,ho,hv],hx⟩
 .rename_i own f' cells off e;cases h0;rw[e] at hx;obtain⟨b,o',vals,hv,_⟩:=hx.qx;rw[hv] at hx;exact⟨rfl,_,by simp[execOp,ho,hv],hx⟩
 .rename_i f cs e;cases h0;rw[e] at hx;generalize hv:a.eval x=vv at hx
  cases hx with
  |fn h1 h2=>exact⟨rfl,_,by simp[execOp,ho,hv],.fn h1 h2⟩
 .rename_i own f' g cs e;cases h0;rw[e] at hx;generalize hv:a.eval x=vv at hx
  cases hx with
  |w hx hf=>cases hx with
   |fn h1 h2=>exact⟨rfl,_,by simp[execOp,ho,hv],.w (.fn h1 h2) (λe a n c hh=>by cases hh)⟩
 .cases h0
theorem Kh(fn:Fn)(first captured:Array Operand)(o:Oper)(ho:o.op=.makeFunc fn first captured){c:Prop}{v:AV}{E:List (List AV)}(h0:aOp P h n (ev env) (.makeFunc fn first captured)=some (c,v,E))(hx:∀x∈captured.toList,bG B (LB m H) m w (ev env x) (a.eval x)):E=[]/\fO P B H m w (execOp a.eval o) v:=by
 cases fn with
 |func f=>
  simp only[aOp] at h0;split at h0
  .rename_i hz
   have hz:first=#[]:=by simpa using hz
   subst hz;cases h0;refine⟨rfl,_,by simp[execOp,ho,Instr.makeFunc];rfl,.fn ae (λj p u hp hu=>?_)⟩
   grind
  .cases h0
 |_=>simp[aOp] at h0
end
section
variable{P:Program}{B:Base}{m:Mm}{w:World}{H h:bz}{n:Nat}{env:Env}{a:Act}
theorem DJ(len cap l u:Nat)(low high:Option Value)(hl:low=none/\l=0\/∃k,low=some (.int k l))(hh:high=none/\u=len\/∃k,high=some (.int k u))(h1:l<=u)(h2:u<=cap):(Instr.sliceBounds true len cap low high none).run P w=.ok (l,u,cap) w:=by
 rcases hl with ⟨rfl,rfl⟩|⟨k,rfl⟩<;>rcases hh with ⟨rfl,rfl⟩|⟨k',rfl⟩<;>simp[Instr.sliceBounds,Instr.sliceBound,asIntOf,h1,h2]
theorem Ki(len l u:Nat)(low high:Option Value)(hl:low=none/\l=0\/∃k,low=some (.int k l))(hh:high=none/\u=len\/∃k,high=some (.int k u))(h1:l<=u)(h2:u<=len):(Instr.sliceBounds false len len low high none).run P w=.ok (l,u,len) w:=by
 rcases hl with ⟨rfl,rfl⟩|⟨k,rfl⟩<;>rcases hh with ⟨rfl,rfl⟩|⟨k',rfl⟩<;>simp[Instr.sliceBounds,Instr.sliceBound,asIntOf,h1,h2]
theorem Kj(len cap l u:Nat)(low high:Option Value)(kq:IntKind)(hl:low=none/\l=0\/∃k,low=some (.int k l))(hh:∃k,high=some (.int k u))(h1:l<=u)(h2:u<=cap):(Instr.sliceBounds true len cap low high (some (.int kq u))).run P w=.ok (l,u,u) w:=by
 rcases hl with ⟨rfl,rfl⟩|⟨k,rfl⟩<;>obtain⟨k',rfl⟩:=hh<;>simp[Instr.sliceBounds,Instr.sliceBound,asIntOf,h1,h2]
theorem yR{t e sz:Nat}(hs:slE P t=some (e,sz))(a0:Option Addr)(len cap l u mx:Nat)(low high max:Option Value)(hb:(Instr.sliceBounds true len cap low high max).run P w=.ok (l,u,mx) w):(Instr.sliceAt t (.slice a0 len cap) low high max).run P w=.ok (.slice (if mx=l then a0 else a0.map (·.add (l*sz))) (u-l) (mx-l)) w:=by
 obtain⟨hu,i,hi,hz⟩:=jT hs;simp[Instr.sliceAt,Instr.slice,run_underlying hu,hb,sizeOf,typeInfo,hi,hz]
theorem vh{L:Nat->Prop}{x:AV}{v:Value}{i:Int}(hx:bG B L m w x v)(h:qv x=some i):∃k,v=.int k i:=by
 unfold qv at h;split at h
 .cases h;exact⟨_,hx.iw⟩
 .cases h
theorem vi{lo:Option Operand}{l:Int}(hr:∀x,lo=some x->bG B (LB m H) m w (ev env x) (a.eval x))(h:lov (ev env) lo=some l)(h0:0<=l):lo.map a.eval=none/\l.toNat=0\/∃k,lo.map a.eval=some (.int k (l.toNat:Int)):=by
 cases lo with
 |none=>injection h with h;simp_all
 |some x=>
  obtain⟨k,hk⟩:=vh (hr x rfl) h
  grind
theorem vj{hi:Option Operand}{u:Int}{k:Nat}(hr:∀x,hi=some x->bG B (LB m H) m w (ev env x) (a.eval x))(h:hiv (ev env) k hi=some u)(h0:0<=u):hi.map a.eval=none/\u.toNat=k\/∃q,hi.map a.eval=some (.int q (u.toNat:Int)):=by
 cases hi with
 |none=>injection h with h;grind
 |some x=>
  obtain⟨k,hk⟩:=vh (hr x rfl) h
  grind
theorem yS{own f:Bool}{k:Nat}{cells:List PV}{v:Value}(hx:bG B (LB m H) m w (.w own f (.sl k cells)) v)(l u mx sz:Nat)(em:l<=u)(hu:u<=mx)(f':Bool)(hf:f'=true->mx=u):∃a0 cap,v=.slice a0 k cap/\k<=cap/\(mx<=cap->bG B (LB m H) m w (.w own f' (.sl (u-l) ((cells.drop (l*sz)).take ((u-l)*sz)))) (.slice (if mx=l then a0 else a0.map (·.add (l*sz))) (u-l) (mx-l))):=by
 obtain⟨a0,cap,hv,hk,_,hn,hc⟩:=hx.nW;refine⟨a0,cap,hv,hk,λgi=>.w ?_ (λe a n c hh=>ak)⟩
 cases hL:(cells.drop (l*sz)).take ((u-l)*sz) with
 |nil=>
  cases ha:a0 with
  |none=>
   obtain⟨h1,h2⟩:=hn ha
   have e1:u-l=0:=ab
   have e2:mx-l=0:=ab
   rw[e1,e2]
   split<;>exact .slnil
  |some aa=>split<;>exact .slz ab
 |cons x xs=>
  have b4:cells≠[]:=by rintro rfl;simp at hL
  obtain⟨b,off,vals,rfl,h1,h2,h3⟩:=hc b4
  have a9:l<u:=by
   rcases eX l u with h|h
   .exact h
   .have:u-l=0:=ab
    rw[this] at hL;simp at hL
  rw[bN ab];simp only[dZ,Addr.jH];refine .sl (λj=>vals (l*sz+j)) ab (λj hj=>?_) (λ_=>h2) (λj p hp=>?_)
  .have dr:l*sz+j<cells.length:=by
    rw[<-hL,jP,xX] at hj;omega
   rw[pN];exact h1 _ dr
  grind
theorem Kk(t:TypeId)(x:Operand)(lo hi mx:Option Operand)(o:Oper)(ho:o.op=.slice t x lo hi mx){c:Prop}{v:AV}{E:List (List AV)}(h0:aOp P h n (ev env) (.slice t x lo hi mx)=some (c,v,E))(hc:c)(hx:bG B (LB m H) m w (ev env x) (a.eval x))(d':∀y,lo=some y->bG B (LB m H) m w (ev env y) (a.eval y))(cp:∀y,hi=some y->bG B (LB m H) m w (ev env y) (a.eval y))(em:∀y,mx=some y->bG B (LB m H) m w (ev env y) (a.eval y)):E=[]/\fO P B H m w (execOp a.eval o) v:=by
 simp only[aOp] at h0;split at h0
 .rename_i e sz hs;split at h0
  .rename_i l own f k cells hl ex;rw[ex] at hx;split at h0
   .rename_i u hu;cases h0;obtain⟨c1,c2,c3⟩:=hc;have bq:=vi d' hl c1;have bv:=vj cp hu ab;obtain⟨a0,cap,hv,hk,_⟩:=yS hx l.toNat u.toNat u.toNat sz ab (bU _) false nofun;obtain⟨gc,f3,b7,_,hr⟩:=yS hx l.toNat u.toNat cap sz ab ab false nofun
    rw[hv] at b7;injection b7 with e1 e2 e3;subst e1;subst e3
    refine⟨rfl,_,?_,hr (bU _)⟩;have hb:=DJ (P:=P) (w:=w) k cap l.toNat u.toNat _ _ bq bv ab ab;simp[execOp,ho,hv,yR hs a0 k cap _ _ _ _ _ _ hb]
   .rename_i u y hu;split at h0
    .rename_i q yy hq;cases h0;obtain⟨c1,c2,c3,c4⟩:=hc;subst c4;have bq:=vi d' hl c1;have bv:=vj cp hu ab;obtain⟨kq,g5⟩:=vh (em y rfl) hq;obtain⟨a0,cap,hv,hk,hr⟩:=yS hx l.toNat q.toNat q.toNat sz ab (bU _) true (λ_=>rfl);refine⟨rfl,_,?_,hr ab⟩
     have e8:∃k,(some yy).map a.eval=some (.int k (q.toNat:Int)):=by
      simp_all
     have hb:=Kj (P:=P) (w:=w) k cap l.toNat q.toNat _ _ kq bq e8 ab ab
     have dx:a.eval y=.int kq (q.toNat:Int):=by rw[g5,Int.toNat_of_nonneg ab]
     have bg:=yR hs a0 k cap _ _ _ _ _ _ hb;rw[<-dx,<-dZ (f:=a.eval) (a:=y)] at bg;simp only[execOp,ho,hv,Sem.run_bind,bg,Result.andThen_ok,Sem.run_pure]
    .cases h0
   .cases h0
  .rename_i l id ver z off k hl ex;rw[ex] at hx;split at h0
   .rename_i u hu;cases h0;obtain⟨c1,c2,c3,c4⟩:=hc;subst c4;have bq:=vi d' hl c1;have bv:=vj cp hu ab;obtain⟨a0,cap,hv,hk,h1,h2,h3,h4⟩:=hx.nX;have hb:=DJ (P:=P) (w:=w) k cap l.toNat u.toNat _ _ bq bv ab ab;have bg:=yR hs a0 k cap _ _ _ _ _ _ hb;refine⟨rfl,.slice (if cap=l.toNat then a0 else a0.map (·.add (l.toNat*z))) (u.toNat-l.toNat) (cap-l.toNat),?_,.msl h1 h2 ab (λe=>?_) (λb C e=>?_)⟩
    .simp only[execOp,ho,hv,Sem.run_bind,bg,Jo,Result.andThen_ok,Sem.run_pure]
    .simp_all
    .obtain⟨e1,e2,e3⟩:=h4 b C e
     have e5:l.toNat*z+(cap-l.toNat)*z=cap*z:=by rw[<-eU];grind
     refine⟨λhp=>?_,ab,ab⟩;rw[bN ab,e1 ab];simp[Addr.jH]
   .cases h0
  .cases h0
 .unfold BG at h0;split at h0
  .rename_i own f s df ex;rw[ex] at hx;split at h0
   .rename_i l u hl hu;cases h0;obtain⟨c1,c2,c3⟩:=hc;have bq:=vi d' hl c1;have bv:=vj cp hu ab
    have g7:P.underlying t=some .string:=by
     unfold isStr at df
     grind
    have hb:(Instr.sliceBounds false s.size s.size (lo.map a.eval) (hi.map a.eval) none).run P w=.ok (l.toNat,u.toNat,s.size) w:=by
     exact Ki s.size l.toNat u.toNat _ _ bq bv ab ab
    refine⟨rfl,.string (s.extract l.toNat u.toNat),?_,Dz _⟩;simp[execOp,ho,hx.o9,Instr.sliceAt,Instr.slice,run_underlying g7,hb]
   .cases h0
  .rename_i own f cells off df ex;rw[ex] at hx;split at h0
   .rename_i n sz hp;cases h0;obtain⟨c1,c2⟩:=hc;unfold arE at hp;split at hp
    .rename_i n' e hu
     cases ag:P.info? e with
     |none=>rw[ag] at hp;cases hp
     |some i=>
      rw[ag] at hp;simp only[dZ,cV,dz] at hp;obtain⟨rfl,rfl⟩:=hp;obtain⟨b,o',vals,hv,h1,h2,h3⟩:=hx.qx;refine⟨rfl,.slice (some ⟨b,o'+off,none⟩) n' n',?_,?_⟩
      .simp[execOp,ho,hv,Instr.sliceAt,Instr.sureAddr,run_underlying hu,Instr.sliceBounds,sizeOf,typeInfo,ag]
       intros
       rfl
      .refine .w (.sl (λj=>vals (off+j)) (bU _) (λj hj=>?_) (λb4=>h2 ?_) (λj p hj=>?_)) (λ_ a n c e=>by injection e with _ e1 e2;omega)
       .rw[jP,xX] at hj;rw[pN];exact h1 (off+j) ab
       .intro e;rw[e] at b4;simp at b4
       grind
    .cases hp
   .rename_i n sz y hp;split at h0
    .rename_i u g6;cases h0;obtain⟨c1,c2,c3,c4⟩:=hc;obtain⟨U,rfl⟩:=Int.eq_ofNat_of_zero_le c3;obtain⟨kq,ga⟩:=vh (cp y rfl) g6;simp only[Int.toNat_natCast]
     have hU:U<=n:=ab
     have hUs:U*sz<=n*sz:=qT sz hU;unfold arE at hp;split at hp
     .rename_i n' e hu
      cases ag:P.info? e with
      |none=>rw[ag] at hp;cases hp
      |some i=>
       rw[ag] at hp;simp only[dZ,cV,dz] at hp;obtain⟨rfl,rfl⟩:=hp;obtain⟨b,o',vals,hv,h1,h2,h3⟩:=hx.qx;refine⟨trivial,.slice (some ⟨b,o'+off,none⟩) U n',?_,?_⟩
       .simp[execOp,ho,hv,ga,Instr.sliceAt,Instr.sureAddr,run_underlying hu,Instr.sliceBounds,Instr.sliceBound,asIntOf,sizeOf,typeInfo,ag,hU]
        intros
        rfl
       .refine .w (.sl (λj=>vals (off+j)) hU (λj hj=>?_) (λb4=>h2 ?_) (λj p hj=>?_)) nofun
        .rw[jP,xX] at hj;rw[pN];exact h1 (off+j) ab
        .intro e;rw[e] at b4;simp at b4
        grind
     .cases hp
    .cases h0
   .cases h0
  .cases h0
end
theorem jy(w:World)(o:Obj){b:Nat}(h:b<w.heap.size):(w.alloc o).heap[b]?=w.heap[b]?:=by
 show (w.heap.push o)[b]?=_;rw[pL,bN ab]
theorem vk(w:World)(o:Obj):(w.alloc o).heap[w.heap.size]?=some o:=by
 show (w.heap.push o)[w.heap.size]?=_;simp
theorem yT(w:World)(o:Obj):(w.alloc o).heap.size=w.heap.size+1:=by
 simp
section
variable{P:Program}{B:Base}{m:Mm}{w:World}{H h:bz}{n:Nat}{env:Env}{a:Act}
theorem Km{H:bz}{R:(Nat×List AV)->(Nat×List AV)->Prop}(hp:H.Pairwise λx y=>x.1≠y.1/\R x y){id:Nat}{c c':List AV}(h1:(id,c)∈H)(h2:(id,c')∈H):c=c':=by
 induction hp with
 |nil=>cases h1
 |@cons x l hx _ ih=>
  rcases dU.1 h1 with e1|e1<;>rcases dU.1 h2 with e2|e2
  .rw[<-e1] at e2;injection e2 with _ e2;exact e2.symm
  .subst e1;exact absurd rfl (hx _ e2).1
  .subst e2;exact absurd rfl (hx _ e1).1
  simp_all
theorem cQ.key(hs:cQ B H m w){id:Nat}{c c':List AV}(h1:(id,c)∈H)(h2:(id,c')∈H):c=c':=Km (R:=λ_ _=>_) hs.inj h1 h2
theorem cQ.block(hs:cQ B H m w){id:Nat}{cells:List AV}(hin:(id,cells)∈H)(hd:m.dom id){b C:Nat}(ha:m.addr id cells.length=some (b,C)):(∃o,w.heap[b]?=some o)/\B.n<=b:=by
 rcases (hs.entry id cells hin hd).2 with ⟨h0,_⟩|⟨b',C',cs,e,h1,h2,h3,h4,h5,h6⟩|⟨b',es,clk,h1,h2,h3,h4,_⟩
 .rw[h0] at ha;cases ha
 .rw[h1] at ha;injection ha with ha;injection ha with hb hC;subst hb;exact⟨⟨_,h2⟩,h5⟩
 simp_all
theorem fo(hs:cQ B H m w){b:Nat}(h:LB m H b):b<w.heap.size:=by
 obtain⟨id,cells,C,hin,hd,ha⟩:=h;obtain⟨⟨o,hh⟩,_⟩:=hs.block hin hd ha
 grind
def Mm.new(m:Mm)(id len:Nat)(bc:Option (Nat×Nat)):Mm:=
 { addr:=λi v=>if i=id/\v=len then bc else m.addr i v,top:=λi=>if i=id then len else m.top i,dom:=λi=>m.dom i\/i=id }
theorem Mm.uq{m:Mm}{id len:Nat}{bc:Option (Nat×Nat)}(aq:¬m.dom id):m.le (m.new id len bc):=by
 refine⟨λi hi=>.inl hi,λi hi=>?_,λi v hi _=>?_⟩
 .have:i≠id:=λe=>aq (e▸hi)
  simp[Mm.new,this]
 .have:i≠id:=λe=>aq (e▸hi)
  simp[Mm.new,this]
theorem te(hs:cQ B H m w){id:Nat}{cells:List AV}(hin:(id,cells)∈H){bc:Option (Nat×Nat)}{b:Nat}(h:LB (m.new id cells.length bc) H b):LB m H b\/∃C,bc=some (b,C):=by
 obtain⟨i,c,C,h1,h2,h3⟩:=h;by_cases hi:i=id
 .subst hi;obtain rfl:=hs.key h1 hin;simp only[Mm.new,and_self,cz] at h3;simp_all
 .simp only[Mm.new,hi,false_and,cP] at h3
  rcases h2 with h2|h2
  .exact .inl ⟨i,c,C,h1,h2,h3⟩
  trivial
theorem DK(hs:cQ B H m w)(hB:B.n<=w.heap.size){id:Nat}{cells:List AV}(hin:(id,cells)∈H)(aq:¬m.dom id)(cs:Array Value)(e:TypeId)(hlen:cells.length<=cs.size)(hr:∀(j:Nat)(p:AV)(v:Value),cells[j]?=some p->cs[j]?=some v->bG B (LB m H) m w p v):cQ B H (m.new id cells.length (some (w.heap.size,cs.size))) (w.alloc (.cells cs e)):=by
 have hle:=Mm.uq (len:=cells.length) (bc:=some (w.heap.size,cs.size)) aq
 have hL:∀b,b<w.heap.size->¬LB m H b->¬LB (m.new id cells.length (some (w.heap.size,cs.size))) H b:=by
  intro b hb hn hl
  rcases te hs hin hl with h|⟨C,h⟩
  .exact hn h
  simp_all
 have ax:∀p v,bG B (LB m H) m w p v->bG B (LB (m.new id cells.length (some (w.heap.size,cs.size))) H) (m.new id cells.length (some (w.heap.size,cs.size))) (w.alloc (.cells cs e)) p v:=
  λp v h=>h.mono hle hL (λb hb _=>jy w _ hb)
 refine⟨λi c bj hd=>?_,?_⟩
 .by_cases hi:i=id
  .subst hi;obtain rfl:=hs.key bj hin;refine⟨a8,.inr (.inl ⟨w.heap.size,cs.size,cs,e,a8,vk w _,rfl,ab,hB,λj p v hp hv=>ax p v (hr j p v hp hv)⟩)⟩
  .have bn:m.dom i:=by
    rcases hd with hd|hd
    .exact hd
    trivial
   obtain⟨ht,dq⟩:=hs.entry i c bj bn;refine⟨by simp[Mm.new,hi,ht],?_⟩
   rcases dq with ⟨h1,h2⟩|⟨b,C,cs',e',h1,h2,h3,h4,h5,h6⟩|⟨b,es,clk,h1,h2,h3,h4,h5⟩
   .exact .inl ⟨by simp[Mm.new,hi,h1],h2⟩
   .have hb:b<w.heap.size:=fo hs ⟨i,c,C,bj,bn,h1⟩;exact .inr (.inl ⟨b,C,cs',e',by simp[Mm.new,hi,h1],(jy w _ hb).trans h2,h3,h4,h5,λj p v hp hv=>ax p v (h6 j p v hp hv)⟩)
   .have hb:b<w.heap.size:=fo hs ⟨i,c,0,bj,bn,h1⟩;exact .inr (.inr ⟨b,es,clk,by simp[Mm.new,hi,h1],h2,(jy w _ hb).trans h3,h4,h5⟩)
 .have jI:=hs.inj;refine sJ ?_ jI;intro x y hx hy ⟨b4,gh⟩;refine⟨b4,λb C C' dp cg bl bi=>?_⟩;by_cases h1:x.1=id
  .have h2:y.1≠id:=λe=>b4 (h1.trans e.symm)
   have b8:m.dom y.1:=by rcases cg with h|h;· exact h
                         trivial
   have eh:x.2=cells:=hs.key (id:=id) (by rw[<-h1];exact hx) hin;simp only[Mm.new,h1,eh,and_self,cz,cV,dz] at bl;simp only[Mm.new,h2,false_and,cP] at bi;have:=fo hs ⟨y.1,y.2,C',hy,b8,bi⟩;omega
  .have bo:m.dom x.1:=by rcases dp with h|h;· exact h
                         trivial
   simp only[Mm.new,h1,false_and,cP] at bl;by_cases h2:y.1=id
   .have ea:y.2=cells:=hs.key (id:=id) (by rw[<-h2];exact hy) hin;simp only[Mm.new,h2,ea,and_self,cz,cV,dz] at bi;have:=fo hs ⟨x.1,x.2,C,hx,bo,bl⟩;omega
   .have b8:m.dom y.1:=by rcases cg with h|h;· exact h
                          .exact absurd h h2
    simp only[Mm.new,h2,false_and,cP] at bi;simp_all
theorem Kn(hs:cQ B H m w)(hB:B.n<=w.heap.size){id:Nat}{cells:List AV}(hin:(id,cells)∈H)(ed:cells=[gz []])(aq:¬m.dom id):cQ B H (m.new id cells.length (some (w.heap.size,0))) (w.alloc (.map #[] 0)):=by
 have hle:=Mm.uq (len:=cells.length) (bc:=some (w.heap.size,0)) aq
 have hL:∀b,b<w.heap.size->¬LB m H b->¬LB (m.new id cells.length (some (w.heap.size,0))) H b:=by
  intro b hb hn hl
  rcases te hs hin hl with h|⟨C,h⟩
  .exact hn h
  simp_all
 have ax:∀p v,bG B (LB m H) m w p v->bG B (LB (m.new id cells.length (some (w.heap.size,0))) H) (m.new id cells.length (some (w.heap.size,0))) (w.alloc (.map #[] 0)) p v:=
  λp v h=>h.mono hle hL (λb hb _=>jy w _ hb)
 refine⟨λi c bj hd=>?_,?_⟩
 .by_cases hi:i=id
  .subst hi;obtain rfl:=hs.key bj hin;refine⟨a8,.inr (.inr ⟨w.heap.size,#[],0,a8,by rw[ed];rfl,vk w _,hB,by rw[ed];exact Dx ⟨rfl,λj p e hp=>by simp at hp⟩⟩)⟩
  .have bn:m.dom i:=by
    rcases hd with hd|hd
    .exact hd
    trivial
   obtain⟨ht,dq⟩:=hs.entry i c bj bn;refine⟨by simp[Mm.new,hi,ht],?_⟩
   rcases dq with ⟨h1,h2⟩|⟨b,C,cs',e',h1,h2,h3,h4,h5,h6⟩|⟨b,es,clk,h1,h2,h3,h4,h5⟩
   .exact .inl ⟨by simp[Mm.new,hi,h1],h2⟩
   .have hb:b<w.heap.size:=fo hs ⟨i,c,C,bj,bn,h1⟩;exact .inr (.inl ⟨b,C,cs',e',by simp[Mm.new,hi,h1],(jy w _ hb).trans h2,h3,h4,h5,λj p v hp hv=>ax p v (h6 j p v hp hv)⟩)
   .have hb:b<w.heap.size:=fo hs ⟨i,c,0,bj,bn,h1⟩;exact .inr (.inr ⟨b,es,clk,by simp[Mm.new,hi,h1],h2,(jy w _ hb).trans h3,h4,h5⟩)
 .have jI:=hs.inj;refine sJ ?_ jI;intro x y hx hy ⟨b4,gh⟩;refine⟨b4,λb C C' dp cg bl bi=>?_⟩;by_cases h1:x.1=id
  .have h2:y.1≠id:=λe=>b4 (h1.trans e.symm)
   have b8:m.dom y.1:=by rcases cg with h|h;· exact h
                         trivial
   have eh:x.2=cells:=hs.key (id:=id) (by rw[<-h1];exact hx) hin;simp only[Mm.new,h1,eh,and_self,cz,cV,dz] at bl;simp only[Mm.new,h2,false_and,cP] at bi;have:=fo hs ⟨y.1,y.2,C',hy,b8,bi⟩;omega
  .have bo:m.dom x.1:=by rcases dp with h|h;· exact h
                         trivial
   simp only[Mm.new,h1,false_and,cP] at bl;by_cases h2:y.1=id
   .have ea:y.2=cells:=hs.key (id:=id) (by rw[<-h2];exact hy) hin;simp only[Mm.new,h2,ea,and_self,cz,cV,dz] at bi;have:=fo hs ⟨x.1,x.2,C,hx,bo,bl⟩;omega
   .have b8:m.dom y.1:=by rcases cg with h|h;· exact h
                          .exact absurd h h2
    simp only[Mm.new,h2,false_and,cP] at bi;simp_all
end
def QOk(P:Program)(B:Base)(H:bz)(m:Mm)(w:World)(n k:Nat)(r:Sem Next)(v:AV):Prop:=
 ∃v' w' m',r.run P w=.ok (.value v') w'/\m.le m'/\(∀i,m'.dom i↔m.dom i\/(n<=i/\i<n+k))/\Bel w.heap.size w w'/\cQ B H m' w' /\
  (∀b,LB m' H b->LB m H b\/w.heap.size<=b)/\bG B (LB m' H) m' w' v v'
section
variable{P:Program}{B:Base}{m:Mm}{w:World}{H h:bz}{n:Nat}{env:Env}{a:Act}{L:Nat->Prop}
theorem fO.q{r:Sem Next}{v:AV}(hs:cQ B H m w)(hv:fO P B H m w r v):QOk P B H m w n 0 r v:=by
 obtain⟨v',h1,h2⟩:=hv;exact⟨v',w,m,h1,Mm.le.refl m,λi=>⟨.inl,λh=>h.elim id λh=>ab⟩,Bel.refl _ _,hs,λb hb=>.inl hb,h2⟩
theorem xn{r:Sem Next}{v:AV}{cells:List AV}(hs:cQ B H m w)(hB:B.n<=w.heap.size)(hin:(n,cells)∈H)(aq:¬m.dom n)(cs:Array Value)(e:TypeId)(hlen:cells.length=cs.size)(hr:∀(j:Nat)(p:AV)(v:Value),cells[j]?=some p->cs[j]?=some v->bG B (LB m H) m w p v)(v':Value)(a4:r.run P w=.ok (.value v') (w.alloc (.cells cs e)))(hv:∀m':Mm,m'.dom n->m'.top n=cells.length->m'.addr n cells.length=some (w.heap.size,cs.size)->∀L w',bG B L m' w' v v'):QOk P B H m w n 1 r v:=by
 have bg:=DK hs hB hin aq cs e (Nat.le_of_eq hlen) hr;refine⟨v',_,_,a4,Mm.uq aq,λi=>?_,(Bel.refl _ _).alloc (bU _) _,bg,λb hb=>?_,hv _ (Or.inr rfl) a8 a8 _ _⟩
 .simp only[Mm.new]
  grind
 .rcases te hs hin hb with h|⟨C,h⟩
  .exact .inl h
  simp_all
def ma(B:Base)(L:Nat->Prop)(m:Mm)(w:World)(cs:List AV)(vs:Array Value):Prop:=
 cs.length=vs.size/\∀(j:Nat)(p:AV)(v:Value),cs[j]?=some p->vs[j]?=some v->bG B L m w p v
theorem vl(vs:Array Value):ma B L m w (vs.toList.map m8) vs:=by
 refine⟨ae,λj p v hp hv=>?_⟩;obtain⟨x,hx,rfl⟩:=gv hp;rw[jo] at hx
 obtain rfl:x=v:=by rw[hx] at hv;injection hv
 exact vc _
theorem pT{t:TypeId}{z:List AV}(hz:fu P t=some z):∃i v,P.info? t=some i/\i.zero=some v/\z=v.cells.toList.map m8:=by
 unfold fu at hz;split at hz
 .rename_i i hi
  cases hv:i.zero with
  |none=>rw[hv] at hz;cases hz
  |some v=>rw[hv] at hz;simp_all
 .cases hz
theorem ma.set{cs:List AV}{vs:Array Value}(h:ma B L m w cs vs)(i:Nat){p:AV}{v:Value}(hp:bG B L m w p v):ma B L m w (cs.set i p) (vs.setIfInBounds i v):=by
 refine⟨by simpa using h.1,λj q u hq hu=>?_⟩;rw[Jp] at hq;rw[iX] at hu;by_cases fb:i=j
 .simp_all
 .simp only[fb,cP] at hq hu;exact h.2 j q u hq hu
theorem DN:∀(ps:List AV)(us:List Value)(off:Nat)(cs:List AV)(vs:Array Value),ma B L m w cs vs->ps.length=us.length->(∀(j:Nat)(p:AV)(v:Value),ps[j]?=some p->us[j]?=some v->bG B L m w p v)->ma B L m w (setAt cs off ps) ((us.zipIdx off).foldl (λcs (c,j)=>cs.setIfInBounds j c) vs)
 |[],us,off,cs,vs,h,hl,_=>by
  cases us with
  |nil=>exact h
  |cons u us=>cases hl
 |p::ps,us,off,cs,vs,h,hl,hr=>by
  cases us with
  |nil=>cases hl
  |cons u us=>
   simp only[setAt,List.zipIdx_cons,CX];exact DN ps us (off+1) _ _ (h.set off (hr 0 p u rfl rfl)) ak (λj q v hq hv=>hr (j+1) q v ak ak)
theorem vm:∀(ps:List AV)(off:Nat)(cs:List AV),(setAt cs off ps).length=cs.length
 |[],_,_=>rfl
 |_::ps,off,cs=>by rw[setAt,vm ps];simp
theorem Ko(us:List Value)(off k:Nat)(vs:Array Value):((us.zipIdx k).foldl (λcs (c,j)=>cs.setIfInBounds (off+j) c) vs)=((us.zipIdx (off+k)).foldl (λcs (c,j)=>cs.setIfInBounds j c) vs):=by
 induction us generalizing k vs with
 |nil=>rfl
 |cons u us ih=>
  simp only[List.zipIdx_cons,CX];rw[ih (k+1)];rfl
theorem yU(place a6:Nat->Option (Nat×Nat))(de:∀i x,place i=some x->a6 i=some x):∀(parts:List (Nat×AV))(vparts:List (Nat×Value))(cs cs':List AV)(vs:Array Value),parts.length=vparts.length->(∀(j i:Nat)(p:AV)(x:Nat×Value),parts[j]?=some (i,p)->vparts[j]?=some x->x.1=i/\bG B L m w p x.2)->ma B L m w cs vs->o8 place cs parts=some cs'->∃aw,Instr.fill a6 vs vparts=some aw/\ma B L m w cs' aw
 |[],vparts,cs,cs',vs,hl,_,h,hf=>by
  cases vparts with
  |nil=>cases hf;exact⟨vs,rfl,h⟩
  |cons x xs=>cases hl
 |(i,p)::parts,vparts,cs,cs',vs,hl,hr,h,hf=>by
  cases vparts with
  |nil=>cases hl
  |cons x xs=>
   obtain⟨i',v⟩:=x;obtain⟨hi,hp⟩:=hr 0 i p (i',v) rfl rfl;simp only at hi hp;subst hi;simp only[o8] at hf;split at hf
   .cases hf
   .rename_i off size g4;split at hf
    .cases hf
    .rename_i db;simp only[not_or] at db;obtain⟨h1,h2,h3⟩:=db
     have bu:p.ok=true:=ak
     obtain⟨e1,e2⟩:=vd hp bu;have dm:=DN p.cells v.cells.toList off cs vs h ab (λj q u hq hu=>e2 j q u hq (by rw[<-jo];exact hu));obtain⟨aw,b7,b5⟩:=yU place a6 de parts xs _ cs' _ ak (λj i q x hq hx=>hr (j+1) i q x ak ak) dm hf;refine⟨aw,?_,b5⟩;simp only[Instr.fill,de _ _ g4]
     have ge:v.cells.size=size:=by rw[<-e1];omega
     have gf:¬(off+v.cells.size>vs.size):=by rw[<-e1,<-h.1];exact h3
     rw[bN al];rw[<-b7];congr 1;rw[<-Array.foldl_toList,Array.toList_zipIdx];exact Ko v.cells.toList off 0 vs
theorem DO(f:Field->Sem (Nat×Nat))(g:Field->Option (Nat×Nat))(ej:∀x y,g x=some y->(f x).run P w=.ok y w):∀(fs:List Field)(l:List (Nat×Nat)),fs.mapM g=some l->(fs.mapM f).run P w=.ok l w
 |[],l,h=>by simp_all
 |x::fs,l,h=>by
  simp only[sK] at h ⊢
  cases hx:g x with
  |none=>grind
  |some y=>
   simp only[hx,Option.bind_eq_bind,jk] at h
   cases hr:fs.mapM g with
   |none=>grind
   |some l'=>
    simp only[hr,jk] at h;cases h;simp[ej x y hx,DO f g ej fs l' hr]
theorem DQ(parts:Array (Nat×Operand))(hx:∀x∈parts.toList.map (·.2),bG B L m w (ev env x) (a.eval x)):∀(j i:Nat)(p:AV)(x:Nat×Value),(parts.toList.map λ(i,x)=>(i,ev env x))[j]?=some (i,p)->(parts.toList.map λ(i,x)=>(i,a.eval x))[j]?=some x->x.1=i/\bG B L m w p x.2:=by
 grind
theorem Ks(t:TypeId)(parts:Array (Nat×Operand))(o:Oper)(ho:o.op=.build t parts){c:Prop}{v:AV}{E:List (List AV)}(h0:aOp P h n (ev env) (.build t parts)=some (c,v,E))(hx:∀x∈parts.toList.map (·.2),bG B (LB m H) m w (ev env x) (a.eval x)):E=[]/\fO P B H m w (execOp a.eval o) v:=by
 simp only[aOp] at h0;split at h0
 .rename_i z hz;obtain⟨iz,vz,hi,hzero,rfl⟩:=pT hz;split at h0
  .rename_i l hl;split at h0
   .rename_i cs d7;cases h0;refine⟨rfl,?_⟩
    have key:∀a6:Nat->Option (Nat×Nat),(∀i x,l[i]?=some x->a6 i=some x)->∃aw,Instr.fill a6 vz.cells (parts.map λ(i,x)=>(i,a.eval x)).toList=some aw/\ma B (LB m H) m w cs aw:=by
     intro a6 de;rw[Jq];exact yU (l[·]?) a6 de _ _ _ cs vz.cells ae (DQ parts hx) (vl vz.cells) d7
    unfold pls at hl;split at hl
    .rename_i fs hu
     have hm:=DO (P:=P) (w:=w) (λf=>Functor.map (Prod.mk f.offset) (sizeOf f.type)) _ (λf y hy=>by
      cases hq:P.info? f.type with
      |none=>grind
      |some i=>simp only[hq,dZ,cV] at hy;subst hy;simp[sizeOf,typeInfo,hq]) fs.toList l hl
     obtain⟨aw,b7,b5⟩:=key (l.toArray[·]?) (λi x hx=>ak);refine⟨.agg aw,?_,.agg b5.1 b5.2⟩
     have g1:(fs.mapM λf=>(Functor.map (Prod.mk f.offset) (sizeOf f.type):Sem (Nat×Nat))).run P w=.ok l.toArray w:=by
      rw[sL,Sem.run_map,hm];rfl
     simp only[Jq,xW] at b7;simp[execOp,ho,Instr.build,zeroValue,typeInfo,hi,hzero,run_underlying hu,g1,b7]
    .rename_i k e hu
     cases ag:P.info? e with
     |none=>simp_all
     |some ie=>
      simp only[ag,dZ,cV] at hl
      obtain⟨aw,b7,b5⟩:=key (λi=>some (i*ie.size,ie.size)) (λi x hx=>by
       rw[<-hl] at hx
       grind)
      refine⟨.agg aw,?_,.agg b5.1 b5.2⟩;simp only[Jq] at b7;simp[execOp,ho,Instr.build,zeroValue,typeInfo,hi,hzero,run_underlying hu,sizeOf,ag,b7]
    .cases hl
   .cases h0
  .cases h0
 .cases h0
theorem Kt(t:TypeId)(o:Oper)(ho:o.op=.alloc t){c:Prop}{v:AV}{E:List (List AV)}(h0:aOp P h n (ev env) (.alloc t)=some (c,v,E))(hs:cQ B H m w)(hB:B.n<=w.heap.size)(hE:∀k cs,E[k]?=some cs->(n+k,cs)∈H)(aq:∀k,k<E.length->¬m.dom (n+k)):QOk P B H m w n E.length (execOp a.eval o) v:=by
 simp only[aOp] at h0;split at h0
 .rename_i z hz;obtain⟨iz,vz,hi,hzero,rfl⟩:=pT hz;cases h0;have hz:=vl (B:=B) (L:=LB m H) (m:=m) (w:=w) vz.cells;exact xn hs hB (hE 0 _ rfl) (aq 0 ae) vz.cells t hz.1 hz.2 (.pointer (some ⟨w.heap.size,0,none⟩)) (by simp[execOp,ho,Instr.alloc,zeroValue,typeInfo,hi,hzero,newVar,newRow])
   (λm' h1 h2 h3 L w'=>.ptr h1 (by rw[h2];simp) h3 (by rw[jq,CR];simp))
 .cases h0
theorem Ku(t:TypeId)(x:Operand)(o:Oper)(ho:o.op=.box t x){c:Prop}{v:AV}{E:List (List AV)}(h0:aOp P h n (ev env) (.box t x)=some (c,v,E))(hc:c)(hs:cQ B H m w)(hB:B.n<=w.heap.size)(hE:∀k cs,E[k]?=some cs->(n+k,cs)∈H)(aq:∀k,k<E.length->¬m.dom (n+k))(hx:bG B (LB m H) m w (ev env x) (a.eval x)):QOk P B H m w n E.length (execOp a.eval o) v:=by
 simp only[aOp,cV,dz] at h0;obtain⟨rfl,rfl,rfl⟩:=h0;obtain⟨h1,h2⟩:=vd hx hc;exact xn hs hB (hE 0 _ rfl) (aq 0 ae) (a.eval x).cells t h1 h2 (.pointer (some ⟨w.heap.size,0,none⟩)) (by simp[execOp,ho,Instr.box,newVar,newRow])
  (λm' f4 h2 h3 L w'=>.ptr f4 (by rw[h2];simp) h3 (by rw[h1];simp))
end
section
variable{P:Program}{B:Base}{m:Mm}{w:World}{H h:bz}{n:Nat}{env:Env}{a:Act}{L:Nat->Prop}
theorem DR(z:List AV)(hz:0<z.length):∀(k j:Nat),j<k*z.length->(iN k z)[j]?=z[j%z.length]?
 |0,j,h=>by simp at h
 |k+1,j,h=>by
  have e:iN (k+1) z=z++iN k z:=by rfl
  rw[e];by_cases hj:j<z.length
  .rw[sN hj,Nat.mod_eq_of_lt hj]
  .have hj:z.length<=j:=ab
   have h':j-z.length<k*z.length:=by rw[eU] at h;omega
   rw[sP hj,DR z hz k _ h',Nat.mod_eq_sub_mod hj]
theorem vn(z:List AV)(k:Nat):(iN k z).length=k*z.length:=by
 simp[iN,List.length_flatten,List.map_replicate]
theorem DS{z:List AV}{zero:Array Value}(hz:0<z.length)(hr:ma B L m w z zero)(k:Nat):ma B L m w (iN k z) ((Array.range (k*z.length)).map λi=>zero[i%zero.size]!):=by
 refine⟨by simp[vn],λj p v hp hv=>?_⟩
 have hj:j<k*z.length:=by have:=(fg.1 hp).1;rwa [vn] at this
 rw[DR z hz k j hj] at hp;refine hr.2 (j%z.length) p v hp ?_;have hm:j%zero.size<zero.size:=xU _ (by rw[<-hr.1];exact hz)
 have:v=zero[j%zero.size]!:=by
  simp_all
 rw[this,hr.1];simp[hm]
theorem r0:Array.range 0=#[]:=rfl
theorem Kw(t:TypeId)(len:Nat)(parts:Array (Nat×Operand))(o:Oper)(ho:o.op=.buildSlice t len parts){c:Prop}{v:AV}{E:List (List AV)}(h0:aOp P h n (ev env) (.buildSlice t len parts)=some (c,v,E))(hc:c)(hs:cQ B H m w)(hB:B.n<=w.heap.size)(hE:∀k cs,E[k]?=some cs->(n+k,cs)∈H)(aq:∀k,k<E.length->¬m.dom (n+k))(hx:∀x∈parts.toList.map (·.2),bG B (LB m H) m w (ev env x) (a.eval x)):QOk P B H m w n E.length (execOp a.eval o) v:=by
 simp only[aOp] at h0;split at h0
 .rename_i e sz bg;obtain⟨hu,ie,ag,dg⟩:=jT bg;split at h0
  .rename_i z hz;obtain⟨iz,vz,hi,hzero,rfl⟩:=pT hz;rw[ag] at hi;cases hi;split at h0
   .rename_i cs d7;cases h0;obtain⟨c1,c2,c3⟩:=hc;have hz:=vl (B:=B) (L:=LB m H) (m:=m) (w:=w) vz.cells;have b6:=DS ab hz len;rw[c1] at b6;obtain⟨aw,b7,b5⟩:=yU (λi=>some (i*sz,sz)) (λi=>some (i*sz,sz)) (λ_ _ h=>h) _ (parts.toList.map λ(i,x)=>(i,a.eval x)) _ cs _ ae (DQ parts hx) b6 d7
    have a4:(execOp a.eval o).run P w=.ok (.value (.slice (some ⟨w.heap.size,0,none⟩) len len)) (w.alloc (.cells aw e)):=by
     by_cases h0:len*sz=0
     .have fz:len=0:=by rcases Nat.mul_eq_zero.1 h0 with h|h;· exact h
                        .omega
      subst fz;simp only[pO] at b7
      have e0:Instr.fill (λi=>some (i*ie.size,ie.size)) #[] (List.map (λx=>(x.fst,a.eval x.snd)) parts.toList)=some aw:=by
       rw[dg];grind
      simp[execOp,ho,Instr.buildSlice,run_underlying hu,sizeOf,typeInfo,ag,r0,e0,newRow]
     .have e0:Instr.fill (λi=>some (i*sz,sz)) (Array.map (λx=>vz.cells[x%vz.cells.size]!) (Array.range (len*sz))) (List.map (λx=>(x.fst,a.eval x.snd)) parts.toList)=some aw:=b7
      have dv:¬(16777216<len*sz):=ab
      simp[execOp,ho,Instr.buildSlice,run_underlying hu,sizeOf,typeInfo,zeroValue,ag,dg,hzero,dv,e0,newRow];omega
    exact xn hs hB (hE 0 _ rfl) (aq 0 ae) aw e b5.1 b5.2 _ a4 (λm' h1 h2 h3 L w'=>by
     have hlen:cs.length=len*sz:=by
      have:∀(place:Nat->Option (Nat×Nat))(parts:List (Nat×AV))(cs cs':List AV),o8 place cs parts=some cs'->cs'.length=cs.length:=by
       intro place parts
       induction parts with
       |nil=>intro cs cs' h;injection h with h;rw[h]
       |cons x xs ih=>
        obtain⟨i,x⟩:=x;intro cs cs' h;simp only[o8] at h;split at h
        .cases h
        .split at h
         .cases h
         .rw[ih _ _ h,vm]
      rw[this _ _ _ _ d7,vn,c1]
     refine .msl h1 (by rw[h2];simp) (bU _) (λe=>?_) (λb C e=>?_)
     .rw[h3] at e;cases e
     .rw[h3] at e;injection e with e;injection e with e1 e2;subst e1;subst e2
      have:=b5.1
      simp_all)
   .cases h0
  .cases h0
 .cases h0
theorem Kx(t:TypeId)(l k:Operand)(o:Oper)(ho:o.op=.makeSlice t l k){c:Prop}{v:AV}{E:List (List AV)}(h0:aOp P h n (ev env) (.makeSlice t l k)=some (c,v,E))(hc:c)(hs:cQ B H m w)(hB:B.n<=w.heap.size)(hE:∀k cs,E[k]?=some cs->(n+k,cs)∈H)(aq:∀k,k<E.length->¬m.dom (n+k))(hl:bG B (LB m H) m w (ev env l) (a.eval l))(hk:bG B (LB m H) m w (ev env k) (a.eval k)):QOk P B H m w n E.length (execOp a.eval o) v:=by
 simp only[aOp] at h0;split at h0
 .rename_i e sz _ _ k1 q _ _ k2 q' bg el ek;rw[el] at hl;rw[ek] at hk;obtain⟨hu,ie,ag,dg⟩:=jT bg;split at h0
  .rename_i z by_ hz f9;obtain⟨iz,vz,hi,hzero,rfl⟩:=pT hz;rw[ag] at hi;cases hi;cases h0;obtain⟨rfl,c2,c3,c4,c5,c6⟩:=hc
   have c8:ie.bytes=by_:=by simpa[byE,ag] using f9
   have hz:=vl (B:=B) (L:=LB m H) (m:=m) (w:=w) vz.cells;have b6:=DS ab hz q.toNat;rw[c4] at b6;have hw:IntKind.i64.wrap q=q:=mT (by simp[inI,IntKind.min,IntKind.max,IntKind.signed,IntKind.bits];omega)
   have f7:¬((by_:Int)*q>281474976710656):=by
    have:(by_:Int)*q<=100000*1000000000:=Jr ab c3 c2 ab;omega
   have a4:(execOp a.eval o).run P w=.ok (.value (.slice (some ⟨w.heap.size,0,none⟩) q.toNat q.toNat)) (w.alloc (.cells ((Array.range (q.toNat*sz)).map (vz.cells[· % vz.cells.size]!)) e)):=by
    have ep:¬q<0:=ab
    have bk:¬(281474976710656<(by_:Int)*q):=ab
    by_cases gb:q.toNat=0
    .simp[execOp,ho,hl.iw,hk.iw,Instr.makeSlice,run_underlying hu,asInt,asIntOf,typeInfo,ag,c8,hw,ep,bk,sizeOf,gb,r0,newRow]
    .simp[execOp,ho,hl.iw,hk.iw,Instr.makeSlice,run_underlying hu,asInt,asIntOf,typeInfo,ag,c8,hw,ep,bk,sizeOf,dg,zeroValue,hzero,newRow]
     grind
   exact xn hs hB (hE 0 _ rfl) (aq 0 ae) _ e b6.1 b6.2 _ a4 (λm' h1 h2 h3 L w'=>by
    have hlen:=vn (vz.cells.toList.map m8) q.toNat;rw[c4] at hlen;refine .msl h1 (by rw[h2];exact bU _) (bU _) (λe=>?_) (λb C e=>?_)
    .rw[h3] at e;cases e
    simp_all)
  .cases h0
 .cases h0
end
end Go.Fi
namespace Go.Fi
open Go Go.RowKit
variable[bE]
omit [bE] in
theorem yV{d:TypeDesc}{p:PV}(h:okK d p=true):MapKept.IsKey d (dL p):=by
 cases d<;>cases p<;>simp_all[okK,dL,MapKept.IsKey]
omit [bE] in
theorem Ky{d:TypeDesc}{k p:PV}(hk:okK d k=true)(hp:okK d p=true):Instr.sameNow d (dL k) (dL p)=some (eqK k p):=by
 cases d<;>cases k<;>simp[okK] at hk<;>cases p<;>simp[okK] at hp
 .subst hk;subst hp;simp[Instr.sameNow,dL,eqK];rfl
 .rename_i a b;simp only[Instr.sameNow,dL,eqK];congr 1;by_cases h:a=b
  .subst h;rw[decide_eq_true rfl];exact (MapKept.bytes_beq a a).2 rfl
  .rw[decide_eq_false h]
   cases hb:(a==b) with
   |false=>rfl
   |true=>exact absurd ((MapKept.bytes_beq a b).1 hb) h
def gp:List (PV×PV)->PV->Nat->Option (Nat×PV)
 |[],_,_=>none
 |p::r,k,i=>if eqK k p.1=true then some (i,p.2) else gp r k (i+1)
omit [bE] in
theorem DT:∀(l:List (PV×PV))(k:PV)(i:Nat),(gp l k i).map (·.2)=ll l k
 |[],_,_=>rfl
 |p::r,k,i=>by
  unfold gp ll;split
  .rfl
  .exact DT r k (i+1)
omit [bE] in
theorem yW{d:TypeDesc}{k:PV}(hk:okK d k=true):∀(l:List (PV×PV))(es:List MapEntry)(i:Nat),l.length=es.length->(∀(j:Nat)(p:PV×PV)(e:MapEntry),l[j]?=some p->es[j]?=some e->e.key=dL p.1/\e.val=dL p.2)->(∀p∈l,okK d p.1=true)->Instr.findNow d (dL k) es i=some ((gp l k i).map λx=>(x.1,dL x.2))
 |[],es,i,hl,_,_=>by
  have:es=[]:=iJ al;subst this;rfl
 |p::r,[],i,hl,_,_=>by simp at hl
 |p::r,e::es,i,hl,he,bu=>by
  obtain⟨h1,h2⟩:=he 0 p e rfl rfl;have hs:=Ky hk (bu p ae);unfold Instr.findNow gp;rw[h1,hs]
  cases hq:eqK k p.1 with
  |true=>simp[h2]
  |false=>
   simp only[dB,cP];exact yW hk r es (i+1) ak (λj p' e' gk gg=>he (j+1) p' e' aE aE) (λq dx=>bu q (eY _ dx))
section
variable{P:Program}{B:Base}{m:Mm}{w:World}{H h:bz}{n:Nat}{env:Env}{a:Act}{L:Nat->Prop}
section
omit [bE]
theorem cQ.HY(hs:cQ B H m w){id:Nat}{cells:List AV}(hin:(id,cells)∈H){v:Value}(hv:bG B L m w (.mp id) v){l:List (PV×PV)}(hm:fI cells=some l):∃b es clk,v=.map (some b)/\m.dom id/\jG cells=true/\m.addr id cells.length=some (b,0)/\w.heap[b]?=some (.map es clk)/\B.n<=b/\nT es l:=by
 cases hv with
 |@mp _ b hd ht ha=>
  have hlen:cells.length=1:=by
   unfold fI at hm;split at hm
   .rfl
   .cases hm
  rcases (hs.entry id cells hin hd).2 with ⟨h0,_⟩|⟨b',C,cs,e,h1,h2,h3,h4,h5,h6⟩|⟨b',es,clk,h1,h2,h3,h4,h5⟩
  .rw[hlen,ha] at h0;cases h0
  .rw[hlen,ha] at h1;injection h1 with h1;injection h1 with h1 h7;omega
  simp_all
theorem yX{G:Nat->Prop}{p:PV}(h:isLit p=true):Rep G w p (dL p):=by
 cases p<;>simp[isLit] at h
 .exact .bool _
 .exact .int _ _
 .exact .str _
theorem yY{p:PV}{v:Value}{G:Nat->Prop}(h:isLit p=true)(hr:Rep G w p v):v=dL p:=by
 cases p<;>simp[isLit] at h<;>cases hr<;>rfl
theorem DU{d:TypeDesc}{p:PV}(h:okK d p=true):isLit p=true:=by
 cases d<;>cases p<;>simp_all[okK,isLit]
theorem Kz{e:TypeId}{z:PV}(h:xl P e=some z):(zeroValue e).run P w=.ok (dL z) w/\isLit z=true:=by
 unfold xl at h
 cases hi:P.info? e with
 |none=>rw[hi] at h;cases h
 |some i=>
  rw[hi] at h;simp only[jk] at h
  have hz:∀v,i.zero=some v->(zeroValue e).run P w=.ok v w:=λv hv=>by
   simp[zeroValue,typeInfo,hi,hv]
  split at h<;>first|(cases h;exact⟨hz _ ‹_›,rfl⟩)|cases h
theorem DV{t:TypeId}{d:TypeDesc}{z:PV}(h:lq P t=some (d,z)):∃k e,P.underlying t=some (.map k e)/\P.underlying k=some d/\xl P e=some z:=by
 unfold lq at h
 grind
theorem DW:∀(l:List (PV×PV))(k q:PV),(∀p∈l,isLit p.2=true)->ll l k=some q->isLit q=true
 |[],k,q,_,h=>by cases h
 |p::r,k,q,hl,h=>by
  unfold ll at h;split at h
  .simp_all
  .exact DW r k q (λy hy=>hl y (eY _ hy)) h
theorem KA(t:TypeId)(x k:Operand)(c0:Bool)(o:Oper)(ho:o.op=.lookup t x k c0){c:Prop}{v:AV}{E:List (List AV)}(h0:aOp P h n (ev env) (.lookup t x k c0)=some (c,v,E))(hc:c)(hs:cQ B H m w)(bh:∀id cs,bY h id=some cs->(id,cs)∈H)(hx:bG B (LB m H) m w (ev env x) (a.eval x))(hk:bG B (LB m H) m w (ev env k) (a.eval k)):E=[]/\fO P B H m w (execOp a.eval o) v:=by
 simp only[aOp] at h0;unfold lkV at h0;split at h0
 .rename_i l ow fl kp d z hl fq g2
  injection h0 with h0;injection h0 with h1 h2;injection h2 with h2 h3
  subst h1;subst h2;subst h3;refine⟨rfl,?_⟩
  obtain⟨id,cq,cells,hg,hd⟩:∃id,ev env x=.mp id/\∃cells,bY h id=some cells/\fI cells=some l:=by
   cases hex:ev env x with
   |mp id=>
    rw[hex] at hl;simp only[mpC] at hl
    cases hg:bY h id with
    |none=>rw[hg] at hl;cases hl
    |some cells=>rw[hg] at hl;simp_all
   |_=>rw[hex] at hl;simp[mpC] at hl
  rw[cq] at hx;obtain⟨b,es,clk,hv,_,_,_,hb,_,eg⟩:=hs.HY (bh id cells hg) hx hd;unfold okM at hc;rw[fe,gm] at hc;obtain⟨dl,ec⟩:=hc;rw[fq] at hk
  have fv:a.eval k=dL kp:=by cases hk with|w hr _=>exact yY (DU dl) hr
  obtain⟨kt,et,hu,ef,hz⟩:=DV g2;obtain⟨gn,ez⟩:=Kz (w:=w) hz
  have hf:=yW dl l es.toList 0 (by rw[CR];exact eg.1) (λj p e hp he=>eg.2 j p e hp (by rw[<-jo];exact he)) (λp hp=>by
   have:=ec p hp;rw[fe] at this;exact this.1)
  have d9:=DT l kp 0
  have a4:(Instr.lookup t (.map (some b)) (dL kp) c0).run P w=.ok (match gp l kp 0 with
   |some x=>if c0=true then .tuple #[dL x.2,.bool true] else dL x.2
   |none=>if c0=true then .tuple #[dL z,.bool false] else dL z) w:=by
   unfold Instr.lookup;simp only[Sem.run_bind,run_underlying hu,Result.andThen_ok,MapKept.run_getObj_map hb,Sem.run_pure];rw[show (10000:Nat)=9999+1 from rfl,MapKept.run_checkKey ef (yV dl)];simp only[Result.andThen_ok];rw[MapKept.run_findKey ef hf];simp only[Result.andThen_ok]
   cases gp l kp 0 with
   |none=>simp_all
   |some x=>rfl
  have cv:∀q,ll l kp=some q->isLit q=true:=λq hq=>DW l kp q (λp hp=>by have:=ec p hp;rw[fe] at this;exact this.2) hq
  refine⟨_,by simp only[execOp,ho,hv,fv,Sem.run_bind,a4,Result.andThen_ok];rfl,?_⟩
  have pair:∀(q:PV)(bb:Bool),isLit q=true->bG B (LB m H) m w (.w false false (.tup [q,.bool bb])) (.tuple #[dL q,.bool bb]):=λq bb hq=>by
   refine .w (.tup rfl (λj p u hp hu=>?_)) nofun
   match j,hp,hu with
   |0,hp,hu=>simp at hp hu;subst hp;subst hu;exact yX hq
   |1,hp,hu=>simp at hp hu;subst hp;subst hu;exact .bool _
  cases hq:gp l kp 0 with
  |none=>
   rw[hq] at d9;have:ll l kp=none:=d9.symm;rw[this]
   cases c0 with
   |true=>exact pair z false ez
   |false=>exact .w (yX ez) nofun
  |some y=>
   rw[hq] at d9;have:ll l kp=some y.2:=d9.symm;rw[this]
   cases c0 with
   |true=>exact pair y.2 true (cv _ this)
   |false=>exact .w (yX (cv _ this)) nofun
 .cases h0
end
end
end Go.Fi
