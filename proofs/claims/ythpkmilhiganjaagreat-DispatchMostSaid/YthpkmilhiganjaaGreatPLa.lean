/- Lemmas. -/
import Derived.Test.YthpkmilhiganjaaGreatPAa
import Derived.Below
import Derived.Orders
import Derived.OrdersIn
import Derived.Tactics
import Derived.TacticsIn
import Derived.RangeFuncRecord
import Derived.RangeFuncCalls
import Derived.Deep.LoopGhost
import Derived.Conc.Own4
import Derived.Conc.Own5
import Derived.RangeFuncIn
import Derived.Laws.IdiomCopy
import Derived.Laws.Entries
import Derived.Laws.StructEq
import Derived.ChangeKeysEq
import Derived.Laws.NewFold
import Derived.MapKept
set_option linter.all false
set_option maxHeartbeats 32000000
set_option maxRecDepth 100000
namespace Go.Fi
open Go Go.RowKit
open Go.Conc (G)
structure Bel(B:Nat)(w w':World):Prop where
 os:w'.os=w.os
 output:w'.output=w.output
 size:w.heap.size<=w'.heap.size
 block:∀k,k<B->w'.heap[k]?=w.heap[k]?
theorem Bel.refl(B:Nat)(w:World):Bel B w w:=⟨rfl,rfl,bS _,λ_ _=>rfl⟩
theorem Bel.trans{B:Nat}{a b c:World}(h:Bel B a b)(k:Bel B b c):Bel B a c:=
 ⟨k.os.trans h.os,k.output.trans h.output,dJ h.size k.size,λi hi=>(k.block i hi).trans (h.block i hi)⟩
theorem Bel.mono{B B':Nat}{w w':World}(h:Bel B w w')(hB:B'<=B):Bel B' w w':=⟨h.os,h.output,h.size,λk hk=>h.block k (lY hk hB)⟩
theorem Bel.of{B:Nat}{w w':World}(h:Below B w w'):Bel B w w':=⟨h.os,h.output,h.size,h.block⟩
theorem _root_.Go.RowKit.Below.bel{B:Nat}{w w':World}(h:Below B w w'):Bel B w w':=.of h
theorem Bel.drew{B:Nat}{a w:World}(h:Bel B a w):Bel B a w.drew:=⟨h.os,h.output,h.size,h.block⟩
theorem Bel.alloc{B:Nat}{a w:World}(h:Bel B a w)(hB:B<=w.heap.size)(o:Obj):Bel B a (w.alloc o):=
 h.trans (.of ((Below.refl _ _).alloc hB o))
theorem Bel.setCell{B:Nat}{a w:World}(h:Bel B a w){p:Addr}(hp:B<=p.block)(u:Value):Bel B a (w.setCell p u):=
 h.trans (.of ((Below.refl _ _).setCell hp u))
theorem Bel.grown{B:Nat}{a w w':World}{row:Option Nat}(h:Bel B a w)(hg:w.grownBy w' row)(hB:B<=w.heap.size)(hr:∀k,row=some k->B<=k):Bel B a w':=
 h.trans (.of ((Below.refl _ _).grown hg hB hr))
theorem Bel.cell{B:Nat}{w w':World}(h:Bel B w w'){p:Addr}(hp:p.block<B):w'.cell? p=w.cell? p:=World.cell?_of_block (w:=w) (h.block p.block hp)
theorem Bel.frozen{B:Nat}{w w':World}(h:Bel B w w'){p:Addr}(hp:p.block<B):w'.frozen? p=w.frozen? p:=World.frozen?_of_block (w:=w) (h.block p.block hp)
theorem Bel.frame{W w':World}(h:Bel W.heap.size W w')(may:MemPlace->Prop):W.keptBut w' may:=by
 refine⟨h.os,h.output,λi hi=>?_⟩;rw[h.block i hi]
 split<;>simp_all
theorem Bel.same{W w':World}(h:Bel W.heap.size W w'){p:MemPlace}(hp:p.block<W.heap.size):W.sameAt w' p:=by
 cases p with
 |cell b o=>exact World.cell?_of_block (w:=W) (h.block b hp)
 |map b=>exact h.block b hp
class EnvD where
 E:World->World->Prop
 ext:∀{w w':World},E w w'->Bel w.heap.size w w'
 xt:FuncId->Array Value->World->(Value->World->Prop)->Prop
 D:World->Array Event->Prop
 nil:∀w,D w #[]
class bI extends EnvD where
 ok:World->Prop
 keep:∀{w w':World},ok w->Bel w.heap.size w w'->ok w'
 mB:∀w es,D w es
def fY(fr:Frame):Prop:=∀ch,fr.mode≠.panicking ch
section
variable[EnvD]
inductive T(P:Program)(n:Nat)(Φ:Frame->List Frame->World->Prop):Frame->List Frame->World->Prop
 |now {fr:Frame} {cs:List Frame} {w:World}:Φ fr cs w->T P n Φ fr cs w
 |quiet {fr:Frame} {cs:List Frame} {w:World} (fr':Frame) (cs':List Frame):(∀w1,stepG P true (G fr cs) w1=.go (G fr' cs') w1 #[])->fY fr'->T P n Φ fr' cs' w->(hn:n<=cs.length:=by simp)->T P n Φ fr cs w
 |step {fr:Frame} {cs:List Frame} {w:World}:(∀w1,EnvD.E w w1->∃fr' cs' w' es,stepG P true (G fr cs) w1=.go (G fr' cs') w' es/\fY fr'/\EnvD.D w1 es) ->
   (∀w1 fr' cs' w' es,EnvD.E w w1->stepG P true (G fr cs) w1=.go (G fr' cs') w' es->T P n Φ fr' cs' w')->(hn:n<=cs.length:=by simp)->T P n Φ fr cs w
 |ext {f:FuncId} {args:Array Value} {c:Frame} {cs:List Frame} {w:World} (R:World->Value->World->Prop):(∀w1,EnvD.E w w1->EnvD.xt f args w1 (R w1)) ->
   (∀w1 v w',EnvD.E w w1->R w1 v w'->T P n Φ (c.finish v) cs w')->(hn:n<=cs.length+1:=by simp)->T P n Φ (Frame.enter P f args .normal) (c::cs) w
variable{P:Program}{n:Nat}{Φ Ψ:Frame->List Frame->World->Prop}{fr:Frame}{cs:List Frame}{w:World}
theorem T.low{n':Nat}(h:T P n Φ fr cs w)(hn:n'<=n:=by simp):T P n' Φ fr cs w:=by
 induction h with
 |now h=>exact .now h
 |quiet fr' cs' h1 h2 _ h3 ih=>exact .quiet fr' cs' h1 h2 ih (dJ hn h3)
 |step h1 _ h3 ih=>exact .step h1 ih (dJ hn h3)
 |ext R h1 _ h3 ih=>exact .ext R h1 ih (dJ hn h3)
theorem T.bind(h:T P n Φ fr cs w)(hk:∀fr cs w,Φ fr cs w->T P n Ψ fr cs w):T P n Ψ fr cs w:=by
 induction h with
 |now h=>simp_all
 |quiet fr' cs' h1 h2 _ h3 ih=>exact .quiet fr' cs' h1 h2 ih h3
 |step h1 _ h3 ih=>exact .step h1 ih h3
 |ext R h1 _ h3 ih=>exact .ext R h1 ih h3
theorem T.mono(h:T P n Φ fr cs w)(hk:∀fr cs w,Φ fr cs w->Ψ fr cs w):T P n Ψ fr cs w:=h.bind λ_ _ _ h=>.now (hk _ _ _ h)
theorem T.eo(h:∀w1,EnvD.E w w1->∃fr' cs' w' es,stepG P true (G fr cs) w1=.go (G fr' cs') w' es/\fY fr'/\EnvD.D w1 es/\T P n Φ fr' cs' w')(hn:n<=cs.length:=by simp):T P n Φ fr cs w:=by
 refine .step (λw1 e=>let ⟨a,b,c,d,h1,h2,h3,_⟩:=h w1 e;⟨a,b,c,d,h1,h2,h3⟩) (λw1 fr' cs' w' es e hs=>?_) hn;obtain⟨a,b,c,d,h1,_,_,h3⟩:=h w1 e;rw[h1] at hs
 injection hs with h1 h2 _
 injection h1 with h4 h5
 simp_all
end
section moves
variable{P:Program}{b:Frame}{a:Act}{k:List Item}{cs:List Frame}{w:World}
theorem dA:fY (b.atR a k):=λch=>by simp[Frame.atR]
theorem zk:stepG P true (G (b.atR a (.code .skip::k)) cs) w=.go (G (b.atR a k) cs) w #[]:=by rfl
theorem Lx{l:Nat}:stepG P true (G (b.atR a (.code (.label l)::k)) cs) w=.go (G (b.atR a k) cs) w #[]:=by rfl
theorem zl{id:Nat}:stepG P true (G (b.atR a (.inBlock id::k)) cs) w=.go (G (b.atR a k) cs) w #[]:=by rfl
theorem zm{x y:Code}:stepG P true (G (b.atR a (.code (.seq x y)::k)) cs) w=.go (G (b.atR a (.code x::.code y::k)) cs) w #[]:=by rfl
theorem zn{c:Operand}{x y:Code}{t:Bool}(h:a.eval c=.bool t):stepG P true (G (b.atR a (.code (.cond c x y)::k)) cs) w=.go (G (b.atR a (.code (if t then x else y)::k)) cs) w #[]:=by
 have:=congrFun (Frame.eval_atR b a (.code (.cond c x y)::k)) c;simp only[Frame.atR] at this;simp[G,stepG,stepG.exec,Frame.atR,this,h]
theorem zo{id:Nat}{c:Code}:stepG P true (G (b.atR a (.code (.block id c)::k)) cs) w=.go (G (b.atR a (.code c::.inBlock id::k)) cs) w #[]:=by rfl
theorem zp{c:Code}:stepG P true (G (b.atR a (.code (.loop c)::k)) cs) w=.go (G (b.atR a (.code c::.inLoop c::k)) cs) w #[]:=by rfl
theorem zq{c:Code}:stepG P true (G (b.atR a (.inLoop c::k)) cs) w=.go (G (b.atR a (.code c::.inLoop c::k)) cs) w #[]:=by rfl
theorem zt{id:Nat}{k':List Item}(h:exitTo id k=some k'):stepG P true (G (b.atR a (.code (.exit id)::k)) cs) w=.go (G (b.atR a k') cs) w #[]:=by simp[G,stepG,stepG.exec,Frame.atR,h]
theorem zu(hb:b.roundOf=none):stepG P true (G (b.atR a (.code .ret::k)) cs) w=.go (G { b.atR a (.code .ret::k) with mode:=.returning } cs) w #[]:=by simp[G,stepG,stepG.exec,Frame.atR,hb]
theorem zv(hb:b.roundOf=none):stepG P true (G (b.atR a []) cs) w=.go (G { b.atR a [] with mode:=.returning } cs) w #[]:=by simp[G,stepG,stepG.exec,Frame.atR,hb]
variable{ops:Array Oper}
theorem zw{id:Nat}:stepG P true (G (b.atR a (.code (.region id ops false)::k)) cs) w=.go (G (b.atR a (.inRegion ops (List.range ops.size)::k)) cs) w #[]:=by rfl
theorem ER{id:Nat}:stepG P true (G (b.atR a (.code (.region id ops true)::k)) cs) w=.go (G (b.atR a (.inRegion ops (Region.schedule (P.follows .mixedOrders) ops (w.tape w.drawn (.order b.fn id)))::k)) cs) { w with drawn:=w.drawn+1 } #[]:=by
 rfl
theorem vO:stepG P true (G (b.atR a (.inRegion ops []::k)) cs) w=.go (G (b.atR a k) cs) w #[]:=by rfl
theorem zy{i:Nat}{rest:List Nat}(h:((ops[i]?).map (Region.wanted · (yielded ops a.tmps))).getD false=false):stepG P true (G (b.atR a (.inRegion ops (i::rest)::k)) cs) w=.go (G (b.atR (a.put ((ops[i]?).bind (·.dst)) undef) (.inRegion ops rest::k)) cs) w #[]:=by
 rw[<-Frame.finish_atR];have h':=h;simp only[Frame.atR] at *;simp[G,stepG,stepG.exec,h']
theorem vP{i:Nat}{rest:List Nat}{o:Oper}(ho:ops[i]?=some o)(hw:Region.wanted o (yielded ops a.tmps)=true)(hd:∀c,o.op≠.defer c):stepG P true (G (b.atR a (.inRegion ops (i::rest)::k)) cs) w=stepG.apply P true (b.atR a (.inRegion ops (i::rest)::k)) cs none (execOp a.eval o) w:=by
 have:=stepGR_op (P:=P) (b:=b) (k:=k) (cs:=cs) (w:=w) (rest:=rest) ho hw;rw[Oper.semAt_eq _ _ _ hd] at this;exact this
end moves
section
variable[EnvD]
def Arr(b:Frame)(k:List Item)(cs:List Frame)(Q:Exit->Act->World->Prop)(fr:Frame)(cs':List Frame)(w:World):Prop:=
 cs'=cs/\∃e a,Q e a w/\match e with
  |.normal=>fr=b.atR a k
  |.exit id=>∃k1,exitTo id k1=exitTo id k/\fr=b.atR a (.code (.exit id)::k1)
  |.ret=>∃k1,fr=b.atR a (.code .ret::k1)
  |_=>False
def _root_.Go.Code.wpT(r:Option Nat)(P:Program)(c:Code)(Q:Exit->Act->World->Prop)(a:Act)(w:World):Prop:=
 ∀(b:Frame)(k:List Item)(cs:List Frame),b.roundOf=r->b.kind≠.early->T P cs.length (Arr b k cs Q) (b.atR a (.code c::k)) cs w
def iw(P:Program)(f:FuncId)(args:Array Value)(w:World)(R:Ending->World->Prop):Prop:=
 ∀(c:Frame)(cs:List Frame),fY c->T P (cs.length+1) (λfr cs' w'=>cs'=cs/\∃v,R (.returned v) w'/\fr=c.finish v) (Frame.enter P f args .normal) (c::cs) w
def qM(P:Program)(l:Nat)(f:FuncId)(tmps:Array Value)(assign body:Code)(w:World)(R:Ending->World->Prop):Prop:=
 ∀(c:Frame)(cs:List Frame),fY c->T P (cs.length+1) (λfr cs' w'=>cs'=cs/\∃v,R (.returned v) w'/\fr=c.finish v) (Frame.round l f tmps assign body .normal) (c::cs) w
theorem iw.mono{P:Program}{f:FuncId}{args:Array Value}{w:World}{R R':Ending->World->Prop}(h:iw P f args w R)(hr:∀e w,R e w->R' e w):iw P f args w R':=
 λc cs hc=>(h c cs hc).mono λ_ _ _ ⟨h1,v,h2,h3⟩=>⟨h1,v,hr _ _ h2,h3⟩
theorem qM.mono{P:Program}{l:Nat}{f:FuncId}{tmps:Array Value}{assign body:Code}{w:World}{R R':Ending->World->Prop}(h:qM P l f tmps assign body w R)(hr:∀e w,R e w->R' e w):qM P l f tmps assign body w R':=
 λc cs hc=>(h c cs hc).mono λ_ _ _ ⟨h1,v,h2,h3⟩=>⟨h1,v,hr _ _ h2,h3⟩
def _root_.Go.Oper.qN(P:Program)(o:Oper)(a:Act)(K:Act->World->Prop):Result Next->Prop
 |.ok (.value v) w'=>K (a.put o.dst v) w'
 |.ok .skip w'=>K (a.put o.dst undef) w'
 |.ok (.enter f args) w'=>iw P f args w' fun
   |.returned v,bf=>K (a.put o.dst v) bf
   |_,_=>False
 |.ok (.round l f tmps assign body) w'=>qM P l f tmps assign body w' fun
   |.returned v,bf=>K (a.put o.dst v) bf
   |_,_=>False
 |_=>False
def _root_.Go.Oper.wpt(P:Program)(o:Oper)(a:Act)(w:World)(K:Act->World->Prop)(Q:Exit->Act->World->Prop):Prop:=
 o.qN P a K ((execOp a.eval o).run P w)
def _root_.Go.Oper.wpT(r:Option Nat)(P:Program)(o:Oper)(a:Act)(w:World)(K:Act->World->Prop)(Q:Exit->Act->World->Prop):Prop:=(∀c,o.op≠.defer c)/\(∀f,EnvD.D w (Go.Conc.listed P f a o w))/\o.wpt P a w K Q
section
variable(P:Program)(o:Oper)(a:Act)(K:Act->World->Prop)(w:World)
theorem _root_.Go.Oper.pz(v:Value):o.qN P a K (.ok (.value v) w)=K (a.put o.dst v) w:=rfl
theorem _root_.Go.Oper.Im:o.qN P a K (.ok .skip w)=K (a.put o.dst undef) w:=rfl
theorem _root_.Go.Oper.xL(f:FuncId)(args:Array Value):o.qN P a K (.ok (.enter f args) w)=iw P f args w fun
 |.returned v,bf=>K (a.put o.dst v) bf
 |_,_=>False:=rfl
theorem _root_.Go.Oper.Ra(l:Nat)(f:FuncId)(tmps:Array Value)(assign body:Code):o.qN P a K (.ok (.round l f tmps assign body) w)=qM P l f tmps assign body w fun
 |.returned v,bf=>K (a.put o.dst v) bf
 |_,_=>False:=rfl
end
theorem _root_.Go.Oper.Rb{P:Program}{o:Oper}{a:Act}{w:World}{K K':Act->World->Prop}{Q Q':Exit->Act->World->Prop}(h:∀a w,K a w->K' a w)(hh:o.wpt P a w K Q):o.wpt P a w K' Q':=by
 unfold Oper.wpt at *;generalize (execOp a.eval o).run P w=r at *
 cases r with
 |ok x w'=>
  cases x<;>simp only[Oper.qN] at hh ⊢ <;>
   first
    |exact h _ _ hh
    |exact iw.mono hh (λe bf he=>by cases e<;>first|exact h _ _ he|exact he)
    |exact qM.mono hh (λe bf he=>by cases e<;>first|exact h _ _ he|exact he)
 |halt x w'=>exact hh.elim
theorem _root_.Go.Oper.fe{r:Option Nat}{P:Program}{o:Oper}{a:Act}{w:World}{K K':Act->World->Prop}{Q Q':Exit->Act->World->Prop}(h:∀a w,K a w->K' a w)(hh:o.wpT r P a w K Q):o.wpT r P a w K' Q':=⟨hh.1,hh.2.1,Oper.Rb (Q:=Q) h hh.2.2⟩
variable{P:Program}{ops:Array Oper}{Q:Exit->Act->World->Prop}{a:Act}{w:World}
def iB(r:Option Nat)(P:Program)(ops:Array Oper)(Q:Exit->Act->World->Prop):List Oper->Act->World->Prop
 |[],a,w=>Q .normal a w
 |o::rest,a,w=>∀w1,EnvD.E w w1->if Region.wanted o (yielded ops a.tmps) then o.wpT r P a w1 (iB r P ops Q rest) Q else iB r P ops Q rest (a.put o.dst undef) w1
def lJ(r:Option Nat)(P:Program)(ops:Array Oper)(Q:Exit->Act->World->Prop)(i:Nat)(K:Act->World->Prop)(a:Act)(w:World):Prop:=
 match ops[i]? with
 |none=>K a w
 |some o=>∀w1,EnvD.E w w1->if Region.wanted o (yielded ops a.tmps) then o.wpT r P a w1 K Q else K (a.put o.dst undef) w1
def mD(r:Option Nat)(P:Program)(ops:Array Oper)(Q:Exit->Act->World->Prop):List Nat->Act->World->Prop
 |[],a,w=>Q .normal a w
 |i::rest,a,w=>lJ r P ops Q i (mD r P ops Q rest) a w
theorem Ly{r:Option Nat}{i:Nat}{K K':Act->World->Prop}(h:∀a w,K a w->K' a w)(hh:lJ r P ops Q i K a w):lJ r P ops Q i K' a w:=by
 unfold lJ at *
 cases ho:ops[i]? with
 |none=>rw[ho] at hh;grind
 |some o=>
  rw[ho] at hh;intro w1 e;have:=hh w1 e
  revert this
  cases Region.wanted o (yielded ops a.tmps) with
  |true=>exactλx=>Oper.fe (r:=r) (Q:=Q) (Q':=Q) h x
  |false=>simp_all
def jP(r:Option Nat)(P:Program)(md:Region.Mode)(ops:Array Oper)(Q:Exit->Act->World->Prop):Nat->Array Bool->Act->World->Prop
 |0,listed,a,w=>Region.ready md ops listed=[]/\Q .normal a w
 |fuel+1,listed,a,w=>
  (Region.ready md ops listed=[]->Q .normal a w)/\∀i∈Region.ready md ops listed,lJ r P ops Q i (jP r P md ops Q fuel (listed.setIfInBounds i true)) a w
theorem Lz{r:Option Nat}{md:Region.Mode}:∀(fuel t:Nat)(listed:Array Bool)(a:Act)(w:World),jP r P md ops Q fuel listed a w->mD r P ops Q (Region.linearise.go md ops fuel t listed []) a w:=by
 intro fuel
 induction fuel with
 |zero=>intro t listed a w h;simpa[Region.linearise.go,mD] using h.2
 |succ fuel ih=>
  intro t listed a w h;obtain⟨h0,h1⟩:=h;simp only[Region.linearise.go]
  change mD r P ops Q (match (Region.ready md ops listed)[t%(Region.ready md ops listed).length]? with
   |some i=>Region.linearise.go md ops fuel (t / (Region.ready md ops listed).length) (listed.setIfInBounds i true) [i]
   |none=>[].reverse) a w
  cases hi:(Region.ready md ops listed)[t%(Region.ready md ops listed).length]? with
  |none=>
   have dp:Region.ready md ops listed=[]:=by
    cases hr:Region.ready md ops listed with
    |nil=>rfl
    |cons x xs=>
     rw[hr] at hi;have a9:t%(x::xs).length<(x::xs).length:=yz _ ae
     grind
   simpa[mD] using h0 dp
  |some i=>
   simp only[];rw[linearise_go_acc,TW,List.singleton_append];exact Ly (λa w=>ih _ _ a w) (h1 i (JK hi))
theorem ES{r:Option Nat}:∀(l:List Oper)(n:Nat)(a:Act)(w:World),(∀i,i<l.length->ops[n+i]?=l[i]?)->iB r P ops Q l a w->mD r P ops Q (List.range' n l.length) a w
 |[],n,a,w,_,h=>h
 |o::l,n,a,w,hl,h=>by
  simp only[il,List.range'_succ,mD,lJ];have h0:=hl 0 ae;simp only[m8,Dz] at h0;rw[h0];intro w1 e;have:=h w1 e
  have ih:∀a w,iB r P ops Q l a w->mD r P ops Q (List.range' (n+1) l.length) a w:=λa w h=>ES l (n+1) a w (λi hi=>by
   have:=hl (i+1) ar;rw[yA] at this
   rw[<-this];grind) h
  revert this
  cases Region.wanted o (yielded ops a.tmps) with
  |true=>exactλx=>Oper.fe (r:=r) (Q:=Q) (Q':=Q) ih x
  |false=>simp_all
omit [EnvD] in
theorem n9{c:Frame}(h:fY c)(v:Value):fY (c.finish v):=by
 intro ch
 have:(c.finish v).mode=c.mode:=by unfold Frame.finish;split<;>rfl
 rw[this];exact h ch
theorem zA{r:Option Nat}:∀(l:List Nat)(a:Act)(w:World),mD r P ops Q l a w->∀(b:Frame)(k:List Item)(cs:List Frame),b.roundOf=r->b.kind≠.early->T P cs.length (Arr b k cs Q) (b.atR a (.inRegion ops l::k)) cs w
 |[],a,w,h,b,k,cs,hr,hk=>.quiet _ _ (λ_=>vO) dA (.now ⟨rfl,.normal,a,h,rfl⟩)
 |i::rest,a,w,h,b,k,cs,hr,hk=>by
  have ih:∀(a:Act)(w:World),mD r P ops Q rest a w->∀(b:Frame)(k:List Item)(cs:List Frame),b.roundOf=r->b.kind≠.early->T P cs.length (Arr b k cs Q) (b.atR a (.inRegion ops rest::k)) cs w:=zA rest;simp only[mD,lJ] at h
  cases ho:ops[i]? with
  |none=>
   rw[ho] at h
   have hs:∀w1,stepG P true (G (b.atR a (.inRegion ops (i::rest)::k)) cs) w1=_:=λw1=>zy (P:=P) (b:=b) (a:=a) (k:=k) (cs:=cs) (w:=w1) (ops:=ops) (i:=i) (rest:=rest) (by simp[ho])
   simp only[ho,Option.bind_none,Act.put] at hs;exact .quiet _ _ hs dA (ih a w h b k cs hr hk)
  |some o=>
   rw[ho] at h
   cases hw:Region.wanted o (yielded ops a.tmps) with
   |false=>
    have hs:∀w1,stepG P true (G (b.atR a (.inRegion ops (i::rest)::k)) cs) w1=_:=λw1=>zy (P:=P) (b:=b) (a:=a) (k:=k) (cs:=cs) (w:=w1) (ops:=ops) (i:=i) (rest:=rest) (by simp[ho,hw])
    simp only[ho,lj] at hs
    refine .eo λw1 e=>⟨_,_,_,_,hs w1,dA,EnvD.nil w1,?_⟩
    have:=h w1 e;rw[hw] at this;simp_all
   |true=>
    refine .eo λw1 e=>?_
    have:=h w1 e;rw[hw] at this;obtain⟨hd,d5,hu⟩:=this;unfold Oper.wpt at hu;have hg:=vP (P:=P) (b:=b) (k:=k) (cs:=cs) (w:=w1) (rest:=rest) ho hw hd
    have cj:∀v,(b.atR a (.inRegion ops (i::rest)::k)).finish v=b.atR (a.put o.dst v) (.inRegion ops rest::k):=by
     intro v;rw[Frame.finish_atR,ho];rfl
    have bt:((b.atR a (.inRegion ops (i::rest)::k)).kind==CallKind.early)=false:=by simpa[Frame.atR] using hk
    have d8:EnvD.D w1 (seen P (b.atR a (.inRegion ops (i::rest)::k)).fn ((execOp a.eval o).events P w1 #[])++#[]):=by rw[m7];exact d5 _
    generalize a4:(execOp a.eval o).run P w1=R at hu
    cases R with
    |ok x w'=>
     cases x<;>simp only[Oper.qN] at hu
     .rename_i v;refine⟨b.atR (a.put o.dst v) (.inRegion ops rest::k),cs,w',seen P (b.atR a (.inRegion ops (i::rest)::k)).fn ((execOp a.eval o).events P w1 #[])++#[],by rw[hg,<-cj];simp only[stepG.apply,cz,Sem.runT_eq,a4,bt,dz,cT,GStep.after];rfl,dA,d8,ih _ _ hu b k cs hr hk⟩
     .refine⟨b.atR (a.put o.dst undef) (.inRegion ops rest::k),cs,w',seen P (b.atR a (.inRegion ops (i::rest)::k)).fn ((execOp a.eval o).events P w1 #[])++#[],by rw[hg,<-cj];simp only[stepG.apply,cz,Sem.runT_eq,a4,bt,dz,cT,GStep.after];rfl,dA,d8,ih _ _ hu b k cs hr hk⟩
     .rename_i f args;refine⟨Frame.enter P f args .normal,b.atR a (.inRegion ops (i::rest)::k)::cs,w',seen P (b.atR a (.inRegion ops (i::rest)::k)).fn ((execOp a.eval o).events P w1 #[])++#[],by rw[hg];simp only[stepG.apply,cz,Sem.runT_eq,a4,bt,dz,cT,GStep.after];rfl,λch=>by simp[Frame.enter],d8,(hu _ cs dA).low.bind λfr cs' bf ⟨h1,v,h2,h3⟩=>?_⟩;simp_all
     .rename_i l f tmps assign body;refine⟨Frame.round l f tmps assign body .normal,b.atR a (.inRegion ops (i::rest)::k)::cs,w',seen P (b.atR a (.inRegion ops (i::rest)::k)).fn ((execOp a.eval o).events P w1 #[])++#[],by rw[hg];simp only[stepG.apply,cz,Sem.runT_eq,a4,bt,dz,cT,GStep.after];rfl,λch=>by simp[Frame.round],d8,(hu _ cs dA).low.bind λfr cs' bf ⟨h1,v,h2,h3⟩=>?_⟩;simp_all
    |halt x w'=>exact hu.elim
end
section
variable[EnvD]
variable{P:Program}{r:Option Nat}{Q:Exit->Act->World->Prop}{a:Act}{w:World}
omit [EnvD] in
theorem Arr.mono{b:Frame}{k:List Item}{cs:List Frame}{Q Q':Exit->Act->World->Prop}(hq:∀e a w,Q e a w->Q' e a w){fr:Frame}{cs':List Frame}{w:World}(h:Arr b k cs Q fr cs' w):Arr b k cs Q' fr cs' w:=
 let ⟨h1,e,a,h2,h3⟩:=h;⟨h1,e,a,hq _ _ _ h2,h3⟩
theorem fe{c:Code}{Q':Exit->Act->World->Prop}(h:c.wpT r P Q a w)(hq:∀e a w,Q e a w->Q' e a w):c.wpT r P Q' a w:=
 λb k cs hr hk=>(h b k cs hr hk).mono λ_ _ _ x=>x.mono hq
theorem LA(h:Q .normal a w):Code.skip.wpT r P Q a w:=λb k cs _ _=>.quiet _ _ (λ_=>zk) dA (.now ⟨rfl,.normal,a,h,rfl⟩)
theorem LF{l:Nat}(h:Q .normal a w):(Code.label l).wpT r P Q a w:=λb k cs _ _=>.quiet _ _ (λ_=>Lx) dA (.now ⟨rfl,.normal,a,h,rfl⟩)
theorem LG{id:Nat}(h:Q (.exit id) a w):(Code.exit id).wpT r P Q a w:=λb k cs _ _=>.now ⟨rfl,.exit id,a,h,k,rfl,rfl⟩
theorem ET(h:Q .ret a w):Code.ret.wpT r P Q a w:=λb k cs _ _=>.now ⟨rfl,.ret,a,h,k,rfl⟩
theorem zB{x y:Code}(h:x.wpT r P (Exit.then (y.wpT r P Q) Q) a w):(Code.seq x y).wpT r P Q a w:=by
 intro b k cs hr hk;refine .quiet _ _ (λ_=>zm) dA ((h b (.code y::k) cs hr hk).bind ?_)
 rintro fr cs' w' ⟨rfl,e,a',hq,he⟩
 cases e with
 |normal=>subst he;exact hq b k _ hr hk
 |exit id=>
  obtain⟨k1,h1,rfl⟩:=he;exact .now ⟨rfl,.exit id,a',hq,k1,h1.trans (exitTo_plain rfl id k),rfl⟩
 |ret=>obtain⟨k1,rfl⟩:=he;exact .now ⟨rfl,.ret,a',hq,k1,rfl⟩
 |_=>exact he.elim
theorem vQ{c:Operand}{x y:Code}{t:Bool}(hc:a.eval c=.bool t)(h:(if t then x else y).wpT r P Q a w):(Code.cond c x y).wpT r P Q a w:=
 λb k cs hr hk=>.quiet _ _ (λ_=>zn hc) dA (h b k cs hr hk)
theorem zC{id:Nat}{c:Code}(h:c.wpT r P (Exit.inBlock id Q) a w):(Code.block id c).wpT r P Q a w:=by
 intro b k cs hr hk;refine .quiet _ _ (λ_=>zo) dA ((h b (.inBlock id::k) cs hr hk).bind ?_)
 rintro fr cs' w' ⟨rfl,e,a',hq,he⟩
 cases e with
 |normal=>subst he;exact .quiet _ _ (λ_=>zl) dA (.now ⟨rfl,.normal,a',hq,rfl⟩)
 |exit bw=>
  obtain⟨k1,h1,rfl⟩:=he;by_cases cm:bw=id
  .simp only[Exit.inBlock,cm,cz] at hq;subst cm
   have:exitTo bw k1=some k:=by rw[h1];simp[exitTo]
   exact .quiet _ _ (λ_=>zt this) dA (.now ⟨rfl,.normal,a',hq,rfl⟩)
  .simp only[Exit.inBlock,cm,cT] at hq
   have this:(id==bw)=false:=ak
   have hx:exitTo bw (.inBlock id::k)=exitTo bw k:=by simp[exitTo,this]
   exact .now ⟨rfl,.exit bw,a',hq,k1,h1.trans hx,rfl⟩
 |ret=>obtain⟨k1,rfl⟩:=he;exact .now ⟨rfl,.ret,a',hq,k1,rfl⟩
 |_=>exact he.elim
theorem zD{c:Code}(I:Nat->Act->World->Prop)(n0:Nat)(h0:I n0 a w)(round:∀k a w,I k a w->c.wpT r P (Exit.then (λa' w'=>∃n',n'<k/\I n' a' w') Q) a w):(Code.loop c).wpT r P Q a w:=by
 intro b k cs hr hk;refine .quiet _ _ (λ_=>zp) dA ?_
 have key:∀n a w,I n a w->T P cs.length (Arr b k cs Q) (b.atR a (.code c::.inLoop c::k)) cs w:=by
  intro n
  induction n using Nat.strongRecOn with
  |_ n ih=>
   intro a w hI;refine (round n a w hI b (.inLoop c::k) cs hr hk).bind ?_
   rintro fr cs' w' ⟨rfl,e,a',hq,he⟩
   cases e with
   |normal=>
    subst he;obtain⟨n',a9,f6⟩:=hq;exact .quiet _ _ (λ_=>zq) dA (ih n' a9 a' w' f6)
   |exit id=>
    obtain⟨k1,h1,rfl⟩:=he;exact .now ⟨rfl,.exit id,a',hq,k1,h1.trans (exitTo_plain rfl id k),rfl⟩
   |ret=>obtain⟨k1,rfl⟩:=he;exact .now ⟨rfl,.ret,a',hq,k1,rfl⟩
   |_=>exact he.elim
 grind
theorem qv{id:Nat}{ops:Array Oper}(h:iB r P ops Q ops.toList a w):(Code.region id ops false).wpT r P Q a w:=by
 intro b k cs hr hk;refine .quiet _ _ (λ_=>zw) dA (zA _ a w ?_ b k cs hr hk);have:=ES (r:=r) (P:=P) (ops:=ops) (Q:=Q) ops.toList 0 a w (λi _=>ae) h;rw[List.range_eq_range',<-DC];exact this
theorem zE{id:Nat}{ops:Array Oper}(hm:P.follows .mixedOrders=true)(h:∀w1,EnvD.E w w1->jP r P .any ops Q ops.size (Array.replicate ops.size false) a { w1 with drawn:=w1.drawn+1 }):(Code.region id ops true).wpT r P Q a w:=by
 intro b k cs hr hk
 refine .eo λw1 e=>⟨_,_,_,_,ER,dA,EnvD.nil w1,zA _ a _ ?_ b k cs hr hk⟩
 simp only[Region.schedule,hm,iX,cz];exact Lz ops.size _ _ a _ (h w1 e)
end
section
variable[bI]
variable{P:Program}{r:Option Nat}{Q:Exit->Act->World->Prop}{a:Act}{w:World}
theorem jK{o:Oper}{K:Act->World->Prop}(hd:∀c,o.op≠.defer c)(h:o.wpt P a w K Q):o.wpT r P a w K Q:=⟨hd,λ_=>bI.mB _ _,h⟩
def pA(P:Program)(fn:Func)(tmps:Array Value)(R:Ending->World->Prop):List Deferred->World->Prop
 |[],w=>∀w1,EnvD.E w w1->∃v,(results fn tmps).run P w1=.ok v w1/\R (.returned v) w1
 |d::ds,w=>∀w1,EnvD.E w w1->∃D w2,d = { target:=.collected D,args:=#[] }/\(Instr.takeDeferred D).run P w1=.ok [] w2/\pA P fn tmps R ds w2
theorem zF{f:FuncId}{fn:Func}{R:Ending->World->Prop}(hf:P.funcs[f]?=some fn):∀(ds:List Deferred)(w:World)(fr:Frame)(c:Frame)(cs:List Frame),fr.fn=f->fr.mode=.returning->fr.defers=ds->fr.kind=.normal->fY c->pA P fn fr.tmps R ds w->T P (cs.length+1) (λfr' cs' w'=>cs'=cs/\∃v,R (.returned v) w'/\fr'=c.finish v) fr (c::cs) w
 |[],w,fr,c,cs,hn,hm,hd,hk,hc,h=>by
  refine .eo λw1 e=>?_
  obtain⟨v,hr,hR⟩:=h w1 e;rw[<-hn] at hf;exact⟨c.finish v,cs,w1,_,by simp only[G,stepG,unwind,hm,hd,hf,Sem.runT_eq,hr,doReturn,hk,GStep.after];rfl,n9 hc v,bI.mB _ _,.now ⟨rfl,v,hR,rfl⟩⟩
 |d::ds,w,fr,c,cs,hn,hm,hd,hk,hc,h=>by
  refine .eo λw1 e=>?_
  obtain⟨D,w2,rfl,ht,hl⟩:=h w1 e;refine⟨{ fr with defers:=[]++ds },c::cs,w2,_,by simp only[G,stepG,unwind,hm,hd,Sem.runT_eq,ht,GStep.after];rfl,λch=>by simp[hm],bI.mB _ _,?_⟩;exact zF hf ds w2 { fr with defers:=[]++ds } c cs hn hm rfl hk hc hl
def bodyPostM(P:Program)(fn:Func)(R:Ending->World->Prop):Exit->Act->World->Prop
 |.normal,a,w | .ret,a,w=>pA P fn a.tmps R a.defers w
 |_,_,_=>False
def bodyPost(P:Program)(fn:Func)(R:Ending->World->Prop):Exit->Act->World->Prop
 |.normal,a,w | .ret,a,w=>a.defers=[]/\∀w1,EnvD.E w w1->∃v,(results fn a.tmps).run P w1=.ok v w1/\R (.returned v) w1
 |_,_,_=>False
theorem EU{f:FuncId}{fn:Func}{c:Code}{args:Array Value}{w:World}{R:Ending->World->Prop}(hf:P.funcs[f]?=some fn)(hb:fn.body=some c)(h:c.wpT none P (bodyPostM P fn R) { tmps:=args++Array.replicate (fn.ntmps-args.size) undef,defers:=[] } w):iw P f args w R:=by
 intro cl cs ec
 let b:Frame:={ (default:Frame) with fn:=f,kind:=.normal,roundOf:=none }
 have bp:Frame.enter P f args .normal=b.atR { tmps:=args++Array.replicate (fn.ntmps-args.size) undef,defers:=[] } [.code c]:=by
  simp[Frame.enter,Frame.atR,hf,hb,b]
 rw[bp];refine (h b [] (cl::cs) rfl (by simp[b])).bind ?_
 rintro fr cs' w' ⟨rfl,e,a',hq,he⟩
 cases e with
 |normal=>
  subst he;exact .quiet _ _ (λ_=>zv rfl) (λch=>ae) (zF hf a'.defers w' _ cl cs rfl rfl rfl rfl ec hq)
 |ret=>
  obtain⟨k1,rfl⟩:=he;exact .quiet _ _ (λ_=>zu rfl) (λch=>ae) (zF hf a'.defers w' _ cl cs rfl rfl rfl rfl ec hq)
 |_=>exact hq.elim
theorem vR{f:FuncId}{fn:Func}{c:Code}{args:Array Value}{w:World}{R:Ending->World->Prop}(hf:P.funcs[f]?=some fn)(hb:fn.body=some c)(h:c.wpT none P (bodyPost P fn R) { tmps:=args++Array.replicate (fn.ntmps-args.size) undef,defers:=[] } w):iw P f args w R:=by
 refine EU hf hb (fe h λe a w hq=>?_)
 cases e with
 |normal=>obtain⟨h1,h2⟩:=hq;show pA _ _ _ _ a.defers _;rw[h1];exact h2
 |ret=>obtain⟨h1,h2⟩:=hq;show pA _ _ _ _ a.defers _;rw[h1];exact h2
 |_=>exact hq.elim
def Rc(P:Program)(l:Nat)(R:Ending->World->Prop):Exit->Act->World->Prop
 |.normal,_,w=>∀w1,EnvD.E w w1->∃v w',(Instr.endRound l none).run P w1=.ok v w'/\R (.returned v) w'
 |.ret,_,w=>∀w1,EnvD.E w w1->∃v w',(Instr.endRound l (some .ret)).run P w1=.ok v w'/\R (.returned v) w'
 |_,_,_=>False
theorem LH{l:Nat}{f:FuncId}{tmps:Array Value}{assign body:Code}{w:World}{R:Ending->World->Prop}(h:assign.wpT (some l) P (Exit.then (λa1 w1=>∀w2,EnvD.E w1 w2->∃w3,(Instr.beginRound l).run P w2=.ok () w3/\body.wpT (some l) P (Rc P l R) a1 w3) (λ_ _ _=>False)) { tmps:=tmps,defers:=[] } w):qM P l f tmps assign body w R:=by
 intro c cs hc
 let b:Frame:={ (default:Frame) with fn:=f,kind:=.normal,roundOf:=some l }
 have f7:Frame.round l f tmps assign body .normal=b.atR { tmps:=tmps,defers:=[] } [.code assign,.beginRound,.code body]:=by rfl
 rw[f7];refine (h b [.beginRound,.code body] (c::cs) rfl (by simp[b])).bind ?_
 rintro fr cs' w' ⟨rfl,e,a1,hq,he⟩
 cases e with
 |normal=>
  subst he
  refine .eo λw2 e2=>?_
  obtain⟨w3,f9,bz⟩:=hq w2 e2;refine⟨b.atR a1 [.code body],c::cs,w3,_,by simp only[G,stepG,stepG.exec,stepG.apply,Frame.atR,b,Option.elim,Sem.run_bind,Sem.runT_eq,f9,Result.andThen,Sem.run_pure,Frame.finish,cz,GStep.after];rfl,dA,bI.mB _ _,(bz b [] (c::cs) rfl (by simp[b])).bind ?_⟩
  rintro fr cs' w4 ⟨rfl,e,a2,hq,he⟩
  cases e with
  |normal=>
   subst he
   refine .eo λw5 e5=>?_
   obtain⟨v,w6,bh,hR⟩:=hq w5 e5;exact⟨c.finish v,cs,w6,_,by simp only[G,stepG,stepG.exec,Frame.atR,b,Sem.runT_eq,bh,doReturn,GStep.after];rfl,n9 hc v,bI.mB _ _,.now ⟨rfl,v,hR,rfl⟩⟩
  |ret=>
   obtain⟨k1,rfl⟩:=he
   refine .eo λw5 e5=>?_
   obtain⟨v,w6,bh,hR⟩:=hq w5 e5;exact⟨c.finish v,cs,w6,_,by simp only[G,stepG,stepG.exec,Frame.atR,b,Sem.runT_eq,bh,doReturn,GStep.after];rfl,n9 hc v,bI.mB _ _,.now ⟨rfl,v,hR,rfl⟩⟩
  |_=>exact hq.elim
 |_=>exact hq.elim
def Ch(P:Program)(l:Nat)(r:Option Nat)(Q:Exit->Act->World->Prop)(a':Act):Ending->World->Prop
 |.returned _,w3=>∀w4,EnvD.E w3 w4->∃jump w5,(Instr.endLoop l).run P w4=.ok jump w5 /\
   (match jump with
    |none=>Q .normal a' w5
    |some c=>c.wpT r P Q a' w5)
 |_,_=>False
theorem LI{g:Operand}{ps:Array Tmp}{assign body:Code}{Q:Exit->Act->World->Prop}{a:Act}{w:World}(h:∀w0,EnvD.E w w0->∀fn,∃(l:Nat)(mark:List Deferred)(w1:World)(d:Deferred)(df:World)(f:FuncId)(args:Array Value)(w2:World),(Instr.enterLoop fn a.tmps ps assign body r).run P w0=.ok (l,mark) w1/\(resolve a.eval (rangeCall g l) 0).run P w1=.ok d df/\(invoke d.target d.args).run P df=.ok (.enter f args) w2/\iw P f args w2 (Ch P l r Q { a with defers:=mark++a.defers })):(Code.rangeFunc g ps assign body).wpT r P Q a w:=by
 intro b k cs hr hk
 refine .eo λw0 e0=>?_
 obtain⟨l,mark,w1,d,df,f,args,w2,he,dv,hinv,c8⟩:=h w0 e0 b.fn;rw[<-hr] at he
 have bt:(b.kind==CallKind.early)=false:=ak
 have d5:=Frame.eval_atR b { a with defers:=mark++a.defers } (.inRangeFunc l::k);simp only[Frame.atR] at d5;have cu:Sem.run P (resolve ({ tmps:=a.tmps,defers:=mark++a.defers }:Act).eval { callee:=.value g,args:=#[.const (.func (.yield l) #[] #[])],argTypes:=#[] } 0) w1=.ok d df:=dv
 obtain⟨es,da⟩:∃es,stepG P true (G (b.atR a (.code (.rangeFunc g ps assign body)::k)) cs) w0=.go (G (Frame.enter P f args .normal) (b.atR { a with defers:=mark++a.defers } (.inRangeFunc l::k)::cs)) w2 es:=by
  exact⟨_,by simp only[G,stepG,stepG.exec,Frame.atR,Sem.runT_eq,he,stepG.apply,d5,Sem.run_bind,cu,hinv,Result.andThen,bt,cz,dz,cT,GStep.after];rfl⟩
 refine⟨Frame.enter P f args .normal,b.atR { a with defers:=mark++a.defers } (.inRangeFunc l::k)::cs,w2,es,da,λch=>by simp[Frame.enter],bI.mB _ _,(c8 _ cs dA).low.bind ?_⟩
 rintro fr cs' w3 ⟨rfl,v,hR,rfl⟩
 rw[finish_atR_inRangeFunc]
 refine .eo λw4 e4=>?_
 obtain⟨jump,w5,bh,hj⟩:=hR w4 e4;refine⟨b.atR { a with defers:=mark++a.defers } ((jump.map Item.code).toList++k),_,w5,_,by simp only[G,stepG,stepG.exec,Frame.atR,Sem.runT_eq,bh,GStep.after];rfl,dA,bI.mB _ _,?_⟩
 cases jump with
 |none=>exact .now ⟨rfl,.normal,_,hj,rfl⟩
 |some c=>exact hj b k _ hr hk
end
end Go.Fi
namespace Go.Fi
open Go Go.RowKit
inductive PV where
 |undef
 |jQ
 |bool (b:Bool)
 |int (k:IntKind) (n:Int)
 |str (s:ByteArray)
 |agg (cs:List PV)
 |tup (vs:List PV)
 |sl (n:Nat) (cells:List PV)
 |ip (cells:List PV) (off:Nat)
 |gX
 |lL
 |ifc (t:TypeId) (p:PV)
 |fn (f:FuncId) (cap:List PV)
 |yl (l:Nat)
 deriving Inhabited
def dK(w:World)(b off:Nat)(n:Nat)(vals:Nat->Value):Prop:=∀j,j<n->w.cell? ⟨b,off+j,none⟩=some (vals j)
inductive Rep(G:Nat->Prop)(w:World):PV->Value->Prop
 |undef (v:Value):Rep G w .undef v
 |jQ (b:Bool):Rep G w .jQ (.bool b)
 |bool (b:Bool):Rep G w (.bool b) (.bool b)
 |int (k:IntKind) (n:Int):Rep G w (.int k n) (.int k n)
 |str (s:ByteArray):Rep G w (.str s) (.string s)
 |agg {cs:List PV} {vs:Array Value}:cs.length=vs.size->(∀(j:Nat)(p:PV)(v:Value),cs[j]?=some p->vs[j]?=some v->Rep G w p v)->Rep G w (.agg cs) (.agg vs)
 |tup {cs:List PV} {vs:Array Value}:cs.length=vs.size->(∀(j:Nat)(p:PV)(v:Value),cs[j]?=some p->vs[j]?=some v->Rep G w p v)->Rep G w (.tup cs) (.tuple vs)
 |slnil:Rep G w (.sl 0 []) (.slice none 0 0)
 |sl {n cap b off:Nat} {cells:List PV} (vals:Nat->Value):n<=cap->dK w b off cells.length vals->(cells≠[]->G b) ->
   (∀(j:Nat)(p:PV),cells[j]?=some p->Rep G w p (vals j))->Rep G w (.sl n cells) (.slice (some ⟨b,off,none⟩) n cap)
 |slz {n cap:Nat} {a:Addr}:n<=cap->Rep G w (.sl n []) (.slice (some a) n cap)
 |ip {o b off:Nat} {cells:List PV} (vals:Nat->Value):dK w b off cells.length vals->(cells≠[]->G b) ->
   (∀(j:Nat)(p:PV),cells[j]?=some p->Rep G w p (vals j))->Rep G w (.ip cells o) (.pointer (some ⟨b,off+o,none⟩))
 |gX:Rep G w .gX (.pointer none)
 |lL:Rep G w .lL .nilIface
 |ifc {t:TypeId} {p:PV} {v:Value}:Rep G w p v->Rep G w (.ifc t p) (.iface t v)
 |fn {f:FuncId} {cap:List PV} {vs:Array Value}:cap.length=vs.size->(∀(j:Nat)(p:PV)(v:Value),cap[j]?=some p->vs[j]?=some v->Rep G w p v)->Rep G w (.fn f cap) (.func (.func f) #[] vs)
 |yl (l:Nat):Rep G w (.yl l) (.func (.yield l) #[] #[])
theorem dK.keep{w w':World}{b off n:Nat}{vals:Nat->Value}(h:dK w b off n vals)(hb:w'.heap[b]?=w.heap[b]?):dK w' b off n vals:=by
 intro j hj;rw[<-h j hj];simp only[World.cell?,hb]
theorem dK.lt{w:World}{b off n:Nat}{vals:Nat->Value}(h:dK w b off n vals)(hn:0<n):b<w.heap.size:=by
 have h0:=h 0 hn;simp only[World.cell?] at h0
 rcases fo b w.heap.size with a9|fb
 .exact a9
 .rw[DI fb] at h0;cases h0
theorem Rep.mono{G G':Nat->Prop}{w w':World}{p:PV}{v:Value}(h:Rep G w p v)(hG:∀b,b<w.heap.size->G b->G' b)(hw:∀b,b<w.heap.size->G b->w'.heap[b]?=w.heap[b]?):Rep G' w' p v:=by
 induction h with
 |undef v=>exact .undef v
 |jQ b=>exact .jQ b
 |bool b=>exact .bool b
 |int k n=>exact .int k n
 |str s=>exact .str s
 |agg hl _ ih=>exact .agg hl ih
 |tup hl _ ih=>exact .tup hl ih
 |slnil=>exact .slnil
 |@sl n cap b off cells vals hn hc hg hr ih=>
  cases cells with
  |nil=>exact .slz hn
  |cons x xs=>
   have hb:b<w.heap.size:=hc.lt ae;exact .sl vals hn (hc.keep (hw b hb (hg ae))) (λ_=>hG b hb (hg ae)) ih
 |slz hn=>exact .slz hn
 |@ip o b off cells vals hc hg hr ih=>
  cases cells with
  |nil=>exact .ip vals (λj hj=>by simp at hj) (λh=>absurd rfl h) (λj p hj=>by simp at hj)
  |cons x xs=>
   have hb:b<w.heap.size:=hc.lt ae;exact .ip vals (hc.keep (hw b hb (hg ae))) (λ_=>hG b hb (hg ae)) ih
 |gX=>exact .gX
 |lL=>exact .lL
 |ifc _ ih=>exact .ifc ih
 |fn hl _ ih=>exact .fn hl ih
 |yl l=>exact .yl l
theorem Rep.imp{G G':Nat->Prop}{w:World}{p:PV}{v:Value}(h:Rep G w p v)(hG:∀b,G b->G' b):Rep G' w p v:=
 h.mono (λb _=>hG b) (λ_ _ _=>rfl)
inductive AV where
 |w (own full:Bool) (v:PV)
 |ptr (id ver off:Nat)
 |msl (id ver sz off n:Nat)
 |mp (id:Nat)
 |agg (cs:List AV)
 |tup (cs:List AV)
 |fn (f:FuncId) (cap:List AV)
 deriving Inhabited
structure Mm where
 addr:Nat->Nat->Option (Nat×Nat)
 top:Nat->Nat
 dom:Nat->Prop
structure Base where
 n:Nat
 G:Nat->Prop
def Good(B:Base)(L:Nat->Prop)(own:Bool)(b:Nat):Prop:=¬L b/\(own=true->B.n<=b)/\(b<B.n->B.G b)
inductive bJ(B:Base)(L:Nat->Prop)(m:Mm)(w:World):AV->Value->Prop
 |w {own full:Bool} {p:PV} {v:Value}:Rep (Good B L own) w p v->(full=true->∀a n c,v=.slice a n c->n=c)->bJ B L m w (.w own full p) v
 |ptr {id ver off b C:Nat}:m.dom id->ver<=m.top id->m.addr id ver=some (b,C)->ver<=C->bJ B L m w (.ptr id ver off) (.pointer (some ⟨b,off,none⟩))
 |msl {id ver sz off n cap:Nat} {a:Option Addr}:m.dom id->ver<=m.top id->n<=cap ->
   (m.addr id ver=none->cap=0/\ver=0) ->
   (∀b C,m.addr id ver=some (b,C)->(0<cap->a=some ⟨b,off,none⟩)/\off+cap*sz<=C/\ver<=off+cap*sz) ->
   bJ B L m w (.msl id ver sz off n) (.slice a n cap)
 |mp {id b:Nat}:m.dom id->1<=m.top id->m.addr id 1=some (b,0)->bJ B L m w (.mp id) (.map (some b))
 |agg {cs:List AV} {vs:Array Value}:cs.length=vs.size->(∀(j:Nat)(p:AV)(v:Value),cs[j]?=some p->vs[j]?=some v->bJ B L m w p v)->bJ B L m w (.agg cs) (.agg vs)
 |tup {cs:List AV} {vs:Array Value}:cs.length=vs.size->(∀(j:Nat)(p:AV)(v:Value),cs[j]?=some p->vs[j]?=some v->bJ B L m w p v)->bJ B L m w (.tup cs) (.tuple vs)
 |fn {f:FuncId} {cap:List AV} {vs:Array Value}:cap.length=vs.size->(∀(j:Nat)(p:AV)(v:Value),cap[j]?=some p->vs[j]?=some v->bJ B L m w p v)->bJ B L m w (.fn f cap) (.func (.func f) #[] vs)
structure Mm.le(m m':Mm):Prop where
 dom:∀id,m.dom id->m'.dom id
 top:∀id,m.dom id->m.top id<=m'.top id
 addr:∀id ver,m.dom id->ver<=m.top id->m'.addr id ver=m.addr id ver
theorem Mm.le.refl(m:Mm):m.le m:=⟨λ_ h=>h,λ_ _=>bS _,λ_ _ _ _=>rfl⟩
theorem Mm.le.trans{a b c:Mm}(h:a.le b)(k:b.le c):a.le c:=
 ⟨λid hd=>k.dom id (h.dom id hd),λid hd=>dJ (h.top id hd) (k.top id (h.dom id hd)),
   λid ver hd hv=>(k.addr id ver (h.dom id hd) (dJ hv (h.top id hd))).trans (h.addr id ver hd hv)⟩
theorem bJ.mono{B:Base}{L L':Nat->Prop}{m m':Mm}{w w':World}{p:AV}{v:Value}(h:bJ B L m w p v)(hm:m.le m')(hL:∀b,b<w.heap.size->¬L b->¬L' b)(hw:∀b,b<w.heap.size->¬L b->w'.heap[b]?=w.heap[b]?):bJ B L' m' w' p v:=by
 induction h with
 |w hr hf=>exact .w (hr.mono (λb hb hg=>⟨hL b hb hg.1,hg.2⟩) (λb hb hg=>hw b hb hg.1)) hf
 |ptr hd ht ha hC=>exact .ptr (hm.dom _ hd) (dJ ht (hm.top _ hd)) ((hm.addr _ _ hd ht).trans ha) hC
 |mp hd ht ha=>exact .mp (hm.dom _ hd) (dJ ht (hm.top _ hd)) ((hm.addr _ _ hd ht).trans ha)
 |msl hd ht hn h0 h1=>
  refine .msl (hm.dom _ hd) (dJ ht (hm.top _ hd)) hn (λe=>h0 ((hm.addr _ _ hd ht).symm.trans e)) (λb C e=>h1 b C ((hm.addr _ _ hd ht).symm.trans e))
 |agg hl _ ih=>exact .agg hl ih
 |tup hl _ ih=>exact .tup hl ih
 |fn hl _ ih=>exact .fn hl ih
abbrev Env:=List (Nat×AV)
abbrev bE:=List (Nat×List AV)
def get:Env->Nat->AV
 |[],_=>.w false false .undef
 |(k,v)::r,t=>if k=t then v else get r t
def cJ:bE->Nat->Option (List AV)
 |[],_=>none
 |(k,v)::r,t=>if k=t then some v else cJ r t
def dQ:bE->Nat->List AV->bE
 |[],_,_=>[]
 |(k,v)::r,t,x=>if k=t then (k,x)::r else (k,v)::dQ r t x
def put(env:Env):Option Nat->AV->Env
 |some d,v=>(d,v)::env
 |none,_=>env
def nD:Value->AV
 |.bool b=>.w false false (.bool b)
 |.int k n=>.w false false (.int k n)
 |.string s=>.w false false (.str s)
 |.slice none 0 0=>.w true true (.sl 0 [])
 |.pointer none=>.w true false .gX
 |.nilIface=>.w true false .lL
 |_=>.w false false .undef
def cst:Value->AV
 |.agg cs=>.agg (cs.toList.map nD)
 |.tuple cs=>.tup (cs.toList.map nD)
 |v=>nD v
def ev(env:Env):Operand->AV
 |.tmp t=>get env t
 |.const v=>cst v
 |.func f=>.fn f []
 |.global _=>.w false false .undef
def inI(k:IntKind)(n:Int):Prop:=k.min<=n/\n<=k.max
def tyL(P:Program)(t:TypeId):Option (Nat×Bool):=
 match P.info? t,P.underlying t with
 |some i,some (.struct _)=>some (i.size,true)
 |some i,some (.array _ _)=>some (i.size,true)
 |some i,some _=>some (i.size,false)
 |_,_=>none
def slE(P:Program)(t:TypeId):Option (TypeId×Nat):=
 match P.underlying t with
 |some (.slice e)=>(P.info? e).map λi=>(e,i.size)
 |_=>none
def arE(P:Program)(t:TypeId):Option (Nat×Nat):=
 match P.underlying t with
 |some (.array n e)=>(P.info? e).map λi=>(n,i.size)
 |_=>none
def isStr(P:Program)(t:TypeId):Bool:=
 match P.underlying t with
 |some .string=>true
 |_=>false
def fOf(P:Program)(s:TypeId)(k:Nat):Option (Nat×Nat×Bool):=
 match P.underlying s with
 |some (.struct fs)=>
  match fs[k]? with
  |some f=>(tyL P f.type).bind λ(z,a)=>if z=0 then none else some (f.offset,z,a)
  |none=>none
 |_=>none
def fw(P:Program)(t:TypeId):Option (List AV):=
 match P.info? t with
 |some i=>i.zero.map λz=>z.cells.toList.map nD
 |none=>none
def byE(P:Program)(e:TypeId):Option Nat:=(P.info? e).map (·.bytes)
def pls(P:Program)(t:TypeId):Option (List (Nat×Nat)):=
 match P.underlying t with
 |some (.struct fs)=>fs.toList.mapM λf=>(P.info? f.type).map λx=>(f.offset,x.size)
 |some (.array n e)=>(P.info? e).map λx=>(List.range n).map λi=>(i*x.size,x.size)
 |_=>none
def pC(P:Program)(t:TypeId):Option IntKind:=
 match P.underlying t with
 |some (.int k)=>some k
 |_=>none
def AV.cells:AV->List AV
 |.agg cs=>cs
 |.w own _ (.agg cs)=>cs.map (AV.w own false)
 |v=>[v]
def AV.ok:AV->Bool
 |.w _ _ .undef=>false
 |.w _ _ (.tup _)=>false
 |.tup _=>false
 |_=>true
def AV.one:AV->Bool
 |.w _ _ .undef=>false
 |.w _ _ (.tup _)=>false
 |.w _ _ (.agg _)=>false
 |.tup _=>false
 |.agg _=>false
 |_=>true
def AV.isAgg:AV->Bool
 |.agg _=>true
 |.w _ _ (.agg _)=>true
 |_=>false
def mG(l:List AV)(i:Nat):AV:=l.getD i (.w false false .undef)
def fg(l:List PV)(i:Nat):PV:=l.getD i .undef
def nth{α:Type}[Inhabited α](l:List α)(i:Nat):α:=l.getD i default
def setAt(cells:List AV)(off:Nat):List AV->List AV
 |[]=>cells
 |v::r=>setAt (cells.set off v) (off+1) r
def pD(place:Nat->Option (Nat×Nat))(cells:List AV):List (Nat×AV)->Option (List AV)
 |[]=>some cells
 |(i,v)::rest=>
  match place i with
  |none=>none
  |some (off,size)=>if v.ok=false\/v.cells.length≠size\/off+v.cells.length>cells.length then none else pD place (setAt cells off v.cells) rest
def jf(n:Nat)(zs:List AV):List AV:=(List.replicate n zs).flatten
def eqS:Nat->PV->PV->Option Bool
 |1,.int k a,.int k' b=>if k=k' then some (decide (a=b)) else none
 |0,.bool a,.bool b=>some (a==b)
 |2,.str a,.str b=>some (decide (a=b))
 |_,_,_=>none
def eqL:List Nat->List AV->List AV->Option Bool
 |[],[],[]=>some true
 |n::ns,.w _ _ a::x,.w _ _ b::y=>
  match eqS n a b with
  |some t=>match eqL ns x y with
   |some u=>some (t&&u)
   |none=>none
  |none=>none
 |_,_,_=>none
def lvF(lv:TypeId->Option (List Nat)):List Field->Nat->Option (List Nat)
 |[],_=>some []
 |f::fs,cur=>if f.name = "_" \/ f.offset≠cur then none else match lv f.type with
  |some k=>match lvF lv fs (cur+k.length) with
   |some r=>some (k++r)
   |none=>none
  |none=>none
def lvs(P:Program):Nat->TypeId->Option (List Nat)
 |0,_=>none
 |d+1,t=>
  match P.underlying t with
  |some .bool=>some [0]
  |some (.int _)=>some [1]
  |some .string=>some [2]
  |some (.struct fs)=>if P.stoodInHeld t then none else match P.info? t,lvF (lvs P d) fs.toList 0 with
   |some i,some r=>if i.size=r.length then some r else none
   |_,_=>none
  |some (.array n e)=>match lvs P d e,P.info? e,P.info? t with
   |some k,some i,some it=>if i.size=k.length/\it.size=n*k.length then some (List.replicate n k).flatten else none
   |_,_,_=>none
  |_=>none
def nE(P:Program)(t:TypeId):Option (List Nat):=
 match P.underlying t with
 |some (.struct _)|some (.array _ _)=>if P.eqGuardType P.depth t then none else lvs P 6 t
 |_=>none
def isBool(P:Program)(t:TypeId):Bool:=
 match P.underlying t with
 |some .bool=>true
 |_=>false
def nG(op:BinOp)(k:IntKind)(a b:Int):Option (Prop×PV):=
 match op with
 |.add=>some (inI k (a+b),.int k (a+b))
 |.sub=>some (inI k (a-b),.int k (a-b))
 |.mul=>some (inI k (a*b),.int k (a*b))
 |.quo=>some (b≠0/\inI k (a.tdiv b),.int k (a.tdiv b))
 |.rem=>some (b≠0,.int k (a.tmod b))
 |.shl=>if k=.i64 then some ((0<=b/\b<64)/\inI k (a*2 ^ b.toNat),.int k (a*2 ^ b.toNat)) else none
 |.shr=>if b=32/\k=.u64 then some (True,.int k (a / 4294967296)) else if b≠1/\k=.i64 then some (0<=b/\b<64,.int k (a / 2 ^ b.toNat)) else some (b=1,.int k (a / 2))
 |.and=>if b=4294967295/\k=.u64 then some (0<=a/\a<4294967296,.int k a) else if b=1/\k=.i64 then some (0<=a/\a<4294967296,.int k (a%2)) else none
 |.eql=>some (True,.bool (decide (a=b)))
 |.neq=>some (True,.bool (!decide (a=b)))
 |.lss=>some (True,.bool (decide (a<b)))
 |.leq=>some (True,.bool (decide (a<=b)))
 |.gtr=>some (True,.bool (decide (b<a)))
 |.geq=>some (True,.bool (decide (b<=a)))
 |_=>none
def bin(P:Program)(t:TypeId)(op:BinOp)(x y:PV):Option (Prop×PV):=
 match x,y with
 |.int k a,.int k' b=>if k=k' then nG op k a b else none
 |.str a,.str b=>
  match op with
  |.eql=>some (True,.bool (decide (a=b)))
  |.neq=>some (True,.bool (!decide (a=b)))
  |.add=>some (a.size+b.size<=1000000000000,.str (a++b))
  |_=>none
 |.bool a,.bool b=>
  bif isBool P t then match op with
  |.eql=>some (True,.bool (a==b))
  |.neq=>some (True,.bool (!(a==b)))
  |_=>none
  else none
 |_,_=>none
def qP:AV->Option Int
 |.w _ _ (.int _ a)=>some a
 |_=>none
def lov(ρ:Operand->AV):Option Operand->Option Int
 |none=>some 0
 |some o=>qP (ρ o)
def hiv(ρ:Operand->AV)(k:Nat):Option Operand->Option Int
 |none=>some k
 |some o=>qP (ρ o)
def Cl(P:Program)(ρ:Operand->AV)(t:TypeId)(x:AV)(lo hi mx:Option Operand):Option (Prop×AV×List (List AV)):=
 match isStr P t,x with
 |true,.w _ _ (.str s)=>
  match lov ρ lo,hiv ρ s.size hi,mx with
  |some l,some u,none=>some (0<=l/\l<=u/\u<=s.size,.w false false (.str (s.extract l.toNat u.toNat)),[])
  |_,_,_=>none
 |false,.w own _ (.ip cells off)=>
  match arE P t,lo,hi,mx with
  |some (n,sz),none,none,none=>some (off+n*sz<=cells.length/\0<n,.w own true (.sl n ((cells.drop off).take (n*sz))),[])
  |some (n,sz),none,some y,none=>match qP (ρ y) with
   |some u=>some (off+n*sz<=cells.length/\0<n/\0<=u/\u<=n,.w own false (.sl u.toNat ((cells.drop off).take (u.toNat*sz))),[])
   |none=>none
  |_,_,_,_=>none
 |_,_=>none
def Cm(t:TypeId):AV->AV
 |.w own _ p=>.w own false (.ifc t p)
 |_=>.w false false .undef
def Cn(P:Program)(t:TypeId):Bool:=
 match P.underlying t with
 |some (.interface _)=>false
 |some _=>true
 |none=>false
def uN(s:ByteArray)(k:Nat):Nat:=(s.data.toList.getD k 0).toNat
def gZ(l:List (PV×PV)):AV:=.w false false (.agg (l.map λp=>.agg [p.1,p.2]))
def dN:PV->Value
 |.int k n=>.int k n
 |.str s=>.string s
 |.bool b=>.bool b
 |_=>undef
def isLit:PV->Bool
 |.int _ _=>true
 |.str _=>true
 |.bool _=>true
 |_=>false
def sb:List PV->Option (List (PV×PV))
 |[]=>some []
 |.agg [a,b]::r=>(sb r).map ((a,b) :: ·)
 |_=>none
def fN:List AV->Option (List (PV×PV))
 |[.w _ _ (.agg ps)]=>sb ps
 |_=>none
def eqK:PV->PV->Bool
 |.str a,.str b=>decide (a=b)
 |.int k a,.int k' b=>decide (k=k')&&decide (a=b)
 |_,_=>false
def okK:TypeDesc->PV->Bool
 |.string,.str _=>true
 |.int k,.int k' _=>decide (k=k')
 |_,_=>false
def okM(d:TypeDesc)(kp:PV)(l:List (PV×PV)):Bool:=okK d kp&&l.all λp=>okK d p.1&&isLit p.2
def nH:List (PV×PV)->PV->Option PV
 |[],_=>none
 |p::r,k=>if eqK k p.1=true then some p.2 else nH r k
def jR:List (PV×PV)->PV->PV->List (PV×PV)
 |[],k,v=>[(k,v)]
 |p::r,k,v=>if eqK k p.1=true then (k,v)::r else p::jR r k v
def xM(P:Program)(t:TypeId):Option PV:=
 match (P.info? t).bind (·.zero) with
 |some (.int k n)=>some (.int k n)
 |some (.string s)=>some (.str s)
 |some (.bool b)=>some (.bool b)
 |_=>none
def nI(P:Program)(t:TypeId):Option (TypeDesc×PV):=
 match P.underlying t with
 |some (.map k e)=>match P.underlying k,xM P e with
  |some d,some z=>some (d,z)
  |_,_=>none
 |_=>none
def lkR(c:Bool)(r:Option PV)(z:PV):AV:=
 match c,r with
 |true,some v=>.w false false (.tup [v,.bool true])
 |true,none=>.w false false (.tup [z,.bool false])
 |false,some v=>.w false false v
 |false,none=>.w false false z
def lkV(P:Program)(t:TypeId)(cells:Option (List AV))(k:AV)(c:Bool):Option (Prop×AV×List (List AV)):=
 match cells.bind fN,k,nI P t with
 |some l,.w _ _ kp,some (d,z)=>some (okM d kp l=true,lkR c (nH l kp) z,[])
 |_,_,_=>none
def mpC(h:bE):AV->Option (List AV)
 |.mp id=>cJ h id
 |_=>none
def sd{α:Type}(c:List α)(off cnt:Nat):List α:=if off=0/\cnt=c.length then c else (c.drop off).take cnt
theorem vX{α:Type}(c:List α)(off cnt:Nat):sd c off cnt=(c.drop off).take cnt:=by
 unfold sd;simp_all
def iN(h:bE)(sz:Nat):AV->Option (Nat×List AV×Prop)
 |.msl id ver z off k=>match cJ h id with
  |some c=>some (k,sd c off (k*sz),c.length=ver/\z=sz/\off+k*sz<=ver)
  |none=>none
 |.w own _ (.sl k c)=>some (k,c.map (AV.w own false),c.length=k*sz)
 |_=>none
def flat:PV->Bool
 |.undef=>true
 |.jQ=>true
 |.bool _=>true
 |.int _ _=>true
 |.str _=>true
 |.gX=>true
 |.lL=>true
 |_=>false
def jA:List PV->Bool
 |[]=>true
 |x::r=>flat x&&jA r
def pvs:List AV->Option (List PV)
 |[]=>some []
 |.w _ _ p::r=>match pvs r with
  |some q=>some (p::q)
  |none=>none
 |_=>none
def Co(P:Program)(h:bE)(t tx:TypeId)(s x:AV):Option (Prop×AV×List (List AV)):=
 match slE P t,slE P tx with
 |some (e,sz),some _=>
  match byE P e,fw P e,iN h sz x with
  |some by_,some z,some (k2,news,c)=>
   match s with
   |.w own true (.sl k cells)=>
    match pvs news with
    |some q=>some ((c/\cells.length=k*sz/\z.length=sz/\0<sz/\k+k2<=1000000000/\by_<=100000),.w (jA q&&(own || cells.isEmpty)) false (.sl (k+k2) (cells++q)),[])
    |none=>none
   |_=>none
  |_,_,_=>none
 |_,_=>none
def Cp(P:Program)(h:bE)(args:List AV)(tys:List TypeId):Option (Prop×AV×List (List AV)):=
 match args,tys with
 |[s,x],[t,tx]=>Co P h t tx s x
 |_,_=>none
def aOp(P:Program)(h:bE)(n:Nat)(ρ:Operand->AV):Op->Option (Prop×AV×List (List AV))
 |.move x | .assign x=>some (True,ρ x,[])
 |.pick c a b=>
  match ρ c with
  |.w _ _ (.bool t)=>
   match ρ a,ρ b with
   |.w _ _ (.bool x),.w _ _ (.bool y)=>some (True,.w false false (.bool (bif t then x else y)),[])
   |x,y=>some (True,bif t then x else y,[])
  |_=>none
 |.alloc t=>match fw P t with
  |some z=>some (True,.ptr n z.length 0,[z])
  |none=>none
 |.box _ x=>some ((ρ x).ok=true,.ptr n (ρ x).cells.length 0,[(ρ x).cells])
 |.build t parts=>match fw P t with
  |some z=>match pls P t with
   |some l=>match pD (l[·]?) z (parts.toList.map λ(i,x)=>(i,ρ x)) with
    |some cs=>some (True,.agg cs,[])
    |none=>none
   |none=>none
  |none=>none
 |.buildSlice t len parts=>match slE P t with
  |some (e,sz)=>match fw P e with
   |some z=>match pD (λi=>some (i*sz,sz)) (jf len z) (parts.toList.map λ(i,x)=>(i,ρ x)) with
    |some cs=>some (z.length=sz/\0<sz/\len*sz<=1000,.msl n cs.length sz 0 len,[cs])
    |none=>none
   |none=>none
  |none=>none
 |.load t a=>
  match tyL P t with
  |some (sz,g)=>
   match ρ a with
   |.ptr id ver off=>match cJ h id with
    |some cells=>bif g then some (cells.length=ver/\off+sz<=cells.length,.agg ((cells.drop off).take sz),[])
     else some (cells.length=ver/\off<cells.length,mG cells off,[])
    |none=>none
   |.w own _ (.ip cells off)=>bif g then some (off+sz<=cells.length,.w own false (.agg ((cells.drop off).take sz)),[])
     else some (off<cells.length,.w own false (fg cells off),[])
   |_=>none
  |none=>none
 |.nilCheck x=>match ρ x with
  |.ptr id ver off=>some (True,.ptr id ver off,[])
  |.w own f (.ip cells off)=>some (True,.w own f (.ip cells off),[])
  |.fn f c=>some (True,.fn f c,[])
  |.w own f (.fn g c)=>some (True,.w own f (.fn g c),[])
  |_=>none
 |.binOp op t x y _=>
  match nE P t with
  |some k=>match eqL k (ρ x).cells (ρ y).cells with
   |some b=>match op with
    |.eql=>some ((ρ x).isAgg=true/\(ρ y).isAgg=true,.w false false (.bool b),[])
    |.neq=>some ((ρ x).isAgg=true/\(ρ y).isAgg=true,.w false false (.bool (!b)),[])
    |_=>none
   |none=>none
  |none=>match ρ x,ρ y with
   |.w _ _ a,.w _ _ b=>match bin P t op a b with
    |some (c,v)=>some (c,.w false false v,[])
    |none=>none
   |_,_=>none
 |.unOp op _ x=>
  match op,ρ x with
  |.not,.w _ _ (.bool b)=>some (True,.w false false (.bool (!b)),[])
  |.neg,.w _ _ (.int k a)=>some (inI k (-a),.w false false (.int k (-a)),[])
  |_,_=>none
 |.convert src dst x=>
  match pC P src,pC P dst,ρ x with
  |some _,some k,.w _ _ (.int _ a)=>some (inI k a,.w false false (.int k a),[])
  |_,_,_=>none
 |.makeInterface t x=>bif Cn P t then some (True,Cm t (ρ x),[]) else none
 |.makeFunc (.func f) first captured=>if first.size=0 then some (True,.fn f (captured.toList.map ρ),[]) else none
 |.makeSlice t l c=>
  match slE P t,ρ l,ρ c with
  |some (e,sz),.w _ _ (.int _ a),.w _ _ (.int _ b)=>match fw P e,byE P e with
   |some z,some by_=>some (a=b/\0<=a/\a<=1000000000/\z.length=sz/\0<sz/\by_<=100000,.msl n (jf a.toNat z).length sz 0 a.toNat,[jf a.toNat z])
   |_,_=>none
  |_,_,_=>none
 |.slice t x lo hi mx=>
  match slE P t with
  |some (_,sz)=>
   match lov ρ lo,ρ x with
   |some l,.w own _ (.sl k cells)=>
    match hiv ρ k hi,mx with
    |some u,none=>some (0<=l/\l<=u/\u<=k,.w own false (.sl (u.toNat-l.toNat) ((cells.drop (l.toNat*sz)).take ((u.toNat-l.toNat)*sz))),[])
    |some u,some y=>match qP (ρ y),hi with
     |some q,some _=>some (0<=l/\l<=u/\u<=k/\q=u,.w own true (.sl (u.toNat-l.toNat) ((cells.drop (l.toNat*sz)).take ((u.toNat-l.toNat)*sz))),[])
     |_,_=>none
    |none,_=>none
   |some l,.msl id ver z off k=>
    match hiv ρ k hi,mx with
    |some u,none=>some (0<=l/\l<=u/\u<=k/\z=sz,.msl id ver z (off+l.toNat*sz) (u.toNat-l.toNat),[])
    |_,_=>none
   |_,_=>none
  |none=>Cl P ρ t (ρ x) lo hi mx
 |.fieldAddr s x f=>match fOf P s f with
  |some (o,_,_)=>match ρ x with
   |.ptr id ver off=>some (True,.ptr id ver (off+o),[])
   |.w own _ (.ip cells off)=>some (True,.w own false (.ip cells (off+o)),[])
   |_=>none
  |none=>none
 |.field s x f=>match fOf P s f with
  |some (o,z,g)=>match ρ x with
   |.agg cs=>bif g then some (o+z<=cs.length,.agg ((cs.drop o).take z),[]) else some (o<cs.length,mG cs o,[])
   |.w own _ (.agg cs)=>bif g then some (o+z<=cs.length,.w own false (.agg ((cs.drop o).take z)),[]) else some (o<cs.length,.w own false (fg cs o),[])
   |_=>none
  |none=>none
 |.indexAddr t x i=>
  match ρ i with
  |.w _ _ (.int _ j)=>
   match slE P t with
   |some (_,sz)=>match ρ x with
    |.w own _ (.sl k cells)=>some (0<=j/\j<k/\j.toNat*sz<cells.length,.w own false (.ip cells (j.toNat*sz)),[])
    |.msl id ver z off k=>some (0<=j/\j<k/\z=sz,.ptr id ver (off+j.toNat*sz),[])
    |_=>none
   |none=>match arE P t with
    |some (k,sz)=>match ρ x with
     |.ptr id ver off=>some (0<=j/\j<k,.ptr id ver (off+j.toNat*sz),[])
     |.w own _ (.ip cells off)=>some (0<=j/\j<k,.w own false (.ip cells (off+j.toNat*sz)),[])
     |_=>none
    |none=>none
  |_=>none
 |.index t x i=>
  match ρ i,ρ x with
  |.w _ _ (.int _ j),.w _ _ (.str s)=>bif isStr P t then some (0<=j/\j<s.size,.w false false (.int .u8 (uN s j.toNat)),[]) else none
  |_,_=>none
 |.lookup t x k c=>lkV P t (mpC h (ρ x)) (ρ k) c
 |.extract x i=>match ρ x with
  |.tup vs=>if i<vs.length then some (True,mG vs i,[]) else none
  |.w own _ (.tup vs)=>if i<vs.length then some (True,.w own false (fg vs i),[]) else none
  |_=>none
 |.call { callee:=.builtin .len,args:=args,argTypes:=tys } =>
  match args.toList,tys.toList with
  |[x],[t]=>match ρ x with
   |.w _ _ (.sl k _)=>match slE P t with
    |some _=>some (True,.w false false (.int .i64 k),[])
    |none=>none
   |.msl _ _ _ _ k=>match slE P t with
    |some _=>some (True,.w false false (.int .i64 k),[])
    |none=>none
   |.w _ _ (.str s)=>bif isStr P t then some (True,.w false false (.int .i64 s.size),[]) else none
   |_=>none
  |_,_=>none
 |.call { callee:=.builtin .max,args:=args,argTypes:=_ } =>
  match args.toList with
  |[x,y]=>match ρ x,ρ y with
   |.w _ _ (.int k a),.w _ _ (.int k' b)=>if k=k' then some (True,.w false false (.int k (if a<b then b else a)),[]) else none
   |_,_=>none
  |_=>none
 |.call { callee:=.builtin .min,args:=args,argTypes:=_ } =>
  match args.toList with
  |[x,y]=>match ρ x,ρ y with
   |.w _ _ (.int k a),.w _ _ (.int k' b)=>if k=k' then some (True,.w false false (.int k (if b<a then b else a)),[]) else none
   |_,_=>none
  |_=>none
 |.call { callee:=.builtin .append,args:=args,argTypes:=tys }=>Cp P h (args.toList.map ρ) tys.toList
 |_=>none
def frz(h:bE):Nat->AV->Option PV
 |_,.w _ _ p=>some p
 |0,_=>none
 |d+1,.ptr id ver off=>match cJ h id with
  |some cells=>if cells.length=ver then (cells.mapM (frz h d)).map λc=>.ip c off else none
  |none=>none
 |d+1,.msl id ver sz off n=>match cJ h id with
  |some cells=>if cells.length=ver then (cells.mapM (frz h d)).map λc=>.sl n (sd c off (n*sz)) else none
  |none=>none
 |d+1,.agg cs=>(cs.mapM (frz h d)).map .agg
 |d+1,.tup cs=>(cs.mapM (frz h d)).map .tup
 |d+1,.fn f c=>(c.mapM (frz h d)).map (.fn f)
 |_+1,.mp _=>none
def iO(c:List AV)(at_:Nat)(new:List AV):List AV:=if at_=c.length then c++new else c.take at_++new++c.drop (at_+new.length)
def eo:List AV->Bool
 |[]=>true
 |x::r=>x.one&&eo r
def LB(m:Mm)(h:bE)(b:Nat):Prop:=∃id cells C,(id,cells)∈h/\m.dom id/\m.addr id cells.length=some (b,C)
def jS:List AV->Bool
 |[.w _ _ (.agg _)]=>true
 |[.w _ _ .undef]=>true
 |_=>false
theorem zL{c:List AV}(h:jS c=true):c.length=1:=by
 unfold jS at h
 split at h<;>first|rfl|cases h
def oE(es:Array MapEntry)(l:List (PV×PV)):Prop:=l.length=es.size/\∀(j:Nat)(p:PV×PV)(e:MapEntry),l[j]?=some p->es[j]?=some e->e.key=dN p.1/\e.val=dN p.2
theorem Ff:∀l:List (PV×PV),sb (l.map λp=>PV.agg [p.1,p.2])=some l
 |[]=>rfl
 |p::r=>by simp[sb,Ff r]
theorem Fg(l:List (PV×PV)):fN [gZ l]=some l:=by
 simp[fN,gZ,Ff]
theorem Fh{es:Array MapEntry}{l:List (PV×PV)}(h:oE es l):∀l',fN [gZ l]=some l'->oE es l':=λl' e=>by
 rw[Fg] at e;simp_all
def Entry(B:Base)(L:Nat->Prop)(m:Mm)(w:World)(id:Nat)(cells:List AV):Prop:=
 m.top id=cells.length/\((m.addr id cells.length=none/\cells=[]) \/
  (∃b C cs e,m.addr id cells.length=some (b,C)/\w.heap[b]?=some (.cells cs e (0,0))/\cs.size=C/\cells.length<=C/\B.n<=b /\
    ∀(j:Nat)(p:AV)(v:Value),cells[j]?=some p->cs[j]?=some v->bJ B L m w p v) \/
  ∃b es clk,m.addr id cells.length=some (b,0)/\jS cells=true/\w.heap[b]?=some (.map es clk)/\B.n<=b/\∀l,fN cells=some l->oE es l)
structure cX(B:Base)(h:bE)(m:Mm)(w:World):Prop where
 entry:∀id cells,(id,cells)∈h->m.dom id->Entry B (LB m h) m w id cells
 inj:h.Pairwise λx y=>x.1≠y.1/\∀b C C',m.dom x.1->m.dom y.1->m.addr x.1 x.2.length=some (b,C)->m.addr y.1 y.2.length≠some (b,C')
theorem Addr.jT(b o i:Nat):(⟨b,o,none⟩:Addr).add i=⟨b,o+i,none⟩:=by unfold Addr.add;split<;>simp_all
section
variable{P:Program}{B:Base}{L:Nat->Prop}{m:Mm}{w:World}
theorem vY(v:Value):bJ B L m w (nD v) v:=by
 unfold nD;split
 .exact .w (.bool _) nofun
 .exact .w (.int _ _) nofun
 .exact .w (.str _) nofun
 .exact .w .slnil (λ_ a n c h=>ak)
 .exact .w .gX nofun
 .exact .w .lL nofun
 .exact .w (.undef _) nofun
theorem fX{α β:Type}{f:α->β}{l:List α}{j:Nat}{y:β}(h:(l.map f)[j]?=some y):∃x,l[j]?=some x/\f x=y:=by
 rw[im] at h;simp_all
theorem L5(v:Value):bJ B L m w (cst v) v:=by
 unfold cst;split
 .rename_i cs;refine .agg ae (λj p v hp hv=>?_);obtain⟨x,hx,rfl⟩:=fX hp;rw[iW] at hx
  obtain rfl:x=v:=by rw[hx] at hv;injection hv
  exact vY _
 .rename_i cs;refine .tup ae (λj p v hp hv=>?_);obtain⟨x,hx,rfl⟩:=fX hp;rw[iW] at hx
  obtain rfl:x=v:=by rw[hx] at hv;injection hv
  exact vY _
 .exact vY _
theorem ma{env:Env}{a:Act}(x:Operand)(h:∀t,x=.tmp t->bJ B L m w (get env t) (a.tmps.getD t undef)):bJ B L m w (ev env x) (a.eval x):=by
 cases x with
 |tmp t=>exact h t rfl
 |const v=>exact L5 v
 |global g=>exact .w (.undef _) nofun
 |func f=>exact .fn rfl (λj p v hp=>by simp at hp)
theorem fR{h:bE}{id:Nat}{c:List AV}(e:cJ h id=some c):(id,c)∈h:=by
 induction h with
 |nil=>cases e
 |cons x r ih=>
  obtain⟨k,v⟩:=x;simp only[cJ] at e
  grind
theorem cX.read{h:bE}(hs:cX B h m w){id:Nat}{cells:List AV}(hin:(id,cells)∈h)(hd:m.dom id){b C:Nat}(ha:m.addr id cells.length=some (b,C))(hC:cells.length<=C):∃cs e,w.heap[b]?=some (.cells cs e (0,0))/\cs.size=C/\cells.length<=C/\B.n<=b/\∀(j:Nat)(p:AV)(v:Value),cells[j]?=some p->cs[j]?=some v->bJ B (LB m h) m w p v:=by
 rcases (hs.entry id cells hin hd).2 with ⟨h0,_⟩|⟨b',C',cs,e,h1,h2,h3,h4,h5,h6⟩|⟨b',es,clk,h1,h2,_,_,_⟩
 .rw[h0] at ha;cases ha
 .rw[h1] at ha;grind
 .have:=zL h2;rw[h1] at ha;grind
theorem oe{b j:Nat}{cs:Array Value}{e:TypeId}{f:Nat×Nat}(h:w.heap[b]?=some (.cells cs e f)):w.cell? ⟨b,j,none⟩=cs[j]?:=by
 simp[World.cell?,h]
theorem Fj(b off:Nat){t:TypeId}{sz:Nat}{g:Bool}(ht:tyL P t=some (sz,g))(vals:Nat->Value)(hc:∀j,j<(bif g then sz else 1)->w.cell? ⟨b,off+j,none⟩=some (vals j)):(Instr.loadAt t (.pointer (some ⟨b,off,none⟩))).run P w=.ok (bif g then .agg ((List.range sz).map vals).toArray else vals 0) w:=by
 have hl:∀i:TypeInfo,i.size=sz->g=true->(loadCells ⟨b,off,none⟩ i.size).run P w=.ok ((List.range sz).map vals).toArray w:=by
  intro i hi hg;subst hi hg
  have hl:=run_loadCells_list (P:=P) w ⟨b,off,none⟩ ((List.range i.size).map vals) (λj v hj=>by
   obtain⟨x,hx,rfl⟩:=fX hj;obtain⟨a9,rfl⟩:=eX.1 hx;simp only[rz] at a9
   rw[Addr.jT];simp only[tG];exact hc _ (by simpa using a9))
  simp_all
 unfold tyL at ht;split at ht
 .rename_i i _ hi hu;simp only[db,dC] at ht;obtain⟨h1,rfl⟩:=ht;simp[Instr.loadAt,Instr.sureAddr,loadVar,isAgg,run_underlying hu,sizeOf,typeInfo,hi,hl i h1 rfl]
 .rename_i i _ _ hi hu;simp only[db,dC] at ht;obtain⟨h1,rfl⟩:=ht;simp[Instr.loadAt,Instr.sureAddr,loadVar,isAgg,run_underlying hu,sizeOf,typeInfo,hi,hl i h1 rfl]
 .rename_i i d en em hi hu;simp only[db,dC] at ht;obtain⟨h1,rfl⟩:=ht;have h0:=hc 0 ae;simp only[m8] at h0
  have ay:(isAgg t).run P w=.ok false w:=by
   unfold isAgg;simp only[Sem.run_bind,run_underlying hu,Result.andThen_ok];rfl
  simp[Instr.loadAt,Instr.sureAddr,loadVar,ay,h0]
 .cases ht
end
def fT(P:Program)(B:Base)(H:bE)(m:Mm)(w:World)(r:Sem Next)(v:AV):Prop:=
 ∃v',r.run P w=.ok (.value v') w/\bJ B (LB m H) m w v v'
section
variable{P:Program}{B:Base}{L:Nat->Prop}{m:Mm}{w:World}
theorem bJ.hY{o f:Bool}{k:IntKind}{n:Int}{v:Value}(h:bJ B L m w (.w o f (.int k n)) v):v=.int k n:=by
 cases h with|w h _=>cases h;rfl
theorem bJ.kZ{o f:Bool}{b:Bool}{v:Value}(h:bJ B L m w (.w o f (.bool b)) v):v=.bool b:=by
 cases h with|w h _=>cases h;rfl
theorem bJ.pE{o f:Bool}{b:ByteArray}{v:Value}(h:bJ B L m w (.w o f (.str b)) v):v=.string b:=by
 cases h with|w h _=>cases h;rfl
theorem gq(k:IntKind)(n:Int):bJ B L m w (.w false false (.int k n)) (.int k n):=.w (.int _ _) nofun
theorem iL(b:Bool):bJ B L m w (.w false false (.bool b)) (.bool b):=.w (.bool _) nofun
theorem Fl(b:ByteArray):bJ B L m w (.w false false (.str b)) (.string b):=.w (.str _) nofun
theorem T7{o f:Bool}{p:PV}{v:Value}{q:PV}(_:bJ B L m w (.w o f p) v){u:Value}(h:Rep (Good B L o) w q u):bJ B L m w (.w o false q) u:=.w h nofun
theorem bJ.Cq{o f:Bool}{cs:List PV}{v:Value}(h:bJ B L m w (.w o f (.agg cs)) v):∃vs:Array Value,v=.agg vs/\cs.length=vs.size/\∀(j:Nat)(p:PV)(u:Value),cs[j]?=some p->vs[j]?=some u->Rep (Good B L o) w p u:=by
 cases h with|w h _=>cases h with|agg hl hr=>grind
theorem vZ{x:AV}{v:Value}(h:bJ B L m w x v)(br:x.ok=true):x.cells.length=v.cells.size/\∀(j:Nat)(p:AV)(u:Value),x.cells[j]?=some p->v.cells[j]?=some u->bJ B L m w p u:=by
 have one:∀{x:AV}{v:Value},bJ B L m w x v->v.cells=#[v]->x.cells=[x]->x.cells.length=v.cells.size /\
  ∀(j:Nat)(p:AV)(u:Value),x.cells[j]?=some p->v.cells[j]?=some u->bJ B L m w p u:=by
  grind
 cases x with
 |w o f q=>
  cases q with
  |agg cs=>
   obtain⟨vs,rfl,hl,hr⟩:=h.Cq;refine⟨by simpa[AV.cells,Value.cells] using hl,λj p u hp hu=>?_⟩;obtain⟨y,hy,rfl⟩:=fX aE;exact .w (hr j y u hy aE) nofun
  |undef=>cases br
  |tup vs=>cases br
  |_=>exact one h (by cases h with|w h _=>cases h<;>rfl) rfl
 |ptr id ver off=>exact one h (by cases h;rfl) rfl
 |msl id ver sz off n=>exact one h (by cases h;rfl) rfl
 |mp id=>exact one h (by cases h;rfl) rfl
 |agg cs=>
  cases h with
  |agg hl hr=>trivial
 |tup cs=>cases br
 |fn f c=>exact one h (by cases h;rfl) rfl
theorem zM(a b:Int):(a==b)=decide (a=b):=by
 by_cases h:a=b<;>simp[h]
theorem nh{k:IntKind}{n:Int}(h:inI k n):k.wrap n=n:=by
 obtain⟨h1,h2⟩:=h
 cases k<;>simp[IntKind.wrap,IntKind.min,IntKind.max,IntKind.bits,IntKind.signed] at *<;>(try split)<;>omega
theorem L6{op:BinOp}{k:IntKind}{a b:Int}{c:Prop}{p:PV}(h:nG op k a b=some (c,p))(hc:c)(t:TypeId):∃v,(binOp op t (.int k a) (.int k b)).run P w=.ok v w/\bJ B L m w (.w false false p) v:=by
 by_cases cw:op=.shr/\b=32/\k=.u64
 .obtain⟨rfl,rfl,rfl⟩:=cw;simp only[nG,and_self,cz,db,dC] at h;obtain⟨rfl,rfl⟩:=h;have hm:min (Int.toNat 32) IntKind.u64.bits=32:=rfl
  have e:a.fdiv (2 ^ (32:Nat))=a / 4294967296:=by rw[JL _ af];rfl
  refine⟨.int .u64 (a / 4294967296),?_,gq _ _⟩;simp only[binOp,Op.shift,bP (show ¬(32:Int)<0 by decide),hm,e];rfl
 by_cases hand:op=.and
 .subst hand;simp only[nG] at h;split at h
  .rename_i hb;obtain⟨rfl,rfl⟩:=hb;cases h;obtain⟨n,rfl⟩:∃n:Nat,a=n:=⟨a.toNat,ab⟩
   have hn:n<4294967296:=ab
   refine⟨.int .u64 n,?_,gq _ _⟩
   have e:(BitVec.ofInt IntKind.u64.bits (n:Int) &&& BitVec.ofInt IntKind.u64.bits 4294967295).toNat=n:=by
    show (BitVec.ofInt 64 (n:Int) &&& BitVec.ofInt 64 4294967295).toNat=n;rw[BitVec.toNat_and,DJ,DJ]
    have e1:((n:Int)%((2 ^ 64:Nat):Int)).toNat=n:=ab
    have e2:((4294967295:Int)%((2 ^ 64:Nat):Int)).toNat=2 ^ 32-1:=af
    rw[e1,e2,TY];omega
   have hw:IntKind.u64.wrap (n:Int)=n:=nh aR;simp only[binOp,Op.intBits,e,hw];rfl
  .split at h
   .rename_i hb;obtain⟨rfl,rfl⟩:=hb;cases h;obtain⟨n,rfl⟩:∃n:Nat,a=n:=⟨a.toNat,ab⟩
    have hn:n<4294967296:=ab
    refine⟨.int .i64 ((n:Int)%2),?_,gq _ _⟩
    have e:(BitVec.ofInt IntKind.i64.bits (n:Int) &&& BitVec.ofInt IntKind.i64.bits 1).toNat=n%2:=by
     show (BitVec.ofInt 64 (n:Int) &&& BitVec.ofInt 64 1).toNat=n%2;rw[BitVec.toNat_and,DJ,DJ]
     have e1:((n:Int)%((2 ^ 64:Nat):Int)).toNat=n:=ab
     have e2:((1:Int)%((2 ^ 64:Nat):Int)).toNat=2 ^ 1-1:=af
     rw[e1,e2,TY]
    have hw:IntKind.i64.wrap ((n%2:Nat):Int)=(n:Int)%2:=by
     rw[nh aR];omega
    simp only[binOp,Op.intBits,e,hw];rfl
   .cases h
 by_cases cx:op=.shl
 .subst cx;simp only[nG] at h;split at h
  .rename_i hk;subst hk;cases h;obtain⟨⟨h0,h1⟩,h2⟩:=hc
   have hm:min b.toNat IntKind.i64.bits=b.toNat:=by simp[IntKind.bits];omega
   refine⟨.int .i64 (a*2 ^ b.toNat),?_,gq _ _⟩;simp only[binOp,Op.shift,bP (show ¬b<0 by omega),hm,nh h2];rfl
  .cases h
 by_cases er:op=.shr/\b≠1/\k=.i64
 .obtain⟨rfl,hb,rfl⟩:=er;simp only[nG] at h;rw[bP (λh=>by cases h.2),b8 ⟨hb,aE⟩] at h;cases h
  have hm:min b.toNat IntKind.i64.bits=b.toNat:=by simp[IntKind.bits];omega
  have e:a.fdiv (2 ^ b.toNat)=a / 2 ^ b.toNat:=JL _ (Int.le_of_lt (Int.pow_pos af));refine⟨.int .i64 (a / 2 ^ b.toNat),?_,gq _ _⟩;simp only[binOp,Op.shift,bP (show ¬b<0 by omega),hm,e];rfl
 have dw:op=.shr->nG op k a b=some (b=1,.int k (a / 2)):=by
  rintro rfl
  simp only[nG];rw[bP (λh=>cw ⟨rfl,h.1,h.2⟩),bP (λh=>er ⟨rfl,h.1,h.2⟩)]
 cases op<;>first|(rw[dw rfl] at h)|(simp only[nG] at h)<;>first|(cases h;done)|(exact absurd rfl hand)|(exact absurd rfl cx)|skip
 all_goals cases h
 .exact⟨_,by simp[binOp,Op.intArith,nh hc],gq _ _⟩
 .exact⟨_,by simp[binOp,Op.intArith,nh hc],gq _ _⟩
 .exact⟨_,by simp[binOp,Op.intArith,nh hc],gq _ _⟩
 .exact⟨_,by simp[binOp,Op.intDiv,hc.1,nh hc.2],gq _ _⟩
 .exact⟨_,by simp[binOp,Op.intDiv,hc],gq _ _⟩
 .subst hc
  have hm:min (Int.toNat 1) k.bits=1:=by cases k<;>rfl
  have e:a.fdiv (2 ^ (1:Nat))=a / 2:=by rw[JL _ af];rfl
  refine⟨.int k (a / 2),?_,gq _ _⟩;simp only[binOp,Op.shift,bP (show ¬(1:Int)<0 by decide),hm,e];rfl
 .exact⟨_,by simp[binOp,Op.intCmp,zM],iL _⟩
 .exact⟨_,by simp[binOp,Op.intCmp,bne,zM],iL _⟩
 .exact⟨_,by simp[binOp,Op.intCmp],iL _⟩
 .exact⟨_,by simp[binOp,Op.intCmp],iL _⟩
 .exact⟨_,by simp[binOp,Op.intCmp],iL _⟩
 .exact⟨_,by simp[binOp,Op.intCmp],iL _⟩
end
section
variable{P:Program}{B:Base}{L:Nat->Prop}{m:Mm}{w:World}
theorem zN(a b:ByteArray):(a.toList==b.toList)=decide (a=b):=by
 by_cases h:a=b
 .subst h;simp
 .simp only[h,decide_false];rw[beq_eq_false_iff_ne];intro he;rw[ByteArray.toList_eq,ByteArray.toList_eq] at he;apply h;obtain⟨⟨x⟩⟩:=a;simp_all
theorem L8{t:TypeId}{op:BinOp}{x y p:PV}{c:Prop}{vx vy:Value}{ox fx oy fy:Bool}(h:bin P t op x y=some (c,p))(hc:c)(hx:bJ B L m w (.w ox fx x) vx)(hy:bJ B L m w (.w oy fy y) vy):(∃v,(binOp op t vx vy).run P w=.ok v w/\bJ B L m w (.w false false p) v)/\((∃k n,vx=.int k n)\/(∃s,vx=.string s)\/(∃s,vx=.bool s)):=by
 unfold bin at h;split at h
 .rename_i k a k' b;obtain rfl:=hx.hY;obtain rfl:=hy.hY;split at h
  .rename_i hk;subst hk;exact⟨L6 h hc t,.inl ⟨_,_,rfl⟩⟩
  .cases h
 .rename_i a b;obtain rfl:=hx.pE;obtain rfl:=hy.pE;refine⟨?_,.inr (.inl ⟨_,rfl⟩)⟩;split at h
  .cases h;exact⟨_,by simp[binOp,Op.stringOp,zN],iL _⟩
  .cases h;exact⟨_,by simp[binOp,Op.stringOp,zN],iL _⟩
  .cases h;refine⟨_,?_,Fl _⟩
   have:¬(((a.size+b.size:Nat):Int)>IntKind.i64.max):=by simp[IntKind.max,IntKind.signed,IntKind.bits];omega
   simp only[binOp,Op.stringOp,bP this];rfl
  .cases h
 .rename_i a b;obtain rfl:=hx.kZ;obtain rfl:=hy.kZ;refine⟨?_,.inr (.inr ⟨_,rfl⟩)⟩
  have hu:isBool P t=true->P.underlying t=some .bool:=by
   intro hb;unfold isBool at hb
   grind
  cases hb:isBool P t with
  |false=>rw[hb] at h;cases h
  |true=>
   rw[hb] at h;simp only[cond_true] at h
   have he:=λd=>run_equalIn_bool' (P:=P) w d t a b (hu hb)
   split at h
   .cases h;exact⟨_,by simp[binOp,Op.equal,Op.maxDepth,he 9999],iL _⟩
   .cases h;exact⟨_,by simp[binOp,Op.equal,Op.maxDepth,he 9999],iL _⟩
   .cases h
 .cases h
theorem zO:∀{k r:List Nat}{xs ys:List AV}{b:Bool},eqL (k++r) xs ys=some b->∃b1 b2,eqL k (xs.take k.length) (ys.take k.length)=some b1/\eqL r (xs.drop k.length) (ys.drop k.length)=some b2/\b=(b1&&b2)
 |[],r,xs,ys,b,h=>⟨true,b,by simp[eqL],av,ae⟩
 |n::k,r,xs,ys,b,h=>by
  cases xs with
  |nil=>trivial
  |cons x xs=>
   cases ys with
   |nil=>cases x<;>simp[eqL] at h
   |cons y ys=>
    cases x with
    |w o f p=>
     cases y with
     |w o' f' q=>
      simp only[qm,eqL] at h
      cases hs:eqS n p q with
      |none=>grind
      |some t=>
       simp only[hs] at h
       cases hr:eqL (k++r) xs ys with
       |none=>grind
       |some u=>
        simp only[hr,db] at h;obtain⟨b1,b2,h1,h2,h3⟩:=zO hr;exact⟨t&&b1,b2,by simp[eqL,hs,h1],ak,by rw[<-h,h3,Bool.and_assoc]⟩
     |_=>simp[eqL] at h
    |_=>simp[eqL] at h
theorem qw:∀{k:List Nat}{xs ys:List AV}{b:Bool},eqL k xs ys=some b->xs.length=k.length/\ys.length=k.length
 |[],xs,ys,b,h=>by cases xs with
  |nil=>cases ys with
   |nil=>trivial
   |cons y ys=>trivial
  |cons x xs=>cases x<;>simp[eqL] at h
 |n::k,xs,ys,b,h=>by
  cases xs with
  |nil=>trivial
  |cons x xs=>
   cases ys with
   |nil=>cases x<;>simp[eqL] at h
   |cons y ys=>
    cases x with
    |w o f p=>
     cases y with
     |w o' f' q=>
      simp only[eqL] at h
      cases hs:eqS n p q with
      |none=>grind
      |some t=>
       simp only[hs] at h
       cases hr:eqL k xs ys with
       |none=>grind
       |some u=>have:=qw hr;simp_all
     |_=>simp[eqL] at h
    |_=>simp[eqL] at h
def Leaves(B:Base)(L:Nat->Prop)(m:Mm)(w:World)(xs:List AV)(vs:Array Value)(off:Nat):Prop:=
 ∀(j:Nat)(p:AV),xs[j]?=some p->∃v,vs[off+j]?=some v/\bJ B L m w p v
theorem Leaves.take{xs:List AV}{vs:Array Value}{off:Nat}(h:Leaves B L m w xs vs off)(k:Nat):Leaves B L m w (xs.take k) vs off:=by
 intro j p hp;rw[j5] at hp;split at hp
 .exact h j p hp
 .cases hp
theorem Leaves.drop{xs:List AV}{vs:Array Value}{off:Nat}(h:Leaves B L m w xs vs off)(k:Nat):Leaves B L m w (xs.drop k) vs (off+k):=by
 intro j p hp;rw[yB] at hp;obtain⟨v,hv,hr⟩:=h _ p hp
 grind
def hZ(P:Program)(t:TypeId)(vs:Array Value)(off n:Nat)(V:Value):Prop:=
 match P.underlying t with
 |some (.struct _)|some (.array _ _)=>V=.agg (vs.extract off (off+n))
 |_=>vs[off]?=some V
theorem wh{xs:List AV}{vs:Array Value}{off n:Nat}(h:Leaves B L m w xs vs off)(hn:xs.length=n):Leaves B L m w xs (vs.extract off (off+n)) 0:=by
 intro j p hp;obtain⟨v,hv,hr⟩:=h j p hp
 have hj:j<n:=by rw[<-hn];exact (eX.1 hp).1
 grind
theorem wi{t:TypeId}{d:Nat}{k:List Nat}(hl:lvs P d t=some k)(vs:Array Value)(off:Nat)(xs:List AV)(hx:Leaves B L m w xs vs off)(hn:xs.length=k.length):∃V,(part t vs off).run P w=.ok V w/\hZ P t vs off k.length V:=by
 cases d with
 |zero=>cases hl
 |succ d=>
  have scal:∀D:TypeDesc,P.underlying t=some D->(∀fs,D≠.struct fs)->(∀n e,D≠.array n e)->k.length=1->∃V,(part t vs off).run P w=.ok V w/\hZ P t vs off k.length V:=by
   intro D hu h1 h2 hk
   have ay:(isAgg t).run P w=.ok false w:=by
    unfold isAgg
    cases D<;>first|exact absurd rfl (h1 _)|exact absurd rfl (h2 _ _)|simp[run_underlying hu]
   cases xs with
   |nil=>rw[hk] at hn;cases hn
   |cons x xs=>
    obtain⟨v,hv,_⟩:=hx 0 x rfl;refine⟨v,?_,?_⟩
    .simp only[m8] at hv;simp[part,ay,hv]
    .unfold hZ;rw[hu];simp_all
  have aggr:∀(i:TypeInfo),(∃fs,P.underlying t=some (.struct fs))\/(∃n e,P.underlying t=some (.array n e))->P.info? t=some i->i.size=k.length->∃V,(part t vs off).run P w=.ok V w/\hZ P t vs off k.length V:=by
   intro i hu hi hs;refine⟨.agg (vs.extract off (off+k.length)),?_,?_⟩
   .rcases hu with ⟨fs,hu⟩|⟨n,e,hu⟩
    .simp[part,isAgg,run_underlying hu,sizeOf,typeInfo,hi,hs]
    .simp[part,isAgg,run_underlying hu,sizeOf,typeInfo,hi,hs]
   .unfold hZ
    rcases hu with ⟨fs,hu⟩|⟨n,e,hu⟩<;>rw[hu]
  unfold lvs at hl;split at hl
  .rename_i hu;cases hl;simp_all
  .rename_i hu;cases hl;simp_all
  .rename_i hu;cases hl;simp_all
  .rename_i fs hu;split at hl
   .cases hl
   .split at hl
    .simp_all
    .cases hl
  .rename_i n e hu;split at hl
   .rename_i k' i it _ _ co;split at hl
    .rename_i hs;cases hl;simp_all
    .cases hl
   .cases hl
  .cases hl
theorem Fo{d D:Nat}(ih:∀t k,lvs P d t=some k->∀(xs ys:List AV)(vs us:Array Value)(off a5:Nat)(b:Bool),eqL k xs ys=some b->Leaves B L m w xs vs off->Leaves B L m w ys us a5->∀V U,hZ P t vs off k.length V->hZ P t us a5 k.length U->(Op.equalIn D t V U).run P w=.ok b w)(vs us:Array Value):∀(fs:List Field)(cur:Nat)(r:List Nat),lvF (lvs P d) fs cur=some r->∀(xs ys:List AV)(b:Bool),eqL r xs ys=some b->Leaves B L m w xs vs cur->Leaves B L m w ys us cur->(Op.eqFields D vs us fs).run P w=.ok b w
 |[],cur,r,h,xs,ys,b,he,_,_=>by
  cases h
  cases xs with
  |nil=>cases ys with
   |nil=>simp[eqL] at he;subst he;rfl
   |cons y ys=>trivial
  |cons x xs=>cases x<;>simp[eqL] at he
 |f::fs,cur,r,h,xs,ys,b,he,hx,hy=>by
  simp only[lvF] at h;split at h
  .cases h
  .rename_i d9;obtain⟨h1,h2⟩:=not_or.1 d9;have h2:f.offset=cur:=Decidable.not_not.1 h2;split at h
   .rename_i k hk;split at h
    .rename_i r' b5;cases h;obtain⟨b1,b2,e1,e2,rfl⟩:=zO he;obtain⟨l1,l2⟩:=qw e1;obtain⟨V,hV,pV⟩:=wi hk vs cur _ (hx.take k.length) l1;obtain⟨U,hU,pU⟩:=wi hk us cur _ (hy.take k.length) l2;have hq:=ih f.type k hk _ _ vs us cur cur b1 e1 (hx.take _) (hy.take _) V U pV pU;have cv:=Fo ih vs us fs (cur+k.length) r' b5 _ _ b2 e2 (hx.drop _) (hy.drop _);simp only[Op.eqFields,ne_eq,h1,not_false_eq_true,cz,Sem.run_bind,h2,hV,hU,hq,Result.andThen_ok]
     split<;>simp_all
    .cases h
   .cases h
theorem Fp{d D e c:Nat}{k:List Nat}(hk:lvs P d e=some k)(hc:c=k.length)(ih:∀(xs ys:List AV)(vs us:Array Value)(off a5:Nat)(b:Bool),eqL k xs ys=some b->Leaves B L m w xs vs off->Leaves B L m w ys us a5->∀V U,hZ P e vs off k.length V->hZ P e us a5 k.length U->(Op.equalIn D e V U).run P w=.ok b w)(vs us:Array Value):∀(n s:Nat)(xs ys:List AV)(b:Bool),eqL (List.replicate n k).flatten xs ys=some b->Leaves B L m w xs vs (s*c)->Leaves B L m w ys us (s*c)->(Op.eqItems D e c vs us (List.range' s n)).run P w=.ok b w
 |0,s,xs,ys,b,he,_,_=>by
  cases xs with
  |nil=>cases ys with
   |nil=>simp[eqL] at he;subst he;rfl
   |cons y ys=>trivial
  |cons x xs=>cases x<;>simp[eqL] at he
 |n+1,s,xs,ys,b,he,hx,hy=>by
  rw[DK,List.flatten_cons] at he;obtain⟨b1,b2,e1,e2,rfl⟩:=zO he;obtain⟨l1,l2⟩:=qw e1;obtain⟨V,hV,pV⟩:=wi hk vs (s*c) _ (hx.take k.length) l1;obtain⟨U,hU,pU⟩:=wi hk us (s*c) _ (hy.take k.length) l2;have hq:=ih _ _ vs us (s*c) (s*c) b1 e1 (hx.take _) (hy.take _) V U pV pU
  have cq:s*c+k.length=(s+1)*c:=by rw[<-hc,iY,Nat.one_mul]
  have cv:=Fp hk hc ih vs us n (s+1) _ _ b2 e2 (by have:=hx.drop k.length;rwa [cq] at this) (by have:=hy.drop k.length;rwa [cq] at this);rw[List.range'_succ];simp only[Op.eqItems,Sem.run_bind,hV,hU,hq,Result.andThen_ok]
  split<;>simp_all
theorem zP:∀(d:Nat)(t:TypeId)(k:List Nat),lvs P d t=some k->∀D,d<=D->∀(xs ys:List AV)(vs us:Array Value)(off a5:Nat)(b:Bool),eqL k xs ys=some b->Leaves B L m w xs vs off->Leaves B L m w ys us a5->∀V U,hZ P t vs off k.length V->hZ P t us a5 k.length U->(Op.equalIn D t V U).run P w=.ok b w
 |0,t,k,h,_,_,_,_,_,_,_,_,_,_,_,_,_,_,_,_=>by cases h
 |d+1,t,k,h,D,hD,xs,ys,vs,us,off,a5,b,he,hx,hy,V,U,pV,pU=>by
  obtain⟨D,rfl⟩:∃D',D=D'+1:=⟨D-1,ab⟩
  have scal:∀q:Nat,k=[q]->(P.underlying t=some .bool/\q=0\/(∃k,P.underlying t=some (.int k))/\q=1\/P.underlying t=some .string/\q=2)->(Op.equalIn (D+1) t V U).run P w=.ok b w:=by
   intro q hk hu;subst hk;obtain⟨l1,l2⟩:=qw he
   match xs,ys,l1,l2 with
   |[x],[y],_,_=>
    cases x with
    |w o f p=>
     cases y with
     |w o' f' p'=>
      obtain⟨v,hv,rv⟩:=hx 0 _ rfl;obtain⟨u,cy,ru⟩:=hy 0 _ rfl;simp only[m8] at hv cy
      have e1:vs[off]?=some V:=by
       rcases hu with ⟨hu,_⟩|⟨⟨_,hu⟩,_⟩|⟨hu,_⟩<;>simpa[hZ,hu] using pV
      have e2:us[a5]?=some U:=by
       rcases hu with ⟨hu,_⟩|⟨⟨_,hu⟩,_⟩|⟨hu,_⟩<;>simpa[hZ,hu] using pU
      rw[e1] at hv;injection hv with hv;subst hv
      rw[e2] at cy;injection cy with cy;subst cy
      simp only[eqL] at he
      cases hs:eqS q p p' with
      |none=>simp[hs] at he
      |some r=>
       simp only[hs,db,iZ] at he;subst he;unfold eqS at hs;split at hs
       .obtain rfl:=rv.hY;obtain rfl:=ru.hY;split at hs
        .rename_i fq;subst fq
         injection hs with hs;subst hs
         rcases hu with ⟨_,h0⟩|⟨⟨k',hu⟩,_⟩|⟨_,h0⟩
         .cases h0
         .rw[run_equalIn_int w D t _ k' _ _ hu,zM]
         .cases h0
        .cases hs
       .obtain rfl:=rv.kZ;obtain rfl:=ru.kZ
        injection hs with hs;subst hs
        rcases hu with ⟨hu,_⟩|⟨_,h0⟩|⟨_,h0⟩
        .exact run_equalIn_bool' w D t _ _ hu
        .cases h0
        .cases h0
       .obtain rfl:=rv.pE;obtain rfl:=ru.pE
        injection hs with hs;subst hs
        rcases hu with ⟨_,h0⟩|⟨_,h0⟩|⟨hu,_⟩
        .cases h0
        .cases h0
        .rw[run_equalIn_string w D t _ _ hu,zN]
       .cases hs
     |_=>simp[eqL] at he
    |_=>simp[eqL] at he
  unfold lvs at h;split at h
  .rename_i hu;injection h with h;subst h;exact scal 0 rfl (.inl ⟨hu,rfl⟩)
  .rename_i hu;injection h with h;subst h;exact scal 1 rfl (.inr (.inl ⟨⟨_,hu⟩,rfl⟩))
  .rename_i hu;injection h with h;subst h;exact scal 2 rfl (.inr (.inr ⟨hu,rfl⟩))
  .rename_i fs hu;split at h
   .cases h
   .rename_i hp;split at h
    .rename_i i r hi hr;split at h
     .injection h with h;subst h
      have e1:V=.agg (vs.extract off (off+r.length)):=by simpa[hZ,hu] using pV
      have e2:U=.agg (us.extract a5 (a5+r.length)):=by simpa[hZ,hu] using pU
      subst e1;subst e2
      have hf:P.fieldsOf t=fs:=by simp[Program.fieldsOf,hu]
      rw[run_equalIn_struct w D t _ _ (by rw[hf];exact hu) aT,hf];obtain⟨l1,l2⟩:=qw he;exact Fo (λt k hk xs ys vs us off a5 b=>zP d t k hk D ab xs ys vs us off a5 b) _ _ fs.toList 0 r hr xs ys b he (wh hx l1) (wh hy l2)
     .cases h
    .cases h
  .rename_i n e hu;split at h
   .rename_i k' i it hk hi co;split at h
    .rename_i hs;injection h with h;subst h
     have e1:V=.agg (vs.extract off (off+(List.replicate n k').flatten.length)):=by simpa[hZ,hu] using pV
     have e2:U=.agg (us.extract a5 (a5+(List.replicate n k').flatten.length)):=by simpa[hZ,hu] using pU
     subst e1;subst e2;rw[run_equalIn_array w D _ _ hu hi,List.range_eq_range'];obtain⟨l1,l2⟩:=qw he
     have bm:P.cellsOf e=k'.length:=by simp[Program.cellsOf,hi,hs.1]
     exact Fp hk bm (λxs ys vs us off a5 b=>zP d e k' hk D ab xs ys vs us off a5 b) _ _ n 0 xs ys b he
      (by simpa using wh hx l1) (by simpa using wh hy l2)
    .cases h
   .cases h
  .cases h
end
section
variable{P:Program}{B:Base}{m:Mm}{w:World}{H h:bE}{n:Nat}{env:Env}{a:Act}
theorem Fq{L:Nat->Prop}{x:AV}{v:Value}(hx:bJ B L m w x v)(hg:x.isAgg=true):∃vs:Array Value,v=.agg vs/\x.cells.length=vs.size/\Leaves B L m w x.cells vs 0:=by
 have bu:x.ok=true:=by
  cases x with
  |w o f p=>cases p<;>first|rfl|(cases hg;done)
  |tup cs=>cases hg
  |_=>rfl
 obtain⟨h1,h2⟩:=vZ hx bu
 have hv:∃vs,v=.agg vs:=by
  cases x with
  |w o f p=>cases p with
   |agg cs=>obtain⟨vs,rfl,_⟩:=hx.Cq;simp
   |_=>cases hg
  |agg cs=>cases hx with|agg _ _=>simp
  |_=>cases hg
 obtain⟨vs,rfl⟩:=hv;refine⟨vs,rfl,h1,λj p hp=>?_⟩
 have hj:j<vs.size:=by rw[<-show x.cells.length=vs.size from h1];grind
 exact⟨vs[j],by simp[hj],h2 j p _ hp (by simp[Value.cells,hj])⟩
theorem bJ.pF{L:Nat->Prop}{id ver off:Nat}{v:Value}(h:bJ B L m w (.ptr id ver off) v):∃b C,v=.pointer (some ⟨b,off,none⟩)/\m.dom id/\(ver<=m.top id/\ver<=C)/\m.addr id ver=some (b,C):=by
 cases h with|ptr h1 h2 h3 h4=>simp_all
theorem bJ.qQ{L:Nat->Prop}{o f:Bool}{cells:List PV}{off:Nat}{v:Value}(h:bJ B L m w (.w o f (.ip cells off)) v):∃b o' vals,v=.pointer (some ⟨b,o'+off,none⟩)/\dK w b o' cells.length vals/\(cells≠[]->Good B L o b)/\∀(j:Nat)(p:PV),cells[j]?=some p->Rep (Good B L o) w p (vals j):=by
 cases h with|w h _=>cases h with|ip vals h1 h2 h3=>grind
theorem Fs(op:BinOp)(g4:op=.eql\/op=.neq)(t:TypeId)(x y:Operand)(yt:TypeId){k:List Nat}{r:Bool}(hq:nE P t=some k)(he:eqL k (ev env x).cells (ev env y).cells=some r)(hx:bJ B (LB m H) m w (ev env x) (a.eval x))(hy:bJ B (LB m H) m w (ev env y) (a.eval y))(gx:(ev env x).isAgg=true)(gy:(ev env y).isAgg=true)(o:Oper)(ho:o.op=.binOp op t x y yt):fT P B H m w (execOp a.eval o) (.w false false (.bool (if op=.eql then r else !r))):=by
 obtain⟨vs,ew,l1,lx⟩:=Fq hx gx;obtain⟨us,eu,l2,ly⟩:=Fq hy gy;obtain⟨e1,e2⟩:=qw he;unfold nE at hq
 have main:P.eqGuardType P.depth t=false->lvs P 6 t=some k->(∃fs,P.underlying t=some (.struct fs))\/(∃n e,P.underlying t=some (.array n e)) ->
  fT P B H m w (execOp a.eval o) (.w false false (.bool (if op=.eql then r else !r))):=by
  intro hg hl hu;have a4:=zP (w:=w) 6 t k hl Op.maxDepth (by simp[Op.maxDepth]) _ _ vs us 0 0 r he lx ly (.agg vs) (.agg us)
   (by
     have:vs.extract 0 (0+k.length)=vs:=by rw[eI,<-e1,l1];simp
     rcases hu with ⟨fs,hu⟩|⟨n,e,hu⟩<;>simp[hZ,hu]<;>(rw[eI] at this;exact this.symm))
   (by
     have:us.extract 0 (0+k.length)=us:=by rw[eI,<-e2,l2];simp
     rcases hu with ⟨fs,hu⟩|⟨n,e,hu⟩<;>simp[hZ,hu]<;>(rw[eI] at this;exact this.symm))
  rcases g4 with rfl|rfl
  .exact⟨_,by simp[execOp,ho,eqGuard,ew,eu,hg,binOp,Op.equal,a4],iL _⟩
  .exact⟨_,by simp[execOp,ho,eqGuard,ew,eu,hg,binOp,Op.equal,a4],iL _⟩
 grind
theorem L9(op:BinOp)(t:TypeId)(x y:Operand)(yt:TypeId){p q r:PV}{ox fx oy fy:Bool}{c:Prop}(ex:ev env x=.w ox fx p)(ey:ev env y=.w oy fy q)(hb:bin P t op p q=some (c,r))(hc:c)(hx:bJ B (LB m H) m w (ev env x) (a.eval x))(hy:bJ B (LB m H) m w (ev env y) (a.eval y))(o:Oper)(ho:o.op=.binOp op t x y yt):fT P B H m w (execOp a.eval o) (.w false false r):=by
 rw[ex] at hx;rw[ey] at hy;obtain⟨⟨v,hv,hr⟩,hk⟩:=L8 hb hc hx hy;refine⟨v,?_,hr⟩
 have hg:(eqGuard op t x y (a.eval x) (a.eval y)).run P w=.ok () w:=by
  unfold eqGuard
  rcases hk with ⟨k,n,e⟩|⟨s,e⟩|⟨s,e⟩<;>rw[e]<;>cases op<;>rfl
 simp[execOp,ho,hg,hv]
theorem Ma(t:TypeId)(x:Operand)(o:Oper)(ho:o.op=.makeInterface t x){c:Prop}{v:AV}{E:List (List AV)}(h0:aOp P h n (ev env) (.makeInterface t x)=some (c,v,E))(hx:bJ B (LB m H) m w (ev env x) (a.eval x)):E=[]/\fT P B H m w (execOp a.eval o) v:=by
 simp only[aOp] at h0
 cases hn:Cn P t with
 |false=>rw[hn] at h0;cases h0
 |true=>
  rw[hn] at h0;simp only[cond_true,db,dC] at h0;obtain⟨rfl,rfl,rfl⟩:=h0;refine⟨rfl,.iface t (a.eval x),?_,?_⟩
  .unfold Cn at hn;split at hn
   .cases hn
   .rename_i d hd hu;simp only[execOp,ho,Instr.makeInterface,Sem.run_bind,run_underlying hu,Result.andThen_ok]
    cases d<;>first|rfl|exact absurd rfl (hd _)
   .cases hn
  .unfold Cm;split
   .rename_i own f p e;rw[e] at hx
    cases hx with|w hr _=>exact .w (.ifc hr) (λ_ _ _ _ h=>au)
   .exact .w (.undef _) nofun
theorem Rg(op:UnOp)(t:TypeId)(x:Operand)(o:Oper)(ho:o.op=.unOp op t x){c:Prop}{v:AV}{E:List (List AV)}(h0:aOp P h n (ev env) (.unOp op t x)=some (c,v,E))(hc:c)(hx:bJ B (LB m H) m w (ev env x) (a.eval x)):E=[]/\fT P B H m w (execOp a.eval o) v:=by
 simp only[aOp] at h0;split at h0
 .rename_i o' f' b e;cases h0;rw[e] at hx;exact⟨rfl,_,by simp[execOp,ho,hx.kZ,Op.unary],iL _⟩
 .rename_i o' f' k b e;cases h0;rw[e] at hx
  have:(0:Int)-b=-b:=ab
  exact⟨rfl,_,by simp[execOp,ho,hx.hY,Op.unary,Op.intArith,this,nh hc],gq _ _⟩
 .cases h0
theorem Mb(src dst:TypeId)(x:Operand)(o:Oper)(ho:o.op=.convert src dst x){c:Prop}{v:AV}{E:List (List AV)}(h0:aOp P h n (ev env) (.convert src dst x)=some (c,v,E))(hc:c)(hx:bJ B (LB m H) m w (ev env x) (a.eval x)):E=[]/\fT P B H m w (execOp a.eval o) v:=by
 simp only[aOp] at h0;split at h0
 .rename_i ks k o' f' k' b fv hk e;cases h0;rw[e] at hx
  have hd:∃d,P.underlying src=some d:=by
   unfold pC at fv
   grind
  obtain⟨d,hd⟩:=hd;unfold pC at hk;split at hk
  .rename_i hu;cases hk;exact⟨rfl,_,by simp[execOp,ho,hx.hY,convert,run_underlying hd,run_underlying hu,Conv.intToInt,nh hc],gq _ _⟩
  .cases hk
 .cases h0
theorem Mc(c0 x y:Operand)(o:Oper)(ho:o.op=.pick c0 x y){c:Prop}{v:AV}{E:List (List AV)}(h0:aOp P h n (ev env) (.pick c0 x y)=some (c,v,E))(e9:bJ B (LB m H) m w (ev env c0) (a.eval c0))(hx:bJ B (LB m H) m w (ev env x) (a.eval x))(hy:bJ B (LB m H) m w (ev env y) (a.eval y)):E=[]/\fT P B H m w (execOp a.eval o) v:=by
 simp only[aOp] at h0;split at h0
 .rename_i o' f' t e;rw[e] at e9;have hb:=e9.kZ;split at h0
  .rename_i ox fx px oy fy py ex ey;cases h0;rw[ex] at hx;rw[ey] at hy;refine⟨rfl,if t then a.eval x else a.eval y,by simp[execOp,ho,hb,asBool],?_⟩;rw[hx.kZ,hy.kZ]
   cases t<;>exact iL _
  .cases h0;refine⟨rfl,if t then a.eval x else a.eval y,by simp[execOp,ho,hb,asBool],?_⟩
   grind
 .cases h0
theorem Md(s:TypeId)(x:Operand)(f:Nat)(o:Oper)(ho:o.op=.fieldAddr s x f){c:Prop}{v:AV}{E:List (List AV)}(h0:aOp P h n (ev env) (.fieldAddr s x f)=some (c,v,E))(hx:bJ B (LB m H) m w (ev env x) (a.eval x)):E=[]/\fT P B H m w (execOp a.eval o) v:=by
 simp only[aOp] at h0;split at h0
 .rename_i a5 z g hf;unfold fOf at hf;split at hf
  .rename_i fs hu;split at hf
   .rename_i fd cg
    cases ht:tyL P fd.type with
    |none=>simp[ht] at hf
    |some zz=>
     obtain⟨z',g'⟩:=zz;simp only[ht,lj] at hf;split at hf
     .cases hf
     .rename_i hz;simp only[db,dC] at hf;obtain⟨rfl,rfl,rfl⟩:=hf
      have hi:∃i,P.info? fd.type=some i/\i.size=z':=by
       unfold tyL at ht;split at ht
       .rename_i i _ hi _;injection ht with ht;injection ht with h1 _;exact⟨i,hi,h1⟩
       .rename_i i _ _ hi _;injection ht with ht;injection ht with h1 _;exact⟨i,hi,h1⟩
       .rename_i i _ _ _ hi _;injection ht with ht;injection ht with h1 _;exact⟨i,hi,h1⟩
       .cases ht
      obtain⟨i,hi,fp⟩:=hi
      have a4:∀b off,(Instr.fieldAt s (.pointer (some ⟨b,off,none⟩)) f).run P w=.ok (.pointer (some ⟨b,off+fd.offset,none⟩)) w:=by
       intro b off;have h1:(fs[f]?:Option Field)=some fd:=cg;simp[Instr.fieldAt,run_underlying hu,h1,Instr.sureAddr,fieldPlace,sizeOf,typeInfo,hi,fp,hz,Addr.jT]
      split at h0
      .rename_i id ver off e;simp only[db,dC] at h0;obtain⟨rfl,rfl,rfl⟩:=h0;rw[e] at hx;obtain⟨b,C,hv,h1,h2,h3⟩:=hx.pF;exact⟨rfl,_,by simp[execOp,ho,hv,a4],.ptr h1 h2.1 h3 h2.2⟩
      .rename_i own f' cells off e;simp only[db,dC] at h0;obtain⟨rfl,rfl,rfl⟩:=h0;rw[e] at hx;obtain⟨b,o',vals,hv,h1,h2,h3⟩:=hx.qQ;refine⟨rfl,_,by simp[execOp,ho,hv,a4];rfl,.w ?_ (λh=>au)⟩;rw[qh];exact .ip vals h1 h2 h3
      .cases h0
   .cases hf
  .cases hf
 .cases h0
end
section
variable{P:Program}{B:Base}{m:Mm}{w:World}{H h:bE}{n:Nat}{env:Env}{a:Act}
theorem bJ.Ip{L:Nat->Prop}{cs:List AV}{v:Value}(h:bJ B L m w (.agg cs) v):∃vs:Array Value,v=.agg vs/\cs.length=vs.size/\∀(j:Nat)(p:AV)(u:Value),cs[j]?=some p->vs[j]?=some u->bJ B L m w p u:=by
 cases h with|agg h1 h2=>grind
theorem bJ.xN{L:Nat->Prop}{cs:List AV}{v:Value}(h:bJ B L m w (.tup cs) v):∃vs:Array Value,v=.tuple vs/\cs.length=vs.size/\∀(j:Nat)(p:AV)(u:Value),cs[j]?=some p->vs[j]?=some u->bJ B L m w p u:=by
 cases h with|tup h1 h2=>grind
theorem bJ.Rh{L:Nat->Prop}{o f:Bool}{cs:List PV}{v:Value}(h:bJ B L m w (.w o f (.tup cs)) v):∃vs:Array Value,v=.tuple vs/\cs.length=vs.size/\∀(j:Nat)(p:PV)(u:Value),cs[j]?=some p->vs[j]?=some u->Rep (Good B L o) w p u:=by
 cases h with|w h _=>cases h with|tup h1 h2=>grind
theorem getD_some{α:Type}{l:List α}{i:Nat}{d:α}(h:i<l.length):l[i]?=some (l.getD i d):=by
 simp_all
theorem Me{L:Nat->Prop}{cs:List AV}{vs:Array Value}(hl:cs.length=vs.size)(hr:∀(j:Nat)(p:AV)(u:Value),cs[j]?=some p->vs[j]?=some u->bJ B L m w p u)(o z:Nat)(hz:o+z<=cs.length):bJ B L m w (.agg ((cs.drop o).take z)) (.agg (vs.extract o (o+z))):=by
 refine .agg ar (λj p u hp hu=>?_);rw[j5] at hp
 grind
theorem Mf{G:Nat->Prop}{cs:List PV}{vs:Array Value}(hl:cs.length=vs.size)(hr:∀(j:Nat)(p:PV)(u:Value),cs[j]?=some p->vs[j]?=some u->Rep G w p u)(o z:Nat)(hz:o+z<=cs.length):Rep G w (.agg ((cs.drop o).take z)) (.agg (vs.extract o (o+z))):=by
 refine .agg ar (λj p u hp hu=>?_);rw[j5] at hp
 grind
theorem Ft{t:TypeId}{z:Nat}{g:Bool}(ht:tyL P t=some (z,g)):∃i d,P.info? t=some i/\i.size=z/\P.underlying t=some d/\(isAgg t).run P w=.ok g w:=by
 unfold tyL at ht;split at ht
 .rename_i i fs hi hu;injection ht with ht;injection ht with h1 h2;subst h1;subst h2;exact⟨i,_,hi,rfl,hu,by simp[isAgg,run_underlying hu]⟩
 .rename_i i n e hi hu;injection ht with ht;injection ht with h1 h2;subst h1;subst h2;exact⟨i,_,hi,rfl,hu,by simp[isAgg,run_underlying hu]⟩
 .rename_i i d en em hi hu;injection ht with ht;injection ht with h1 h2;subst h1;subst h2
  refine⟨i,d,hi,rfl,hu,?_⟩
  cases d<;>first|exact absurd rfl (en _)|exact absurd rfl (em _ _)|simp[isAgg,run_underlying hu]
 .cases ht
theorem Mg{s:TypeId}{f o z:Nat}{g:Bool}(hf:fOf P s f=some (o,z,g)):∃(fs:Array Field)(fd:Field),P.underlying s=some (.struct fs)/\(fs[f]?:Option Field)=some fd/\fd.offset=o/\tyL P fd.type=some (z,g):=by
 unfold fOf at hf;split at hf
 .rename_i fs hu;split at hf
  .rename_i fd cg
   cases ht:tyL P fd.type with
   |none=>grind
   |some zz=>
    grind
  .cases hf
 .cases hf
theorem Mh(s:TypeId)(x:Operand)(f:Nat)(o:Oper)(ho:o.op=.field s x f){c:Prop}{v:AV}{E:List (List AV)}(h0:aOp P h n (ev env) (.field s x f)=some (c,v,E))(hc:c)(hx:bJ B (LB m H) m w (ev env x) (a.eval x)):E=[]/\fT P B H m w (execOp a.eval o) v:=by
 simp only[aOp] at h0;split at h0
 .rename_i off z g hf;obtain⟨fs,fd,hu,cg,rfl,ht⟩:=Mg hf;obtain⟨i,d,hi,hz,_,ay⟩:=Ft (w:=w) ht
  have a4:∀vs:Array Value,(Instr.field s (.agg vs) f).run P w=if g=true then .ok (.agg (vs.extract fd.offset (fd.offset+z))) w else (match vs[fd.offset]? with|some v=>.ok v w|none=>.halt (.stuck "part: no such cell") w):=by
   intro vs;cases g
   .simp only[Instr.field,Sem.run_bind,run_underlying hu,Result.andThen_ok,cg,asAgg,Sem.run_pure,part,ay]
    cases vs[fd.offset]?<;>simp[stuck]
   .simp only[Instr.field,Sem.run_bind,run_underlying hu,Result.andThen_ok,cg,asAgg,Sem.run_pure,part,ay];simp[sizeOf,typeInfo,hi,hz]
  split at h0
  .rename_i cs e;rw[e] at hx;obtain⟨vs,hv,hl,hr⟩:=hx.Ip;cases g
   .simp only[cond_false,db,dC] at h0;obtain⟨rfl,rfl,rfl⟩:=h0
    have a9:fd.offset<vs.size:=ab
    exact⟨rfl,vs[fd.offset],by simp[execOp,ho,hv,a4,a9],hr _ _ _ (getD_some hc) (by simp[a9])⟩
   .simp only[cond_true,db,dC] at h0;obtain⟨rfl,rfl,rfl⟩:=h0;exact⟨rfl,_,by simp[execOp,ho,hv,a4],Me hl hr _ _ hc⟩
  .rename_i own f' cs e;rw[e] at hx;obtain⟨vs,hv,hl,hr⟩:=hx.Cq;cases g
   .simp only[cond_false,db,dC] at h0;obtain⟨rfl,rfl,rfl⟩:=h0
    have a9:fd.offset<vs.size:=ab
    exact⟨rfl,vs[fd.offset],by simp[execOp,ho,hv,a4,a9],.w (hr _ _ _ (getD_some hc) (by simp[a9])) nofun⟩
   .simp only[cond_true,db,dC] at h0;obtain⟨rfl,rfl,rfl⟩:=h0;exact⟨rfl,_,by simp[execOp,ho,hv,a4],.w (Mf hl hr _ _ hc) nofun⟩
  .cases h0
 .cases h0
theorem ky{t:TypeId}{e z:Nat}(hs:slE P t=some (e,z)):P.underlying t=some (.slice e)/\∃i,P.info? e=some i/\i.size=z:=by
 unfold slE at hs;split at hs
 .rename_i e' hu
  cases hi:P.info? e' with
  |none=>grind
  |some i=>
   simp_all
 .cases hs
theorem Mi{t:TypeId}{k z:Nat}(hs:arE P t=some (k,z)):∃e,P.underlying t=some (.array k e)/\∃i,P.info? e=some i/\i.size=z:=by
 unfold arE at hs;split at hs
 .rename_i n e hu
  cases hi:P.info? e with
  |none=>grind
  |some i=>
   simp_all
 .cases hs
theorem bJ.oF{L:Nat->Prop}{o f:Bool}{cells:List PV}{k:Nat}{v:Value}(h:bJ B L m w (.w o f (.sl k cells)) v):∃a0 cap,v=.slice a0 k cap/\k<=cap/\(f=true->k=cap)/\(a0=none->k=0/\cap=0)/\(cells≠[]->∃b off vals,a0=some ⟨b,off,none⟩/\dK w b off cells.length vals/\Good B L o b/\∀(j:Nat)(p:PV),cells[j]?=some p->Rep (Good B L o) w p (vals j)):=by
 cases h with
 |w h hf=>
  cases h with
  |slnil=>grind
  |sl vals h1 h2 h3 h4=>grind
  |slz h1=>grind
theorem bJ.mJ{L:Nat->Prop}{id ver sz off k:Nat}{v:Value}(h:bJ B L m w (.msl id ver sz off k) v):∃a0 cap,v=.slice a0 k cap/\k<=cap/\m.dom id/\ver<=m.top id/\(m.addr id ver=none->cap=0/\ver=0)/\(∀b C,m.addr id ver=some (b,C)->(0<cap->a0=some ⟨b,off,none⟩)/\off+cap*sz<=C/\ver<=off+cap*sz):=by
 cases h with|msl h1 h2 h3 h4 h5=>grind
theorem Mj(t:TypeId)(x i:Operand)(o:Oper)(ho:o.op=.indexAddr t x i){c:Prop}{v:AV}{E:List (List AV)}(h0:aOp P h n (ev env) (.indexAddr t x i)=some (c,v,E))(hc:c)(hx:bJ B (LB m H) m w (ev env x) (a.eval x))(hi:bJ B (LB m H) m w (ev env i) (a.eval i)):E=[]/\fT P B H m w (execOp a.eval o) v:=by
 simp only[aOp] at h0;split at h0
 .rename_i oi fi ki j ei;rw[ei] at hi;have hiv:=hi.hY;split at h0
  .rename_i e sz hs;obtain⟨hu,it,co,hz⟩:=ky hs
   have a4:∀(b off k cap:Nat),0<=j->j<k->(Instr.indexAt t (.slice (some ⟨b,off,none⟩) k cap) (.int ki j)).run P w=.ok (.pointer (some ⟨b,off+j.toNat*sz,none⟩)) w:=by
    intro b off k cap h1 h2;simp[Instr.indexAt,asIntOf,run_underlying hu,h1,h2,sizeOf,typeInfo,co,hz,Addr.jT]
   split at h0
   .rename_i own f' k cells e;cases h0;obtain⟨c1,c2,c3⟩:=hc;rw[e] at hx;obtain⟨a0,cap,hv,_,_,_,c9⟩:=hx.oF;obtain⟨b,off,vals,rfl,h1,h2,h3⟩:=c9 ak;exact⟨rfl,_,by simp[execOp,ho,hv,hiv,a4 b off k cap c1 c2],.w (.ip vals h1 (λ_=>h2) h3) nofun⟩
   .rename_i id ver z off k e;cases h0;obtain⟨c1,c2,c3⟩:=hc;subst c3;rw[e] at hx;obtain⟨a0,cap,hv,h1,h2,h3,h4,h5⟩:=hx.mJ
    cases ha:m.addr id ver with
    |none=>grind
    |some bc=>
     obtain⟨b,C⟩:=bc;obtain⟨h6,h8,h9⟩:=h5 b C ha;have h7:=h6 ab;subst h7;exact⟨rfl,_,by simp[execOp,ho,hv,hiv,a4 b off k cap c1 c2],.ptr h2 h3 ha ab⟩
   .cases h0
  .split at h0
   .rename_i k sz hs;obtain⟨e,hu,it,co,hz⟩:=Mi hs
    have a4:∀(b off:Nat),0<=j->j<k->(Instr.indexAt t (.pointer (some ⟨b,off,none⟩)) (.int ki j)).run P w=.ok (.pointer (some ⟨b,off+j.toNat*sz,none⟩)) w:=by
     intro b off h1 h2;simp[Instr.indexAt,asIntOf,run_underlying hu,h1,h2,sizeOf,typeInfo,co,hz,Addr.jT,Instr.sureAddr]
    split at h0
    .rename_i id ver off e;cases h0;rw[e] at hx;obtain⟨b,C,hv,h1,h2,h3⟩:=hx.pF;exact⟨rfl,_,by simp[execOp,ho,hv,hiv,a4 b off hc.1 hc.2],.ptr h1 h2.1 h3 h2.2⟩
    .rename_i own f' cells off e;cases h0;rw[e] at hx;obtain⟨b,o',vals,hv,h1,h2,h3⟩:=hx.qQ;refine⟨rfl,_,by simp[execOp,ho,hv,hiv,a4 b (o'+off) hc.1 hc.2];rfl,.w ?_ nofun⟩;rw[qh];exact .ip vals h1 h2 h3
    .cases h0
   .cases h0
 .cases h0
theorem Ml(t:TypeId)(x i:Operand)(o:Oper)(ho:o.op=.index t x i){c:Prop}{v:AV}{E:List (List AV)}(h0:aOp P h n (ev env) (.index t x i)=some (c,v,E))(hc:c)(hx:bJ B (LB m H) m w (ev env x) (a.eval x))(hi:bJ B (LB m H) m w (ev env i) (a.eval i)):E=[]/\fT P B H m w (execOp a.eval o) v:=by
 simp only[aOp] at h0;split at h0
 .rename_i oi fi ki j ox fx s ei ex;rw[ei] at hi;rw[ex] at hx
  cases hS:isStr P t with
  |false=>rw[hS] at h0;cases h0
  |true=>
   rw[hS] at h0;simp only[cond_true,db,dC] at h0;obtain⟨rfl,rfl,rfl⟩:=h0
   have hu:P.underlying t=some .string:=by
    unfold isStr at hS
    grind
   obtain⟨c1,c2⟩:=hc
   have a9:j.toNat<s.size:=ab
   have cJ:s[j.toNat]?=some s[j.toNat]:=by simp[a9]
   have hd:s.data.toList.getD j.toNat 0=s[j.toNat]:=by
    rw[dZ]
    have:s.data.toList[j.toNat]?=some s[j.toNat]:=by
     rw[iW];rw[du aE];rfl
    rw[this];rfl
   exact⟨rfl,.int .u8 (s.data.toList.getD j.toNat 0).toNat,by rw[hd];simp[execOp,ho,hx.pE,hi.hY,Instr.index,asIntOf,run_underlying hu,c1,cJ],gq _ _⟩
 .cases h0
theorem Mn(x:Operand)(i:Nat)(o:Oper)(ho:o.op=.extract x i){c:Prop}{v:AV}{E:List (List AV)}(h0:aOp P h n (ev env) (.extract x i)=some (c,v,E))(hx:bJ B (LB m H) m w (ev env x) (a.eval x)):E=[]/\fT P B H m w (execOp a.eval o) v:=by
 simp only[aOp] at h0;split at h0
 .rename_i vs e;rw[e] at hx;obtain⟨us,hv,hl,hr⟩:=hx.xN;split at h0
  .rename_i a9;cases h0
   have bd:i<us.size:=ab
   exact⟨rfl,us[i],by simp[execOp,ho,hv,Instr.extract,bd],hr _ _ _ (getD_some a9) (by simp[bd])⟩
  .cases h0
 .rename_i own f' vs e;rw[e] at hx;obtain⟨us,hv,hl,hr⟩:=hx.Rh;split at h0
  .rename_i a9;cases h0
   have bd:i<us.size:=ab
   exact⟨rfl,us[i],by simp[execOp,ho,hv,Instr.extract,bd],.w (hr _ _ _ (getD_some a9) (by simp[bd])) nofun⟩
  .cases h0
 .cases h0
end
section
variable{P:Program}{B:Base}{m:Mm}{w:World}{H h:bE}{n:Nat}{env:Env}{a:Act}
theorem Fu(t:TypeId)(x:Operand)(o:Oper)(ho:o.op=.load t x){c:Prop}{v:AV}{E:List (List AV)}(h0:aOp P h n (ev env) (.load t x)=some (c,v,E))(hc:c)(hs:cX B H m w)(ba:∀id cs,cJ h id=some cs->(id,cs)∈H)(hx:bJ B (LB m H) m w (ev env x) (a.eval x)):E=[]/\fT P B H m w (execOp a.eval o) v:=by
 simp only[aOp] at h0;split at h0
 .rename_i sz g ht;split at h0
  .rename_i id ver off e;rw[e] at hx;obtain⟨b,C,hv,h1,h2,h3⟩:=hx.pF;split at h0
   .rename_i cells hg
    have main:cells.length=ver->off+(bif g then sz else 1)<=cells.length->∃cs:Array Value,cells.length<=cs.size/\(∀(j:Nat)(p:AV)(v:Value),cells[j]?=some p->cs[j]?=some v->bJ B (LB m H) m w p v) /\
     (execOp a.eval o).run P w=.ok (.value (bif g then .agg ((List.range sz).map λj=>cs.getD (off+j) undef).toArray else cs.getD off undef)) w:=by
     intro e6 hle;rw[<-e6] at h3;obtain⟨cs,e',hh,hC,g1,_,hr⟩:=hs.read (ba id cells hg) h1 h3 ab;refine⟨cs,ab,hr,?_⟩
     have a4:=Fj (P:=P) (w:=w) b off ht (λj=>cs.getD (off+j) undef) (λj hj=>by
      have:off+j<cs.size:=ab
      rw[oe hh]
      simp[this])
     simp only[m8] at a4;simp[execOp,ho,hv,a4]
    cases g with
    |false=>
     simp only[cond_false,db,dC] at h0 main;obtain⟨rfl,rfl,rfl⟩:=h0;obtain⟨cs,hle,hr,a4⟩:=main hc.1 (by have:=hc.2;omega)
     exact⟨rfl,_,a4,hr _ _ _ (getD_some hc.2) (by have:=hc.2;have:off<cs.size:=by omega
                                                  simp[this])⟩
    |true=>
     simp only[cond_true,db,dC] at h0 main;obtain⟨rfl,rfl,rfl⟩:=h0;obtain⟨cs,hle,hr,a4⟩:=main hc.1 hc.2;refine⟨rfl,_,a4,.agg (by have:=hc.2;simp;omega) (λj p u hp hu=>?_)⟩;rw[j5] at hp;split at hp
     .rw[yB] at hp;have hj:off+j<cells.length:=(eX.1 hp).1
      have dl:off+j<cs.size:=ab
      simp only[yC,im] at hu;rename_i a9;rw[yD a9] at hu;simp only[eh,db] at hu;refine hr _ p u hp ?_;rw[<-hu];simp[dl]
     .cases hp
   .cases h0
  .rename_i own f' cells off e;rw[e] at hx;obtain⟨b,o',vals,hv,h1,h2,h3⟩:=hx.qQ
   have main:off+(bif g then sz else 1)<=cells.length->(execOp a.eval o).run P w=.ok (.value (bif g then .agg ((List.range sz).map λj=>vals (off+j)).toArray else vals off)) w:=by
    intro hle
    have a4:=Fj (P:=P) (w:=w) b (o'+off) ht (λj=>vals (off+j)) (λj hj=>by
     rw[qh];exact h1 _ ab)
    simp only[m8] at a4;simp[execOp,ho,hv,a4]
   cases g with
   |false=>
    simp only[cond_false,db,dC] at h0 main;obtain⟨rfl,rfl,rfl⟩:=h0;exact⟨rfl,_,main ab,.w (h3 _ _ (getD_some hc)) nofun⟩
   |true=>
    simp only[cond_true,db,dC] at h0 main;obtain⟨rfl,rfl,rfl⟩:=h0;refine⟨rfl,_,main hc,.w (.agg ar (λj p u hp hu=>?_)) nofun⟩;rw[j5] at hp
    grind
  .cases h0
 .cases h0
theorem Mo(args:Array Operand)(tys:Array TypeId)(o:Oper)(ho:o.op=.call { callee:=.builtin .len,args:=args,argTypes:=tys }){c:Prop}{v:AV}{E:List (List AV)}(h0:aOp P h n (ev env) (.call { callee:=.builtin .len,args:=args,argTypes:=tys })=some (c,v,E))(hx:∀x∈args.toList,bJ B (LB m H) m w (ev env x) (a.eval x)):E=[]/\fT P B H m w (execOp a.eval o) v:=by
 simp only[aOp] at h0;split at h0
 .rename_i x t ao dx
  have ha:args=#[x]:=by rw[<-oT (xs:=args),ao]
  have ht:tys=#[t]:=by rw[<-oT (xs:=tys),dx]
  subst ha;subst ht;have hx:=hx x ae;split at h0
  .rename_i own f' k cells e;rw[e] at hx;obtain⟨a0,cap,hv,_⟩:=hx.oF;split at h0
   .rename_i es hs;cases h0;obtain⟨hu,_⟩:=ky (e:=es.1) (z:=es.2) hs;exact⟨rfl,_,by simp[execOp,ho,resolve,invoke,builtin,Builtin.len_,hv,run_underlying hu,goInt],gq _ _⟩
   .cases h0
  .rename_i id ver z off k e;rw[e] at hx;obtain⟨a0,cap,hv,_⟩:=hx.mJ;split at h0
   .rename_i es hs;cases h0;obtain⟨hu,_⟩:=ky (e:=es.1) (z:=es.2) hs;exact⟨rfl,_,by simp[execOp,ho,resolve,invoke,builtin,Builtin.len_,hv,run_underlying hu,goInt],gq _ _⟩
   .cases h0
  .rename_i own f' s e;rw[e] at hx
   cases hS:isStr P t with
   |false=>rw[hS] at h0;cases h0
   |true=>
    rw[hS] at h0;simp only[cond_true,db,dC] at h0;obtain⟨rfl,rfl,rfl⟩:=h0
    have hu:P.underlying t=some .string:=by
     unfold isStr at hS
     grind
    exact⟨rfl,_,by simp[execOp,ho,resolve,invoke,builtin,Builtin.len_,hx.pE,run_underlying hu,goInt],gq _ _⟩
  .cases h0
 .cases h0
theorem Mp(args:Array Operand)(tys:Array TypeId)(o:Oper)(ho:o.op=.call { callee:=.builtin .max,args:=args,argTypes:=tys }){c:Prop}{v:AV}{E:List (List AV)}(h0:aOp P h n (ev env) (.call { callee:=.builtin .max,args:=args,argTypes:=tys })=some (c,v,E))(hx:∀x∈args.toList,bJ B (LB m H) m w (ev env x) (a.eval x)):E=[]/\fT P B H m w (execOp a.eval o) v:=by
 simp only[aOp] at h0;split at h0
 .rename_i x y ao
  have ha:args=#[x,y]:=by rw[<-oT (xs:=args),ao]
  subst ha;have d2:=hx x ae;have d3:=hx y ae;split at h0
  .rename_i ex ey;rw[ex] at d2;rw[ey] at d3;split at h0
   .rename_i hk;subst hk;cases h0;exact⟨rfl,_,by simp[execOp,ho,resolve,invoke,builtin,Builtin.max_,Builtin.max2,d2.hY,d3.hY],gq _ _⟩
   .cases h0
  .cases h0
 .cases h0
theorem Mq(args:Array Operand)(tys:Array TypeId)(o:Oper)(ho:o.op=.call { callee:=.builtin .min,args:=args,argTypes:=tys }){c:Prop}{v:AV}{E:List (List AV)}(h0:aOp P h n (ev env) (.call { callee:=.builtin .min,args:=args,argTypes:=tys })=some (c,v,E))(hx:∀x∈args.toList,bJ B (LB m H) m w (ev env x) (a.eval x)):E=[]/\fT P B H m w (execOp a.eval o) v:=by
 simp only[aOp] at h0;split at h0
 .rename_i x y ao
  have ha:args=#[x,y]:=by rw[<-oT (xs:=args),ao]
  subst ha;have d2:=hx x ae;have d3:=hx y ae;split at h0
  .rename_i ex ey;rw[ex] at d2;rw[ey] at d3;split at h0
   .rename_i hk;subst hk;cases h0;exact⟨rfl,_,by simp[execOp,ho,resolve,invoke,builtin,Builtin.min_,Builtin.min2,d2.hY,d3.hY],gq _ _⟩
   .cases h0
  .cases h0
 .cases h0
theorem Mr(x:Operand)(o:Oper)(ho:o.op=.nilCheck x){c:Prop}{v:AV}{E:List (List AV)}(h0:aOp P h n (ev env) (.nilCheck x)=some (c,v,E))(hx:bJ B (LB m H) m w (ev env x) (a.eval x)):E=[]/\fT P B H m w (execOp a.eval o) v:=by
 simp only[aOp] at h0;split at h0
 .rename_i id ver off e;cases h0;rw[e] at hx;obtain⟨b,C,hv,_⟩:=hx.pF;rw[hv] at hx;exact⟨rfl,_,by simp[execOp,ho,hv],hx⟩
 .rename_i own f' cells off e;cases h0;rw[e] at hx;obtain⟨b,o',vals,hv,_⟩:=hx.qQ;rw[hv] at hx;exact⟨rfl,_,by simp[execOp,ho,hv],hx⟩
 .rename_i f cs e;cases h0;rw[e] at hx;generalize hv:a.eval x=vv at hx
  cases hx with
  |fn h1 h2=>exact⟨rfl,_,by simp[execOp,ho,hv],.fn h1 h2⟩
 .rename_i own f' g cs e;cases h0;rw[e] at hx;generalize hv:a.eval x=vv at hx
  cases hx with
  |w hx hf=>cases hx with
   |fn h1 h2=>exact⟨rfl,_,by simp[execOp,ho,hv],.w (.fn h1 h2) (λe a n c hh=>by cases hh)⟩
 .cases h0
theorem Ms(fn:Fn)(first captured:Array Operand)(o:Oper)(ho:o.op=.makeFunc fn first captured){c:Prop}{v:AV}{E:List (List AV)}(h0:aOp P h n (ev env) (.makeFunc fn first captured)=some (c,v,E))(hx:∀x∈captured.toList,bJ B (LB m H) m w (ev env x) (a.eval x)):E=[]/\fT P B H m w (execOp a.eval o) v:=by
 cases fn with
 |func f=>
  simp only[aOp] at h0;split at h0
  .rename_i hz
   have hz:first=#[]:=by simpa using hz
   subst hz;cases h0;refine⟨rfl,_,by simp[execOp,ho,Instr.makeFunc];rfl,.fn ae (λj p u hp hu=>?_)⟩
   grind
  .cases h0
 |_=>simp[aOp] at h0
end
section
variable{P:Program}{B:Base}{m:Mm}{w:World}{H h:bE}{n:Nat}{env:Env}{a:Act}
theorem Fv(len cap l u:Nat)(low high:Option Value)(hl:low=none/\l=0\/∃k,low=some (.int k l))(hh:high=none/\u=len\/∃k,high=some (.int k u))(h1:l<=u)(h2:u<=cap):(Instr.sliceBounds true len cap low high none).run P w=.ok (l,u,cap) w:=by
 rcases hl with ⟨rfl,rfl⟩|⟨k,rfl⟩<;>rcases hh with ⟨rfl,rfl⟩|⟨k',rfl⟩<;>simp[Instr.sliceBounds,Instr.sliceBound,asIntOf,h1,h2]
theorem Mt(len l u:Nat)(low high:Option Value)(hl:low=none/\l=0\/∃k,low=some (.int k l))(hh:high=none/\u=len\/∃k,high=some (.int k u))(h1:l<=u)(h2:u<=len):(Instr.sliceBounds false len len low high none).run P w=.ok (l,u,len) w:=by
 rcases hl with ⟨rfl,rfl⟩|⟨k,rfl⟩<;>rcases hh with ⟨rfl,rfl⟩|⟨k',rfl⟩<;>simp[Instr.sliceBounds,Instr.sliceBound,asIntOf,h1,h2]
theorem Mu(len cap l u:Nat)(low high:Option Value)(kq:IntKind)(hl:low=none/\l=0\/∃k,low=some (.int k l))(hh:∃k,high=some (.int k u))(h1:l<=u)(h2:u<=cap):(Instr.sliceBounds true len cap low high (some (.int kq u))).run P w=.ok (l,u,u) w:=by
 rcases hl with ⟨rfl,rfl⟩|⟨k,rfl⟩<;>obtain⟨k',rfl⟩:=hh<;>simp[Instr.sliceBounds,Instr.sliceBound,asIntOf,h1,h2]
theorem zQ{t e sz:Nat}(hs:slE P t=some (e,sz))(a0:Option Addr)(len cap l u mx:Nat)(low high max:Option Value)(hb:(Instr.sliceBounds true len cap low high max).run P w=.ok (l,u,mx) w):(Instr.sliceAt t (.slice a0 len cap) low high max).run P w=.ok (.slice (if mx=l then a0 else a0.map (·.add (l*sz))) (u-l) (mx-l)) w:=by
 obtain⟨hu,i,hi,hz⟩:=ky hs;simp[Instr.sliceAt,Instr.slice,run_underlying hu,hb,sizeOf,typeInfo,hi,hz]
theorem wj{L:Nat->Prop}{x:AV}{v:Value}{i:Int}(hx:bJ B L m w x v)(h:qP x=some i):∃k,v=.int k i:=by
 unfold qP at h;split at h
 .cases h;exact⟨_,hx.hY⟩
 .cases h
theorem wm{lo:Option Operand}{l:Int}(hr:∀x,lo=some x->bJ B (LB m H) m w (ev env x) (a.eval x))(h:lov (ev env) lo=some l)(h0:0<=l):lo.map a.eval=none/\l.toNat=0\/∃k,lo.map a.eval=some (.int k (l.toNat:Int)):=by
 cases lo with
 |none=>injection h with h;simp_all
 |some x=>
  obtain⟨k,hk⟩:=wj (hr x rfl) h
  grind
theorem wo{hi:Option Operand}{u:Int}{k:Nat}(hr:∀x,hi=some x->bJ B (LB m H) m w (ev env x) (a.eval x))(h:hiv (ev env) k hi=some u)(h0:0<=u):hi.map a.eval=none/\u.toNat=k\/∃q,hi.map a.eval=some (.int q (u.toNat:Int)):=by
 cases hi with
 |none=>injection h with h;grind
 |some x=>
  obtain⟨k,hk⟩:=wj (hr x rfl) h
  grind
theorem zR{own f:Bool}{k:Nat}{cells:List PV}{v:Value}(hx:bJ B (LB m H) m w (.w own f (.sl k cells)) v)(l u mx sz:Nat)(ej:l<=u)(hu:u<=mx)(f':Bool)(hf:f'=true->mx=u):∃a0 cap,v=.slice a0 k cap/\k<=cap/\(mx<=cap->bJ B (LB m H) m w (.w own f' (.sl (u-l) ((cells.drop (l*sz)).take ((u-l)*sz)))) (.slice (if mx=l then a0 else a0.map (·.add (l*sz))) (u-l) (mx-l))):=by
 obtain⟨a0,cap,hv,hk,_,hn,hc⟩:=hx.oF;refine⟨a0,cap,hv,hk,λgg=>.w ?_ (λe a n c hh=>ak)⟩
 cases hL:(cells.drop (l*sz)).take ((u-l)*sz) with
 |nil=>
  cases ha:a0 with
  |none=>
   obtain⟨h1,h2⟩:=hn ha
   have e1:u-l=0:=ab
   have e2:mx-l=0:=ab
   rw[e1,e2]
   split<;>exact .slnil
  |some aa=>split<;>exact .slz ab
 |cons x xs=>
  have b4:cells≠[]:=by rintro rfl;simp at hL
  obtain⟨b,off,vals,rfl,h1,h2,h3⟩:=hc b4
  have a9:l<u:=by
   rcases fo l u with h|h
   .exact h
   .have:u-l=0:=ab
    rw[this] at hL;simp at hL
  rw[bP ab];simp only[eh,Addr.jT];refine .sl (λj=>vals (l*sz+j)) ab (λj hj=>?_) (λ_=>h2) (λj p hp=>?_)
  .have dl:l*sz+j<cells.length:=by
    rw[<-hL,lq,yE] at hj;omega
   rw[qh];exact h1 _ dl
  grind
theorem Mv(t:TypeId)(x:Operand)(lo hi mx:Option Operand)(o:Oper)(ho:o.op=.slice t x lo hi mx){c:Prop}{v:AV}{E:List (List AV)}(h0:aOp P h n (ev env) (.slice t x lo hi mx)=some (c,v,E))(hc:c)(hx:bJ B (LB m H) m w (ev env x) (a.eval x))(d7:∀y,lo=some y->bJ B (LB m H) m w (ev env y) (a.eval y))(ck:∀y,hi=some y->bJ B (LB m H) m w (ev env y) (a.eval y))(ej:∀y,mx=some y->bJ B (LB m H) m w (ev env y) (a.eval y)):E=[]/\fT P B H m w (execOp a.eval o) v:=by
 simp only[aOp] at h0;split at h0
 .rename_i e sz hs;split at h0
  .rename_i l own f k cells hl ex;rw[ex] at hx;split at h0
   .rename_i u hu;cases h0;obtain⟨c1,c2,c3⟩:=hc;have bq:=wm d7 hl c1;have bv:=wo ck hu ab;obtain⟨a0,cap,hv,hk,_⟩:=zR hx l.toNat u.toNat u.toNat sz ab (bS _) false nofun;obtain⟨gc,f4,b7,_,hr⟩:=zR hx l.toNat u.toNat cap sz ab ab false nofun
    rw[hv] at b7;injection b7 with e1 e2 e3;subst e1;subst e3
    refine⟨rfl,_,?_,hr (bS _)⟩;have hb:=Fv (P:=P) (w:=w) k cap l.toNat u.toNat _ _ bq bv ab ab;simp[execOp,ho,hv,zQ hs a0 k cap _ _ _ _ _ _ hb]
   .rename_i u y hu;split at h0
    .rename_i q yy hq;cases h0;obtain⟨c1,c2,c3,c4⟩:=hc;subst c4;have bq:=wm d7 hl c1;have bv:=wo ck hu ab;obtain⟨kq,g6⟩:=wj (ej y rfl) hq;obtain⟨a0,cap,hv,hk,hr⟩:=zR hx l.toNat q.toNat q.toNat sz ab (bS _) true (λ_=>rfl);refine⟨rfl,_,?_,hr ab⟩
     have dy:∃k,(some yy).map a.eval=some (.int k (q.toNat:Int)):=by
      simp_all
     have hb:=Mu (P:=P) (w:=w) k cap l.toNat q.toNat _ _ kq bq dy ab ab
     have dt:a.eval y=.int kq (q.toNat:Int):=by rw[g6,Int.toNat_of_nonneg ab]
     have bg:=zQ hs a0 k cap _ _ _ _ _ _ hb;rw[<-dt,<-eh (f:=a.eval) (a:=y)] at bg;simp only[execOp,ho,hv,Sem.run_bind,bg,Result.andThen_ok,Sem.run_pure]
    .cases h0
   .cases h0
  .rename_i l id ver z off k hl ex;rw[ex] at hx;split at h0
   .rename_i u hu;cases h0;obtain⟨c1,c2,c3,c4⟩:=hc;subst c4;have bq:=wm d7 hl c1;have bv:=wo ck hu ab;obtain⟨a0,cap,hv,hk,h1,h2,h3,h4⟩:=hx.mJ;have hb:=Fv (P:=P) (w:=w) k cap l.toNat u.toNat _ _ bq bv ab ab;have bg:=zQ hs a0 k cap _ _ _ _ _ _ hb;refine⟨rfl,.slice (if cap=l.toNat then a0 else a0.map (·.add (l.toNat*z))) (u.toNat-l.toNat) (cap-l.toNat),?_,.msl h1 h2 ab (λe=>?_) (λb C e=>?_)⟩
    .simp only[execOp,ho,hv,Sem.run_bind,bg,JM,Result.andThen_ok,Sem.run_pure]
    .simp_all
    .obtain⟨e1,e2,e3⟩:=h4 b C e
     have e5:l.toNat*z+(cap-l.toNat)*z=cap*z:=by rw[<-iY];grind
     refine⟨λhp=>?_,ab,ab⟩;rw[bP ab,e1 ab];simp[Addr.jT]
   .cases h0
  .cases h0
 .unfold Cl at h0;split at h0
  .rename_i own f s da ex;rw[ex] at hx;split at h0
   .rename_i l u hl hu;cases h0;obtain⟨c1,c2,c3⟩:=hc;have bq:=wm d7 hl c1;have bv:=wo ck hu ab
    have g8:P.underlying t=some .string:=by
     unfold isStr at da
     grind
    have hb:(Instr.sliceBounds false s.size s.size (lo.map a.eval) (hi.map a.eval) none).run P w=.ok (l.toNat,u.toNat,s.size) w:=by
     exact Mt s.size l.toNat u.toNat _ _ bq bv ab ab
    refine⟨rfl,.string (s.extract l.toNat u.toNat),?_,Fl _⟩;simp[execOp,ho,hx.pE,Instr.sliceAt,Instr.slice,run_underlying g8,hb]
   .cases h0
  .rename_i own f cells off da ex;rw[ex] at hx;split at h0
   .rename_i n sz hp;cases h0;obtain⟨c1,c2⟩:=hc;unfold arE at hp;split at hp
    .rename_i n' e hu
     cases ag:P.info? e with
     |none=>rw[ag] at hp;cases hp
     |some i=>
      rw[ag] at hp;simp only[eh,db,dC] at hp;obtain⟨rfl,rfl⟩:=hp;obtain⟨b,o',vals,hv,h1,h2,h3⟩:=hx.qQ;refine⟨rfl,.slice (some ⟨b,o'+off,none⟩) n' n',?_,?_⟩
      .simp[execOp,ho,hv,Instr.sliceAt,Instr.sureAddr,run_underlying hu,Instr.sliceBounds,sizeOf,typeInfo,ag]
       intros
       rfl
      .refine .w (.sl (λj=>vals (off+j)) (bS _) (λj hj=>?_) (λb4=>h2 ?_) (λj p hj=>?_)) (λ_ a n c e=>by injection e with _ e1 e2;omega)
       .rw[lq,yE] at hj;rw[qh];exact h1 (off+j) ab
       .intro e;rw[e] at b4;simp at b4
       grind
    .cases hp
   .rename_i n sz y hp;split at h0
    .rename_i u g7;cases h0;obtain⟨c1,c2,c3,c4⟩:=hc;obtain⟨U,rfl⟩:=Int.eq_ofNat_of_zero_le c3;obtain⟨kq,gh⟩:=wj (ck y rfl) g7;simp only[jr]
     have hU:U<=n:=ab
     have hUs:U*sz<=n*sz:=tF sz hU;unfold arE at hp;split at hp
     .rename_i n' e hu
      cases ag:P.info? e with
      |none=>rw[ag] at hp;cases hp
      |some i=>
       rw[ag] at hp;simp only[eh,db,dC] at hp;obtain⟨rfl,rfl⟩:=hp;obtain⟨b,o',vals,hv,h1,h2,h3⟩:=hx.qQ;refine⟨trivial,.slice (some ⟨b,o'+off,none⟩) U n',?_,?_⟩
       .simp[execOp,ho,hv,gh,Instr.sliceAt,Instr.sureAddr,run_underlying hu,Instr.sliceBounds,Instr.sliceBound,asIntOf,sizeOf,typeInfo,ag,hU]
        intros
        rfl
       .refine .w (.sl (λj=>vals (off+j)) hU (λj hj=>?_) (λb4=>h2 ?_) (λj p hj=>?_)) nofun
        .rw[lq,yE] at hj;rw[qh];exact h1 (off+j) ab
        .intro e;rw[e] at b4;simp at b4
        grind
     .cases hp
    .cases h0
   .cases h0
  .cases h0
end
theorem jL(w:World)(o:Obj){b:Nat}(h:b<w.heap.size):(w.alloc o).heap[b]?=w.heap[b]?:=by
 show (w.heap.push o)[b]?=_;rw[qg,bP ab]
theorem wq(w:World)(o:Obj):(w.alloc o).heap[w.heap.size]?=some o:=by
 show (w.heap.push o)[w.heap.size]?=_;simp
theorem zS(w:World)(o:Obj):(w.alloc o).heap.size=w.heap.size+1:=by
 simp
section
variable{P:Program}{B:Base}{m:Mm}{w:World}{H h:bE}{n:Nat}{env:Env}{a:Act}
theorem Mw{H:bE}{R:(Nat×List AV)->(Nat×List AV)->Prop}(hp:H.Pairwise λx y=>x.1≠y.1/\R x y){id:Nat}{c c':List AV}(h1:(id,c)∈H)(h2:(id,c')∈H):c=c':=by
 induction hp with
 |nil=>cases h1
 |@cons x l hx _ ih=>
  rcases dM.1 h1 with e1|e1<;>rcases dM.1 h2 with e2|e2
  .rw[<-e1] at e2;injection e2 with _ e2;exact e2.symm
  .subst e1;exact absurd rfl (hx _ e2).1
  .subst e2;exact absurd rfl (hx _ e1).1
  simp_all
theorem cX.key(hs:cX B H m w){id:Nat}{c c':List AV}(h1:(id,c)∈H)(h2:(id,c')∈H):c=c':=Mw (R:=λ_ _=>_) hs.inj h1 h2
theorem cX.block(hs:cX B H m w){id:Nat}{cells:List AV}(hin:(id,cells)∈H)(hd:m.dom id){b C:Nat}(ha:m.addr id cells.length=some (b,C)):(∃o,w.heap[b]?=some o)/\B.n<=b:=by
 rcases (hs.entry id cells hin hd).2 with ⟨h0,_⟩|⟨b',C',cs,e,h1,h2,h3,h4,h5,h6⟩|⟨b',es,clk,h1,h2,h3,h4,_⟩
 .rw[h0] at ha;cases ha
 .rw[h1] at ha;injection ha with ha;injection ha with hb hC;subst hb;exact⟨⟨_,h2⟩,h5⟩
 simp_all
theorem fj(hs:cX B H m w){b:Nat}(h:LB m H b):b<w.heap.size:=by
 obtain⟨id,cells,C,hin,hd,ha⟩:=h;obtain⟨⟨o,hh⟩,_⟩:=hs.block hin hd ha
 grind
def Mm.new(m:Mm)(id len:Nat)(bc:Option (Nat×Nat)):Mm:=
 { addr:=λi v=>if i=id/\v=len then bc else m.addr i v,top:=λi=>if i=id then len else m.top i,dom:=λi=>m.dom i\/i=id }
theorem Mm.uO{m:Mm}{id len:Nat}{bc:Option (Nat×Nat)}(aq:¬m.dom id):m.le (m.new id len bc):=by
 refine⟨λi hi=>.inl hi,λi hi=>?_,λi v hi _=>?_⟩
 .have:i≠id:=λe=>aq (e▸hi)
  simp[Mm.new,this]
 .have:i≠id:=λe=>aq (e▸hi)
  simp[Mm.new,this]
theorem tW(hs:cX B H m w){id:Nat}{cells:List AV}(hin:(id,cells)∈H){bc:Option (Nat×Nat)}{b:Nat}(h:LB (m.new id cells.length bc) H b):LB m H b\/∃C,bc=some (b,C):=by
 obtain⟨i,c,C,h1,h2,h3⟩:=h;by_cases hi:i=id
 .subst hi;obtain rfl:=hs.key h1 hin;simp only[Mm.new,and_self,cz] at h3;simp_all
 .simp only[Mm.new,hi,false_and,cT] at h3
  rcases h2 with h2|h2
  .exact .inl ⟨i,c,C,h1,h2,h3⟩
  trivial
theorem Fw(hs:cX B H m w)(hB:B.n<=w.heap.size){id:Nat}{cells:List AV}(hin:(id,cells)∈H)(aq:¬m.dom id)(cs:Array Value)(e:TypeId)(hlen:cells.length<=cs.size)(hr:∀(j:Nat)(p:AV)(v:Value),cells[j]?=some p->cs[j]?=some v->bJ B (LB m H) m w p v):cX B H (m.new id cells.length (some (w.heap.size,cs.size))) (w.alloc (.cells cs e)):=by
 have hle:=Mm.uO (len:=cells.length) (bc:=some (w.heap.size,cs.size)) aq
 have hL:∀b,b<w.heap.size->¬LB m H b->¬LB (m.new id cells.length (some (w.heap.size,cs.size))) H b:=by
  intro b hb hn hl
  rcases tW hs hin hl with h|⟨C,h⟩
  .exact hn h
  simp_all
 have ax:∀p v,bJ B (LB m H) m w p v->bJ B (LB (m.new id cells.length (some (w.heap.size,cs.size))) H) (m.new id cells.length (some (w.heap.size,cs.size))) (w.alloc (.cells cs e)) p v:=
  λp v h=>h.mono hle hL (λb hb _=>jL w _ hb)
 refine⟨λi c bj hd=>?_,?_⟩
 .by_cases hi:i=id
  .subst hi;obtain rfl:=hs.key bj hin;refine⟨a8,.inr (.inl ⟨w.heap.size,cs.size,cs,e,a8,wq w _,rfl,ab,hB,λj p v hp hv=>ax p v (hr j p v hp hv)⟩)⟩
  .have bn:m.dom i:=by
    rcases hd with hd|hd
    .exact hd
    trivial
   obtain⟨ht,dk⟩:=hs.entry i c bj bn;refine⟨by simp[Mm.new,hi,ht],?_⟩
   rcases dk with ⟨h1,h2⟩|⟨b,C,cs',e',h1,h2,h3,h4,h5,h6⟩|⟨b,es,clk,h1,h2,h3,h4,h5⟩
   .exact .inl ⟨by simp[Mm.new,hi,h1],h2⟩
   .have hb:b<w.heap.size:=fj hs ⟨i,c,C,bj,bn,h1⟩;exact .inr (.inl ⟨b,C,cs',e',by simp[Mm.new,hi,h1],(jL w _ hb).trans h2,h3,h4,h5,λj p v hp hv=>ax p v (h6 j p v hp hv)⟩)
   .have hb:b<w.heap.size:=fj hs ⟨i,c,0,bj,bn,h1⟩;exact .inr (.inr ⟨b,es,clk,by simp[Mm.new,hi,h1],h2,(jL w _ hb).trans h3,h4,h5⟩)
 .have jU:=hs.inj;refine tH ?_ jU;intro x y hx hy ⟨b4,g9⟩;refine⟨b4,λb C C' di cf bl bi=>?_⟩;by_cases h1:x.1=id
  .have h2:y.1≠id:=λe=>b4 (h1.trans e.symm)
   have b9:m.dom y.1:=by rcases cf with h|h;· exact h
                         trivial
   have e7:x.2=cells:=hs.key (id:=id) (by rw[<-h1];exact hx) hin;simp only[Mm.new,h1,e7,and_self,cz,db,dC] at bl;simp only[Mm.new,h2,false_and,cT] at bi;have:=fj hs ⟨y.1,y.2,C',hy,b9,bi⟩;omega
  .have bo:m.dom x.1:=by rcases di with h|h;· exact h
                         trivial
   simp only[Mm.new,h1,false_and,cT] at bl;by_cases h2:y.1=id
   .have e8:y.2=cells:=hs.key (id:=id) (by rw[<-h2];exact hy) hin;simp only[Mm.new,h2,e8,and_self,cz,db,dC] at bi;have:=fj hs ⟨x.1,x.2,C,hx,bo,bl⟩;omega
   .have b9:m.dom y.1:=by rcases cf with h|h;· exact h
                          .exact absurd h h2
    simp only[Mm.new,h2,false_and,cT] at bi;simp_all
theorem Mx(hs:cX B H m w)(hB:B.n<=w.heap.size){id:Nat}{cells:List AV}(hin:(id,cells)∈H)(eb:cells=[gZ []])(aq:¬m.dom id):cX B H (m.new id cells.length (some (w.heap.size,0))) (w.alloc (.map #[] 0)):=by
 have hle:=Mm.uO (len:=cells.length) (bc:=some (w.heap.size,0)) aq
 have hL:∀b,b<w.heap.size->¬LB m H b->¬LB (m.new id cells.length (some (w.heap.size,0))) H b:=by
  intro b hb hn hl
  rcases tW hs hin hl with h|⟨C,h⟩
  .exact hn h
  simp_all
 have ax:∀p v,bJ B (LB m H) m w p v->bJ B (LB (m.new id cells.length (some (w.heap.size,0))) H) (m.new id cells.length (some (w.heap.size,0))) (w.alloc (.map #[] 0)) p v:=
  λp v h=>h.mono hle hL (λb hb _=>jL w _ hb)
 refine⟨λi c bj hd=>?_,?_⟩
 .by_cases hi:i=id
  .subst hi;obtain rfl:=hs.key bj hin;refine⟨a8,.inr (.inr ⟨w.heap.size,#[],0,a8,by rw[eb];rfl,wq w _,hB,by rw[eb];exact Fh ⟨rfl,λj p e hp=>by simp at hp⟩⟩)⟩
  .have bn:m.dom i:=by
    rcases hd with hd|hd
    .exact hd
    trivial
   obtain⟨ht,dk⟩:=hs.entry i c bj bn;refine⟨by simp[Mm.new,hi,ht],?_⟩
   rcases dk with ⟨h1,h2⟩|⟨b,C,cs',e',h1,h2,h3,h4,h5,h6⟩|⟨b,es,clk,h1,h2,h3,h4,h5⟩
   .exact .inl ⟨by simp[Mm.new,hi,h1],h2⟩
   .have hb:b<w.heap.size:=fj hs ⟨i,c,C,bj,bn,h1⟩;exact .inr (.inl ⟨b,C,cs',e',by simp[Mm.new,hi,h1],(jL w _ hb).trans h2,h3,h4,h5,λj p v hp hv=>ax p v (h6 j p v hp hv)⟩)
   .have hb:b<w.heap.size:=fj hs ⟨i,c,0,bj,bn,h1⟩;exact .inr (.inr ⟨b,es,clk,by simp[Mm.new,hi,h1],h2,(jL w _ hb).trans h3,h4,h5⟩)
 .have jU:=hs.inj;refine tH ?_ jU;intro x y hx hy ⟨b4,g9⟩;refine⟨b4,λb C C' di cf bl bi=>?_⟩;by_cases h1:x.1=id
  .have h2:y.1≠id:=λe=>b4 (h1.trans e.symm)
   have b9:m.dom y.1:=by rcases cf with h|h;· exact h
                         trivial
   have e7:x.2=cells:=hs.key (id:=id) (by rw[<-h1];exact hx) hin;simp only[Mm.new,h1,e7,and_self,cz,db,dC] at bl;simp only[Mm.new,h2,false_and,cT] at bi;have:=fj hs ⟨y.1,y.2,C',hy,b9,bi⟩;omega
  .have bo:m.dom x.1:=by rcases di with h|h;· exact h
                         trivial
   simp only[Mm.new,h1,false_and,cT] at bl;by_cases h2:y.1=id
   .have e8:y.2=cells:=hs.key (id:=id) (by rw[<-h2];exact hy) hin;simp only[Mm.new,h2,e8,and_self,cz,db,dC] at bi;have:=fj hs ⟨x.1,x.2,C,hx,bo,bl⟩;omega
   .have b9:m.dom y.1:=by rcases cf with h|h;· exact h
                          .exact absurd h h2
    simp only[Mm.new,h2,false_and,cT] at bi;simp_all
end
def QOk(P:Program)(B:Base)(H:bE)(m:Mm)(w:World)(n k:Nat)(r:Sem Next)(v:AV):Prop:=
 ∃v' w' m',r.run P w=.ok (.value v') w'/\m.le m'/\(∀i,m'.dom i↔m.dom i\/(n<=i/\i<n+k))/\Bel w.heap.size w w'/\cX B H m' w' /\
  (∀b,LB m' H b->LB m H b\/w.heap.size<=b)/\bJ B (LB m' H) m' w' v v'
section
variable{P:Program}{B:Base}{m:Mm}{w:World}{H h:bE}{n:Nat}{env:Env}{a:Act}{L:Nat->Prop}
theorem fT.q{r:Sem Next}{v:AV}(hs:cX B H m w)(hv:fT P B H m w r v):QOk P B H m w n 0 r v:=by
 obtain⟨v',h1,h2⟩:=hv;exact⟨v',w,m,h1,Mm.le.refl m,λi=>⟨.inl,λh=>h.elim id λh=>ab⟩,Bel.refl _ _,hs,λb hb=>.inl hb,h2⟩
theorem xO{r:Sem Next}{v:AV}{cells:List AV}(hs:cX B H m w)(hB:B.n<=w.heap.size)(hin:(n,cells)∈H)(aq:¬m.dom n)(cs:Array Value)(e:TypeId)(hlen:cells.length=cs.size)(hr:∀(j:Nat)(p:AV)(v:Value),cells[j]?=some p->cs[j]?=some v->bJ B (LB m H) m w p v)(v':Value)(a4:r.run P w=.ok (.value v') (w.alloc (.cells cs e)))(hv:∀m':Mm,m'.dom n->m'.top n=cells.length->m'.addr n cells.length=some (w.heap.size,cs.size)->∀L w',bJ B L m' w' v v'):QOk P B H m w n 1 r v:=by
 have bg:=Fw hs hB hin aq cs e (Nat.le_of_eq hlen) hr;refine⟨v',_,_,a4,Mm.uO aq,λi=>?_,(Bel.refl _ _).alloc (bS _) _,bg,λb hb=>?_,hv _ (Or.inr rfl) a8 a8 _ _⟩
 .simp only[Mm.new]
  grind
 .rcases tW hs hin hb with h|⟨C,h⟩
  .exact .inl h
  simp_all
def mL(B:Base)(L:Nat->Prop)(m:Mm)(w:World)(cs:List AV)(vs:Array Value):Prop:=
 cs.length=vs.size/\∀(j:Nat)(p:AV)(v:Value),cs[j]?=some p->vs[j]?=some v->bJ B L m w p v
theorem wx(vs:Array Value):mL B L m w (vs.toList.map nD) vs:=by
 refine⟨ae,λj p v hp hv=>?_⟩;obtain⟨x,hx,rfl⟩:=fX hp;rw[iW] at hx
 obtain rfl:x=v:=by rw[hx] at hv;injection hv
 exact vY _
theorem qx{t:TypeId}{z:List AV}(hz:fw P t=some z):∃i v,P.info? t=some i/\i.zero=some v/\z=v.cells.toList.map nD:=by
 unfold fw at hz;split at hz
 .rename_i i hi
  cases hv:i.zero with
  |none=>rw[hv] at hz;cases hz
  |some v=>rw[hv] at hz;simp_all
 .cases hz
theorem mL.set{cs:List AV}{vs:Array Value}(h:mL B L m w cs vs)(i:Nat){p:AV}{v:Value}(hp:bJ B L m w p v):mL B L m w (cs.set i p) (vs.setIfInBounds i v):=by
 refine⟨by simpa using h.1,λj q u hq hu=>?_⟩;rw[JN] at hq;rw[iU] at hu;by_cases fm:i=j
 .simp_all
 .simp only[fm,cT] at hq hu;exact h.2 j q u hq hu
theorem Fx:∀(ps:List AV)(us:List Value)(off:Nat)(cs:List AV)(vs:Array Value),mL B L m w cs vs->ps.length=us.length->(∀(j:Nat)(p:AV)(v:Value),ps[j]?=some p->us[j]?=some v->bJ B L m w p v)->mL B L m w (setAt cs off ps) ((us.zipIdx off).foldl (λcs (c,j)=>cs.setIfInBounds j c) vs)
 |[],us,off,cs,vs,h,hl,_=>by
  cases us with
  |nil=>exact h
  |cons u us=>cases hl
 |p::ps,us,off,cs,vs,h,hl,hr=>by
  cases us with
  |nil=>cases hl
  |cons u us=>
   simp only[setAt,List.zipIdx_cons,Dy];exact Fx ps us (off+1) _ _ (h.set off (hr 0 p u rfl rfl)) ak (λj q v hq hv=>hr (j+1) q v ak ak)
theorem wy:∀(ps:List AV)(off:Nat)(cs:List AV),(setAt cs off ps).length=cs.length
 |[],_,_=>rfl
 |_::ps,off,cs=>by rw[setAt,wy ps];simp
theorem My(us:List Value)(off k:Nat)(vs:Array Value):((us.zipIdx k).foldl (λcs (c,j)=>cs.setIfInBounds (off+j) c) vs)=((us.zipIdx (off+k)).foldl (λcs (c,j)=>cs.setIfInBounds j c) vs):=by
 induction us generalizing k vs with
 |nil=>rfl
 |cons u us ih=>
  simp only[List.zipIdx_cons,Dy];rw[ih (k+1)];rfl
theorem zT(place a6:Nat->Option (Nat×Nat))(d':∀i x,place i=some x->a6 i=some x):∀(parts:List (Nat×AV))(vparts:List (Nat×Value))(cs cs':List AV)(vs:Array Value),parts.length=vparts.length->(∀(j i:Nat)(p:AV)(x:Nat×Value),parts[j]?=some (i,p)->vparts[j]?=some x->x.1=i/\bJ B L m w p x.2)->mL B L m w cs vs->pD place cs parts=some cs'->∃aw,Instr.fill a6 vs vparts=some aw/\mL B L m w cs' aw
 |[],vparts,cs,cs',vs,hl,_,h,hf=>by
  cases vparts with
  |nil=>cases hf;exact⟨vs,rfl,h⟩
  |cons x xs=>cases hl
 |(i,p)::parts,vparts,cs,cs',vs,hl,hr,h,hf=>by
  cases vparts with
  |nil=>cases hl
  |cons x xs=>
   obtain⟨i',v⟩:=x;obtain⟨hi,hp⟩:=hr 0 i p (i',v) rfl rfl;simp only at hi hp;subst hi;simp only[pD] at hf;split at hf
   .cases hf
   .rename_i off size g5;split at hf
    .cases hf
    .rename_i d9;simp only[not_or] at d9;obtain⟨h1,h2,h3⟩:=d9
     have bu:p.ok=true:=ak
     obtain⟨e1,e2⟩:=vZ hp bu;have dQ:=Fx p.cells v.cells.toList off cs vs h ab (λj q u hq hu=>e2 j q u hq (by rw[<-iW];exact hu));obtain⟨aw,b7,b5⟩:=zT place a6 d' parts xs _ cs' _ ak (λj i q x hq hx=>hr (j+1) i q x ak ak) dQ hf;refine⟨aw,?_,b5⟩;simp only[Instr.fill,d' _ _ g5]
     have gd:v.cells.size=size:=by rw[<-e1];omega
     have ge:¬(off+v.cells.size>vs.size):=by rw[<-e1,<-h.1];exact h3
     rw[bP al];rw[<-b7];congr 1;rw[<-Array.foldl_toList,Array.toList_zipIdx];exact My v.cells.toList off 0 vs
theorem Fy(f:Field->Sem (Nat×Nat))(g:Field->Option (Nat×Nat))(eg:∀x y,g x=some y->(f x).run P w=.ok y w):∀(fs:List Field)(l:List (Nat×Nat)),fs.mapM g=some l->(fs.mapM f).run P w=.ok l w
 |[],l,h=>by simp_all
 |x::fs,l,h=>by
  simp only[yx] at h ⊢
  cases hx:g x with
  |none=>grind
  |some y=>
   simp only[hx,Option.bind_eq_bind,lj] at h
   cases hr:fs.mapM g with
   |none=>grind
   |some l'=>
    simp only[hr,lj] at h;cases h;simp[eg x y hx,Fy f g eg fs l' hr]
theorem Fz(parts:Array (Nat×Operand))(hx:∀x∈parts.toList.map (·.2),bJ B L m w (ev env x) (a.eval x)):∀(j i:Nat)(p:AV)(x:Nat×Value),(parts.toList.map λ(i,x)=>(i,ev env x))[j]?=some (i,p)->(parts.toList.map λ(i,x)=>(i,a.eval x))[j]?=some x->x.1=i/\bJ B L m w p x.2:=by
 grind
theorem Mz(t:TypeId)(parts:Array (Nat×Operand))(o:Oper)(ho:o.op=.build t parts){c:Prop}{v:AV}{E:List (List AV)}(h0:aOp P h n (ev env) (.build t parts)=some (c,v,E))(hx:∀x∈parts.toList.map (·.2),bJ B (LB m H) m w (ev env x) (a.eval x)):E=[]/\fT P B H m w (execOp a.eval o) v:=by
 simp only[aOp] at h0;split at h0
 .rename_i z hz;obtain⟨iz,vz,hi,hzero,rfl⟩:=qx hz;split at h0
  .rename_i l hl;split at h0
   .rename_i cs d4;cases h0;refine⟨rfl,?_⟩
    have key:∀a6:Nat->Option (Nat×Nat),(∀i x,l[i]?=some x->a6 i=some x)->∃aw,Instr.fill a6 vz.cells (parts.map λ(i,x)=>(i,a.eval x)).toList=some aw/\mL B (LB m H) m w cs aw:=by
     intro a6 d';rw[JO];exact zT (l[·]?) a6 d' _ _ _ cs vz.cells ae (Fz parts hx) (wx vz.cells) d4
    unfold pls at hl;split at hl
    .rename_i fs hu
     have hm:=Fy (P:=P) (w:=w) (λf=>Functor.map (Prod.mk f.offset) (sizeOf f.type)) _ (λf y hy=>by
      cases hq:P.info? f.type with
      |none=>grind
      |some i=>simp only[hq,eh,db] at hy;subst hy;simp[sizeOf,typeInfo,hq]) fs.toList l hl
     obtain⟨aw,b7,b5⟩:=key (l.toArray[·]?) (λi x hx=>ak);refine⟨.agg aw,?_,.agg b5.1 b5.2⟩
     have g2:(fs.mapM λf=>(Functor.map (Prod.mk f.offset) (sizeOf f.type):Sem (Nat×Nat))).run P w=.ok l.toArray w:=by
      rw[tA,Sem.run_map,hm];rfl
     simp only[JO,yC] at b7;simp[execOp,ho,Instr.build,zeroValue,typeInfo,hi,hzero,run_underlying hu,g2,b7]
    .rename_i k e hu
     cases ag:P.info? e with
     |none=>simp_all
     |some ie=>
      simp only[ag,eh,db] at hl
      obtain⟨aw,b7,b5⟩:=key (λi=>some (i*ie.size,ie.size)) (λi x hx=>by
       rw[<-hl] at hx
       grind)
      refine⟨.agg aw,?_,.agg b5.1 b5.2⟩;simp only[JO] at b7;simp[execOp,ho,Instr.build,zeroValue,typeInfo,hi,hzero,run_underlying hu,sizeOf,ag,b7]
    .cases hl
   .cases h0
  .cases h0
 .cases h0
theorem MA(t:TypeId)(o:Oper)(ho:o.op=.alloc t){c:Prop}{v:AV}{E:List (List AV)}(h0:aOp P h n (ev env) (.alloc t)=some (c,v,E))(hs:cX B H m w)(hB:B.n<=w.heap.size)(hE:∀k cs,E[k]?=some cs->(n+k,cs)∈H)(aq:∀k,k<E.length->¬m.dom (n+k)):QOk P B H m w n E.length (execOp a.eval o) v:=by
 simp only[aOp] at h0;split at h0
 .rename_i z hz;obtain⟨iz,vz,hi,hzero,rfl⟩:=qx hz;cases h0;have hz:=wx (B:=B) (L:=LB m H) (m:=m) (w:=w) vz.cells;exact xO hs hB (hE 0 _ rfl) (aq 0 ae) vz.cells t hz.1 hz.2 (.pointer (some ⟨w.heap.size,0,none⟩)) (by simp[execOp,ho,Instr.alloc,zeroValue,typeInfo,hi,hzero,newVar,newRow])
   (λm' h1 h2 h3 L w'=>.ptr h1 (by rw[h2];simp) h3 (by rw[iI,DC];simp))
 .cases h0
theorem MB(t:TypeId)(x:Operand)(o:Oper)(ho:o.op=.box t x){c:Prop}{v:AV}{E:List (List AV)}(h0:aOp P h n (ev env) (.box t x)=some (c,v,E))(hc:c)(hs:cX B H m w)(hB:B.n<=w.heap.size)(hE:∀k cs,E[k]?=some cs->(n+k,cs)∈H)(aq:∀k,k<E.length->¬m.dom (n+k))(hx:bJ B (LB m H) m w (ev env x) (a.eval x)):QOk P B H m w n E.length (execOp a.eval o) v:=by
 simp only[aOp,db,dC] at h0;obtain⟨rfl,rfl,rfl⟩:=h0;obtain⟨h1,h2⟩:=vZ hx hc;exact xO hs hB (hE 0 _ rfl) (aq 0 ae) (a.eval x).cells t h1 h2 (.pointer (some ⟨w.heap.size,0,none⟩)) (by simp[execOp,ho,Instr.box,newVar,newRow])
  (λm' f5 h2 h3 L w'=>.ptr f5 (by rw[h2];simp) h3 (by rw[h1];simp))
end
section
variable{P:Program}{B:Base}{m:Mm}{w:World}{H h:bE}{n:Nat}{env:Env}{a:Act}{L:Nat->Prop}
theorem FA(z:List AV)(hz:0<z.length):∀(k j:Nat),j<k*z.length->(jf k z)[j]?=z[j%z.length]?
 |0,j,h=>by simp at h
 |k+1,j,h=>by
  have e:jf (k+1) z=z++jf k z:=by rfl
  rw[e];by_cases hj:j<z.length
  .rw[rA hj,Nat.mod_eq_of_lt hj]
  .have hj:z.length<=j:=ab
   have h':j-z.length<k*z.length:=by rw[iY] at h;omega
   rw[tI hj,FA z hz k _ h',Nat.mod_eq_sub_mod hj]
theorem wz(z:List AV)(k:Nat):(jf k z).length=k*z.length:=by
 simp[jf,List.length_flatten,List.map_replicate]
theorem FB{z:List AV}{zero:Array Value}(hz:0<z.length)(hr:mL B L m w z zero)(k:Nat):mL B L m w (jf k z) ((Array.range (k*z.length)).map λi=>zero[i%zero.size]!):=by
 refine⟨by simp[wz],λj p v hp hv=>?_⟩
 have hj:j<k*z.length:=by have:=(eX.1 hp).1;rwa [wz] at this
 rw[FA z hz k j hj] at hp;refine hr.2 (j%z.length) p v hp ?_;have hm:j%zero.size<zero.size:=yz _ (by rw[<-hr.1];exact hz)
 have:v=zero[j%zero.size]!:=by
  simp_all
 rw[this,hr.1];simp[hm]
theorem r0:Array.range 0=#[]:=rfl
theorem MD(t:TypeId)(len:Nat)(parts:Array (Nat×Operand))(o:Oper)(ho:o.op=.buildSlice t len parts){c:Prop}{v:AV}{E:List (List AV)}(h0:aOp P h n (ev env) (.buildSlice t len parts)=some (c,v,E))(hc:c)(hs:cX B H m w)(hB:B.n<=w.heap.size)(hE:∀k cs,E[k]?=some cs->(n+k,cs)∈H)(aq:∀k,k<E.length->¬m.dom (n+k))(hx:∀x∈parts.toList.map (·.2),bJ B (LB m H) m w (ev env x) (a.eval x)):QOk P B H m w n E.length (execOp a.eval o) v:=by
 simp only[aOp] at h0;split at h0
 .rename_i e sz bg;obtain⟨hu,ie,ag,dc⟩:=ky bg;split at h0
  .rename_i z hz;obtain⟨iz,vz,hi,hzero,rfl⟩:=qx hz;rw[ag] at hi;cases hi;split at h0
   .rename_i cs d4;cases h0;obtain⟨c1,c2,c3⟩:=hc;have hz:=wx (B:=B) (L:=LB m H) (m:=m) (w:=w) vz.cells;have b6:=FB ab hz len;rw[c1] at b6;obtain⟨aw,b7,b5⟩:=zT (λi=>some (i*sz,sz)) (λi=>some (i*sz,sz)) (λ_ _ h=>h) _ (parts.toList.map λ(i,x)=>(i,a.eval x)) _ cs _ ae (Fz parts hx) b6 d4
    have a4:(execOp a.eval o).run P w=.ok (.value (.slice (some ⟨w.heap.size,0,none⟩) len len)) (w.alloc (.cells aw e)):=by
     by_cases h0:len*sz=0
     .have g0:len=0:=by rcases Nat.mul_eq_zero.1 h0 with h|h;· exact h
                        .omega
      subst g0;simp only[JP] at b7
      have e0:Instr.fill (λi=>some (i*ie.size,ie.size)) #[] (List.map (λx=>(x.fst,a.eval x.snd)) parts.toList)=some aw:=by
       rw[dc];grind
      simp[execOp,ho,Instr.buildSlice,run_underlying hu,sizeOf,typeInfo,ag,r0,e0,newRow]
     .have e0:Instr.fill (λi=>some (i*sz,sz)) (Array.map (λx=>vz.cells[x%vz.cells.size]!) (Array.range (len*sz))) (List.map (λx=>(x.fst,a.eval x.snd)) parts.toList)=some aw:=b7
      have dr:¬(16777216<len*sz):=ab
      simp[execOp,ho,Instr.buildSlice,run_underlying hu,sizeOf,typeInfo,zeroValue,ag,dc,hzero,dr,e0,newRow];omega
    exact xO hs hB (hE 0 _ rfl) (aq 0 ae) aw e b5.1 b5.2 _ a4 (λm' h1 h2 h3 L w'=>by
     have hlen:cs.length=len*sz:=by
      have:∀(place:Nat->Option (Nat×Nat))(parts:List (Nat×AV))(cs cs':List AV),pD place cs parts=some cs'->cs'.length=cs.length:=by
       intro place parts
       induction parts with
       |nil=>intro cs cs' h;injection h with h;rw[h]
       |cons x xs ih=>
        obtain⟨i,x⟩:=x;intro cs cs' h;simp only[pD] at h;split at h
        .cases h
        .split at h
         .cases h
         .rw[ih _ _ h,wy]
      rw[this _ _ _ _ d4,wz,c1]
     refine .msl h1 (by rw[h2];simp) (bS _) (λe=>?_) (λb C e=>?_)
     .rw[h3] at e;cases e
     .rw[h3] at e;injection e with e;injection e with e1 e2;subst e1;subst e2
      have:=b5.1
      simp_all)
   .cases h0
  .cases h0
 .cases h0
theorem ME(t:TypeId)(l k:Operand)(o:Oper)(ho:o.op=.makeSlice t l k){c:Prop}{v:AV}{E:List (List AV)}(h0:aOp P h n (ev env) (.makeSlice t l k)=some (c,v,E))(hc:c)(hs:cX B H m w)(hB:B.n<=w.heap.size)(hE:∀k cs,E[k]?=some cs->(n+k,cs)∈H)(aq:∀k,k<E.length->¬m.dom (n+k))(hl:bJ B (LB m H) m w (ev env l) (a.eval l))(hk:bJ B (LB m H) m w (ev env k) (a.eval k)):QOk P B H m w n E.length (execOp a.eval o) v:=by
 simp only[aOp] at h0;split at h0
 .rename_i e sz _ _ k1 q _ _ k2 q' bg el ek;rw[el] at hl;rw[ek] at hk;obtain⟨hu,ie,ag,dc⟩:=ky bg;split at h0
  .rename_i z by_ hz fh;obtain⟨iz,vz,hi,hzero,rfl⟩:=qx hz;rw[ag] at hi;cases hi;cases h0;obtain⟨rfl,c2,c3,c4,c5,c6⟩:=hc
   have c7:ie.bytes=by_:=by simpa[byE,ag] using fh
   have hz:=wx (B:=B) (L:=LB m H) (m:=m) (w:=w) vz.cells;have b6:=FB ab hz q.toNat;rw[c4] at b6;have hw:IntKind.i64.wrap q=q:=nh (by simp[inI,IntKind.min,IntKind.max,IntKind.signed,IntKind.bits];omega)
   have f8:¬((by_:Int)*q>281474976710656):=by
    have:(by_:Int)*q<=100000*1000000000:=Int.mul_le_mul ab c3 c2 ab;omega
   have a4:(execOp a.eval o).run P w=.ok (.value (.slice (some ⟨w.heap.size,0,none⟩) q.toNat q.toNat)) (w.alloc (.cells ((Array.range (q.toNat*sz)).map (vz.cells[· % vz.cells.size]!)) e)):=by
    have ep:¬q<0:=ab
    have bk:¬(281474976710656<(by_:Int)*q):=ab
    by_cases ga:q.toNat=0
    .simp[execOp,ho,hl.hY,hk.hY,Instr.makeSlice,run_underlying hu,asInt,asIntOf,typeInfo,ag,c7,hw,ep,bk,sizeOf,ga,r0,newRow]
    .simp[execOp,ho,hl.hY,hk.hY,Instr.makeSlice,run_underlying hu,asInt,asIntOf,typeInfo,ag,c7,hw,ep,bk,sizeOf,dc,zeroValue,hzero,newRow]
     grind
   exact xO hs hB (hE 0 _ rfl) (aq 0 ae) _ e b6.1 b6.2 _ a4 (λm' h1 h2 h3 L w'=>by
    have hlen:=wz (vz.cells.toList.map nD) q.toNat;rw[c4] at hlen;refine .msl h1 (by rw[h2];exact bS _) (bS _) (λe=>?_) (λb C e=>?_)
    .rw[h3] at e;cases e
    simp_all)
  .cases h0
 .cases h0
end
end Go.Fi
namespace Go.Fi
open Go Go.RowKit
variable[bI]
omit [bI] in
theorem zU{d:TypeDesc}{p:PV}(h:okK d p=true):MapKept.IsKey d (dN p):=by
 cases d<;>cases p<;>simp_all[okK,dN,MapKept.IsKey]
omit [bI] in
theorem MF{d:TypeDesc}{k p:PV}(hk:okK d k=true)(hp:okK d p=true):Instr.sameNow d (dN k) (dN p)=some (eqK k p):=by
 cases d<;>cases k<;>simp[okK] at hk<;>cases p<;>simp[okK] at hp
 .subst hk;subst hp;simp[Instr.sameNow,dN,eqK];rfl
 .rename_i a b;simp only[Instr.sameNow,dN,eqK];congr 1;by_cases h:a=b
  .subst h;rw[decide_eq_true rfl];exact (MapKept.bytes_beq a a).2 rfl
  .rw[decide_eq_false h]
   cases hb:(a==b) with
   |false=>rfl
   |true=>exact absurd ((MapKept.bytes_beq a b).1 hb) h
def gz:List (PV×PV)->PV->Nat->Option (Nat×PV)
 |[],_,_=>none
 |p::r,k,i=>if eqK k p.1=true then some (i,p.2) else gz r k (i+1)
omit [bI] in
theorem FC:∀(l:List (PV×PV))(k:PV)(i:Nat),(gz l k i).map (·.2)=nH l k
 |[],_,_=>rfl
 |p::r,k,i=>by
  unfold gz nH;split
  .rfl
  .exact FC r k (i+1)
omit [bI] in
theorem zV{d:TypeDesc}{k:PV}(hk:okK d k=true):∀(l:List (PV×PV))(es:List MapEntry)(i:Nat),l.length=es.length->(∀(j:Nat)(p:PV×PV)(e:MapEntry),l[j]?=some p->es[j]?=some e->e.key=dN p.1/\e.val=dN p.2)->(∀p∈l,okK d p.1=true)->Instr.findNow d (dN k) es i=some ((gz l k i).map λx=>(x.1,dN x.2))
 |[],es,i,hl,_,_=>by
  have:es=[]:=ja al;subst this;rfl
 |p::r,[],i,hl,_,_=>by simp at hl
 |p::r,e::es,i,hl,he,bu=>by
  obtain⟨h1,h2⟩:=he 0 p e rfl rfl;have hs:=MF hk (bu p ae);unfold Instr.findNow gz;rw[h1,hs]
  cases hq:eqK k p.1 with
  |true=>simp[h2]
  |false=>
   simp only[dz,cT];exact zV hk r es (i+1) ak (λj p' e' gi gf=>he (j+1) p' e' aE aE) (λq dt=>bu q (eH _ dt))
section
variable{P:Program}{B:Base}{m:Mm}{w:World}{H h:bE}{n:Nat}{env:Env}{a:Act}{L:Nat->Prop}
section
omit [bI]
theorem cX.Iq(hs:cX B H m w){id:Nat}{cells:List AV}(hin:(id,cells)∈H){v:Value}(hv:bJ B L m w (.mp id) v){l:List (PV×PV)}(hm:fN cells=some l):∃b es clk,v=.map (some b)/\m.dom id/\jS cells=true/\m.addr id cells.length=some (b,0)/\w.heap[b]?=some (.map es clk)/\B.n<=b/\oE es l:=by
 cases hv with
 |@mp _ b hd ht ha=>
  have hlen:cells.length=1:=by
   unfold fN at hm;split at hm
   .rfl
   .cases hm
  rcases (hs.entry id cells hin hd).2 with ⟨h0,_⟩|⟨b',C,cs,e,h1,h2,h3,h4,h5,h6⟩|⟨b',es,clk,h1,h2,h3,h4,h5⟩
  .rw[hlen,ha] at h0;cases h0
  .rw[hlen,ha] at h1;injection h1 with h1;injection h1 with h1 h7;omega
  simp_all
theorem zW{G:Nat->Prop}{p:PV}(h:isLit p=true):Rep G w p (dN p):=by
 cases p<;>simp[isLit] at h
 .exact .bool _
 .exact .int _ _
 .exact .str _
theorem zX{p:PV}{v:Value}{G:Nat->Prop}(h:isLit p=true)(hr:Rep G w p v):v=dN p:=by
 cases p<;>simp[isLit] at h<;>cases hr<;>rfl
theorem FD{d:TypeDesc}{p:PV}(h:okK d p=true):isLit p=true:=by
 cases d<;>cases p<;>simp_all[okK,isLit]
theorem MG{e:TypeId}{z:PV}(h:xM P e=some z):(zeroValue e).run P w=.ok (dN z) w/\isLit z=true:=by
 unfold xM at h
 cases hi:P.info? e with
 |none=>rw[hi] at h;cases h
 |some i=>
  rw[hi] at h;simp only[lj] at h
  have hz:∀v,i.zero=some v->(zeroValue e).run P w=.ok v w:=λv hv=>by
   simp[zeroValue,typeInfo,hi,hv]
  split at h<;>first|(cases h;exact⟨hz _ ‹_›,rfl⟩)|cases h
theorem FE{t:TypeId}{d:TypeDesc}{z:PV}(h:nI P t=some (d,z)):∃k e,P.underlying t=some (.map k e)/\P.underlying k=some d/\xM P e=some z:=by
 unfold nI at h
 grind
theorem FF:∀(l:List (PV×PV))(k q:PV),(∀p∈l,isLit p.2=true)->nH l k=some q->isLit q=true
 |[],k,q,_,h=>by cases h
 |p::r,k,q,hl,h=>by
  unfold nH at h;split at h
  .simp_all
  .exact FF r k q (λy hy=>hl y (eH _ hy)) h
theorem MH(t:TypeId)(x k:Operand)(c0:Bool)(o:Oper)(ho:o.op=.lookup t x k c0){c:Prop}{v:AV}{E:List (List AV)}(h0:aOp P h n (ev env) (.lookup t x k c0)=some (c,v,E))(hc:c)(hs:cX B H m w)(ba:∀id cs,cJ h id=some cs->(id,cs)∈H)(hx:bJ B (LB m H) m w (ev env x) (a.eval x))(hk:bJ B (LB m H) m w (ev env k) (a.eval k)):E=[]/\fT P B H m w (execOp a.eval o) v:=by
 simp only[aOp] at h0;unfold lkV at h0;split at h0
 .rename_i l ow fl kp d z hl ft g3
  injection h0 with h0;injection h0 with h1 h2;injection h2 with h2 h3
  subst h1;subst h2;subst h3;refine⟨rfl,?_⟩
  obtain⟨id,cm,cells,hg,hd⟩:∃id,ev env x=.mp id/\∃cells,cJ h id=some cells/\fN cells=some l:=by
   cases hex:ev env x with
   |mp id=>
    rw[hex] at hl;simp only[mpC] at hl
    cases hg:cJ h id with
    |none=>rw[hg] at hl;cases hl
    |some cells=>rw[hg] at hl;simp_all
   |_=>rw[hex] at hl;simp[mpC] at hl
  rw[cm] at hx;obtain⟨b,es,clk,hv,_,_,_,hb,_,ef⟩:=hs.Iq (ba id cells hg) hx hd;unfold okM at hc;rw[eY,gp] at hc;obtain⟨dg,ea⟩:=hc;rw[ft] at hk
  have fz:a.eval k=dN kp:=by cases hk with|w hr _=>exact zX (FD dg) hr
  obtain⟨kt,et,hu,ee,hz⟩:=FE g3;obtain⟨gk,f3⟩:=MG (w:=w) hz
  have hf:=zV dg l es.toList 0 (by rw[DC];exact ef.1) (λj p e hp he=>ef.2 j p e hp (by rw[<-iW];exact he)) (λp hp=>by
   have:=ea p hp;rw[eY] at this;exact this.1)
  have d6:=FC l kp 0
  have a4:(Instr.lookup t (.map (some b)) (dN kp) c0).run P w=.ok (match gz l kp 0 with
   |some x=>if c0=true then .tuple #[dN x.2,.bool true] else dN x.2
   |none=>if c0=true then .tuple #[dN z,.bool false] else dN z) w:=by
   unfold Instr.lookup;simp only[Sem.run_bind,run_underlying hu,Result.andThen_ok,MapKept.run_getObj_map hb,Sem.run_pure];rw[show (10000:Nat)=9999+1 from rfl,MapKept.run_checkKey ee (zU dg)];simp only[Result.andThen_ok];rw[MapKept.run_findKey ee hf];simp only[Result.andThen_ok]
   cases gz l kp 0 with
   |none=>simp_all
   |some x=>rfl
  have cp:∀q,nH l kp=some q->isLit q=true:=λq hq=>FF l kp q (λp hp=>by have:=ea p hp;rw[eY] at this;exact this.2) hq
  refine⟨_,by simp only[execOp,ho,hv,fz,Sem.run_bind,a4,Result.andThen_ok];rfl,?_⟩
  have pair:∀(q:PV)(bb:Bool),isLit q=true->bJ B (LB m H) m w (.w false false (.tup [q,.bool bb])) (.tuple #[dN q,.bool bb]):=λq bb hq=>by
   refine .w (.tup rfl (λj p u hp hu=>?_)) nofun
   match j,hp,hu with
   |0,hp,hu=>simp at hp hu;subst hp;subst hu;exact zW hq
   |1,hp,hu=>simp at hp hu;subst hp;subst hu;exact .bool _
  cases hq:gz l kp 0 with
  |none=>
   rw[hq] at d6;have:nH l kp=none:=d6.symm;rw[this]
   cases c0 with
   |true=>exact pair z false f3
   |false=>exact .w (zW f3) nofun
  |some y=>
   rw[hq] at d6;have:nH l kp=some y.2:=d6.symm;rw[this]
   cases c0 with
   |true=>exact pair y.2 true (cp _ this)
   |false=>exact .w (zW (cp _ this)) nofun
 .cases h0
end
end
end Go.Fi
