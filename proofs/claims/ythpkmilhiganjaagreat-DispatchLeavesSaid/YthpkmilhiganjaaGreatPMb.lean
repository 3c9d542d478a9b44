/- Lemmas. -/
import Derived.Test.YthpkmilhiganjaaGreatPMa
set_option linter.all false
set_option maxHeartbeats 32000000
set_option maxRecDepth 100000
namespace Go.Fc
open Go
def Calm(P:Program){α:Type}(s:Sem α):Prop:=∀w es,∃b,s.runT P w es=(.ok b w,es)
section
variable{P P':Program}{C:Cx}(h:Kin P P')
include h
theorem E7(b:Bool)(d:Nat):∀(t:TypeId),gh P d t=true->∀(n:Nat)(x:Value),RE P P' C (Instr.checkKey b n t x) (Instr.checkKey b n t x):=by
 induction d with
 |zero=>intro t ht;cases ht
 |succ d ih=>
  intro t ht n x
  cases n with
  |zero=>exact cV _ _
  |succ n=>
   unfold gh at ht;unfold Instr.checkKey
   rcases hu:P.underlying t with _|td
   .rw[hu] at ht;cases ht
   rw[hu] at ht;refine jy h hu ?_
   cases td with
   |int k=>cases x<;>exact aI _
   |string=>cases x<;>exact aI _
   |bool=>cases x<;>exact aI _
   |slice e=>cases x<;>exact aI _
   |array len e=>
    have hx:=ih e ht n
    cases x<;>first|exact aY _ _|skip
    dsimp only
    repeat' first|exact aI _|exact hx _|exact fZ h _|exact nk h _ _ _|refine aJ ?_ λ_=>?_|refine At _ _ (λ_ _=>?_) _ _|split|dsimp only
   |_=>cases ht
theorem E8{d:Nat}{t:TypeId}(ht:gh P d t=true)(k:Value):∀(es:List MapEntry)(i:Nat),RE P P' C (Instr.findAsking t k es i) (Instr.findAsking t k es i)
 |[],_=>aI _
 |e::es,i=>by
  unfold Instr.findAsking
  refine aJ (Ax h d t ht _ _ _) λb=>?_
  split
  .exact aI _
  .exact E8 ht k es _
theorem E9{d:Nat}{t:TypeId}(ht:gh P d t=true)(k:Value)(es:List MapEntry):RE P P' C (Instr.findKey t k es) (Instr.findKey t k es):=by
 unfold Instr.findKey
 refine aJ (dO h t) λtd=>?_
 split
 .exact aI _
 .exact E8 h ht _ _ _
omit h in
theorem LL(r:Nat){α:Type}(m:String){f g:Array MapEntry->Nat->Sem α}{D:α->Prop}{Q:α->α->Prop}(hf:∀es c,RT P P' C D Q (f es c) (g es c)):RT P P' C D Q (getObj r >>= λo=>match o with | .map es c=>f es c|_=>stuck m) (getObj r >>= λo=>match o with | .map es c=>g es c|_=>stuck m):=by
 refine nq r (λo ho=>?_) (λo ho=>?_)
 .cases o<;>first|exact hf _ _|exact aY _ _
 .cases o<;>first|exact absurd trivial ho|exact aY _ _
theorem LM{d:Nat}{t key elem:TypeId}(hm:P.underlying t=some (.map key elem))(hk:gh P d key=true)(x i:Value)(ok:Bool):RE P P' C (Instr.lookup t x i ok) (Instr.lookup t x i ok):=by
 unfold Instr.lookup;refine jy h hm ?_;dsimp only
 have tail:∀es:Array MapEntry,RE P P' C (do
  Instr.checkKey es.isEmpty 10000 key i
  let (v,b) <-match <-Instr.findKey key i es.toList with
   |some (_,v)=>pure (v,true)
   |none=>pure (<-zeroValue elem,false)
  pure (if ok then Value.tuple #[v,.bool b] else v)) (do
  Instr.checkKey es.isEmpty 10000 key i
  let (v,b) <-match <-Instr.findKey key i es.toList with
   |some (_,v)=>pure (v,true)
   |none=>pure (<-zeroValue elem,false)
  pure (if ok then Value.tuple #[v,.bool b] else v)):=λes=>by
  repeat' first|exact aI _|exact E7 h _ d _ hk _ _|exact E9 h hk _ _|exact oJ h _|refine aJ ?_ λ_=>?_|split|dsimp only
 cases x with
 |map r=>
  cases r with
  |none=>grind
  |some r=>
   refine nq r (λo ho=>?_) (λo ho=>?_)
   .cases o<;>first|exact tail _|exact aJ (aI _) tail|exact aY _ _|exact aJ (aY _ _) tail
   .cases o<;>first|exact absurd trivial ho|exact aY _ _|exact aJ (aY _ _) tail
 |_=>exact aJ (aY _ _) λes=>tail es
theorem LN{d:Nat}{t key elem:TypeId}(hm:P.underlying t=some (.map key elem))(hk:gh P d key=true)(x i v:Value):RE P P' C (Instr.mapUpdate t x i v) (Instr.mapUpdate t x i v):=by
 unfold Instr.mapUpdate;refine jy h hm ?_;dsimp only
 cases x with
 |map r=>
  cases r with
  |none=>exact ga h _
  |some r=>
   dsimp only
   refine LL r _ λes c=>?_
   refine aJ (E7 h _ d _ hk _ _) λ_=>aJ (E9 h hk _ _) λo=>?_
   cases o with
   |none=>exact oI _ trivial
   |some o=>
    unfold Instr.keyThatStays
    repeat' first|exact aI _|exact oI _ trivial|exact jv _|refine aJ ?_ λ_=>?_|split|dsimp only
 |_=>exact aY _ _
omit h in
theorem LQ(s:FloatKind)(b:Nat)(k:IntKind):RE P P' C (Conv.floatToInt s b k) (Conv.floatToInt s b k):=by
 unfold Conv.floatToInt
 repeat' first|exact aI _|exact aY _ _|exact cV _ _|exact jv _|refine aJ ?_ λ_=>?_|split|dsimp only
omit h in
theorem LU(e:TypeId)(x:ByteArray):RE P P' C (Conv.stringToBytes e x) (Conv.stringToBytes e x):=by
 unfold Conv.stringToBytes
 refine aJ (jv _) λcap=>?_
 dsimp only;generalize (Array.map (λb:UInt8=>Value.int IntKind.u8 ↑b.toNat) x.data)++Array.replicate (cap-x.size) (Value.int .u8 0)=c
 have key:∀(p:Program)(w:World)(es:Array Event),(do
  let a <-newRow e c
  markStringish a
  pure (Value.slice (some a) x.size cap):Sem Value).runT p w es=(Sem.pure (Value.slice (some ⟨w.heap.size,0,none⟩) x.size cap)).runT p { w with heap:=w.heap.push (.cells c e (c.size,c.size+1))} es:=by
  intro p w es
  have hm:(w.heap.push (.cells c e)).modify w.heap.size (fun | .cells c' elem (lo,hi)=>.cells c' elem (if lo==hi then (c.size,c.size+1) else (min lo c.size,max hi (c.size+1)))|o=>o)=w.heap.push (.cells c e (c.size,c.size+1)):=by
   apply I7;intro i;rw[dT,pR,pR];by_cases hi:i=w.heap.size
   .subst hi;simp
   .rw[ar hi,ar hi,ar (cK hi)]
  have c4:World.shape? { w with heap:=w.heap.push (.cells c e)} w.heap.size=some (e,c.size):=by simp[World.shape?]
  have bj:World.freeze { w with heap:=w.heap.push (.cells c e)} ⟨w.heap.size,c.size,none⟩ 1 = { w with heap:=w.heap.push (.cells c e (c.size,c.size+1))} :=
   congrArg (λh=>({ w with heap:=h }:World)) hm
  have h1:(newRow e c).runT p w es=(.ok ⟨w.heap.size,0,none⟩ { w with heap:=w.heap.push (.cells c e)},es):=rfl
  have h2:(markStringish ⟨w.heap.size,0,none⟩).runT p { w with heap:=w.heap.push (.cells c e)} es=(.ok () { w with heap:=w.heap.push (.cells c e (c.size,c.size+1))},es):=by
   unfold markStringish;show (Sem.shape _ _:Sem Unit).runT _ _ _=_;simp only[Sem.runT];rw[c4,<-bj];rfl
  simp_all
 exact .pf (.cells c e (c.size,c.size+1)) _ _ (λr=>.pure (.slice (some ⟨r,0,none⟩) x.size cap)) (λr=>.pure (.slice (some ⟨r,0,none⟩) x.size cap)) trivial key key λr=>.pure _ _ rfl
theorem LV{src dst e:TypeId}(hs:P.underlying src=some .string)(hd:P.underlying dst=some (.slice e))(he:P.underlying e=some (.int .u8))(x:Value):RE P P' C (convert src dst x) (convert src dst x):=by
 unfold convert;refine jy h hs (jy h hd ?_)
 cases x<;>(try dsimp only)<;>first|exact jy h he (LU _ _)|(repeat' first|contradiction|exact cV _ _|exact aY _ _|split)
theorem LX{src dst:TypeId}{k k':IntKind}(hs:P.underlying src=some (.int k'))(hd:P.underlying dst=some (.int k))(x:Value):RE P P' C (convert src dst x) (convert src dst x):=by
 unfold convert;refine jy h hs (jy h hd ?_)
 cases x<;>(try dsimp only)<;>repeat' first|contradiction|exact aI _|exact LQ _ _ _|exact cV _ _|exact aY _ _|split
omit h in
theorem Az(v:Value):RE P P' C (Builtin.lenOf v) (Builtin.lenOf v):=by
 unfold Builtin.lenOf
 repeat' first|exact aI _|exact aY _ _|split
omit h in
theorem AA(s n:Nat)(v:Value):RE P P' C (Builtin.firstCells s n v) (Builtin.firstCells s n v):=by
 unfold Builtin.firstCells
 repeat' first|exact aI _|exact aY _ _|exact EG _ _|split
omit h in
theorem Calm.pure{α:Type}(a:α):Calm P (Pure.pure a:Sem α):=λw es=>⟨a,rfl⟩
omit h in
theorem Calm.shape(r:Nat):Calm P (Go.shape r):=λw es=>⟨_,rfl⟩
omit h in
theorem Calm.frozen(a:Addr):Calm P (Go.frozen a):=λw es=>⟨_,rfl⟩
omit h in
theorem Calm.bind{α β:Type}{s:Sem α}{f:α->Sem β}(hs:Calm P s)(hf:∀a,Calm P (f a)):Calm P (s >>= f):=λw es=>by
 obtain⟨a,ha⟩:=hs w es;obtain⟨b,hb⟩:=hf a w es;simp_all
omit h in
theorem LY{α β:Type}{s:Sem α}{f:α->Sem β}{t:Sem β}{D:β->Prop}{Q:β->β->Prop}(hs:Calm P s)(hf:∀a w es,NP w->pd w ((f a).runT P w es).1):RT P P' C D Q (s >>= f) t:=by
 refine .bad _ _ λw es hn=>?_
 have e2:(s >>= f).runT P w es=(s.bind f).runT P w es:=rfl;rw[e2,Sem.runT_bind'];obtain⟨b,hb⟩:=hs w es;rw[hb];simp_all
omit h in
theorem Fa{β:Type}{x n m:Nat}{o:Option Addr}{v:Value}{f:Bool->Sem β}{t:Sem β}(hf:∀a w es,NP w->pd w ((f a).runT P w es).1):RE P P' C (Builtin.mayShare x n m o v >>= f) t:=by
 have key:Calm P (Builtin.mayShare x n m o v):=by
  unfold Builtin.mayShare Builtin.holdsCells
  repeat' first|exact Calm.pure _|exact Calm.shape _|exact Calm.frozen _|refine Calm.bind ?_ λ_=>?_|split|dsimp only
 exact LY key hf
theorem L3(ts:Array TypeId)(t:TypeId)(args:Array Value):RE P P' C (Builtin.append_ ts t args) (Builtin.append_ ts t args):=by
 unfold Builtin.append_;split
 .refine aJ (dO h _) λtd=>?_
  split
  .split
   .refine aJ (fZ h _) λn=>?_
    have z:∀(f:Bool->Sem Value),(∀b,RE P P' C (f b) (f b))->RE P P' C (do
     let zeros <-match ts[1]? with
      |some xType=>do pure ((<-Go.underlying xType) matches .int _)
      |none=>pure false
     f zeros) (do
     let zeros <-match ts[1]? with
      |some xType=>do pure ((<-Go.underlying xType) matches .int _)
      |none=>pure false
     f zeros):=λf hf=>by
     split
     .exact aJ (dO h _) λ_=>aJ (aI _) hf
     simp_all
    refine z _ λb=>?_
    cases b
    .simp only[bI,a9,gm,aX]
     repeat' first|contradiction|exact aI _|exact aY _ _|exact cV _ _|exact ga h _|exact jv _|exact dO h _|exact fZ h _|exact oJ h _|exact lW h _|exact tF _|exact Az _|exact AA _ _ _|exact qh _ _ _|exact Am _|exact tD _ _|(refine Fa ?_;intro a w es hn;cases a<;>exact⟨trivial,id⟩)|refine aJ ?_ λ_=>?_|split|dsimp only
    .simp only[Bool.true_eq_false,aX,fJ,bI,a9]
     repeat' first|contradiction|exact aI _|exact aY _ _|exact cV _ _|exact ga h _|exact jv _|exact dO h _|exact fZ h _|exact oJ h _|exact lW h _|exact tF _|exact Az _|exact AA _ _ _|exact qh _ _ _|exact Am _|exact tD _ _|(refine Fa ?_;intro a w es hn;cases a<;>exact⟨trivial,id⟩)|refine aJ ?_ λ_=>?_|split|dsimp only
   .exact aY _ _
  .exact aY _ _
 .exact aY _ _
theorem L4(ts:Array TypeId)(t:TypeId)(args:Array Value):RE P P' C (Builtin.copy_ ts t args) (Builtin.copy_ ts t args):=by
 unfold Builtin.copy_
 repeat' first|exact aI _|exact aY _ _|exact dO h _|exact fZ h _|exact Az _|exact AA _ _ _|exact qh _ _ _|refine aJ ?_ λ_=>?_|split|dsimp only
theorem L5(ts:Array TypeId)(t:TypeId)(args:Array Value):RE P P' C (Builtin.clear_ ts t args) (Builtin.clear_ ts t args):=by
 unfold Builtin.clear_
 repeat' first|exact aI _|exact aY _ _|exact dO h _|exact oJ h _|exact qh _ _ _|exact oI _ trivial|(refine nq _ (λo ho=>?_) (λo ho=>?_)<;>cases o<;>first|exact absurd trivial ho|exact aY _ _|exact aJ (oI _ trivial) λ_=>aI _|exact aJ (aY _ _) λ_=>aI _)|refine aJ ?_ λ_=>?_|split|dsimp only
theorem L6{ts:Array TypeId}{t0:TypeId}{td:TypeDesc}(ht:ts[0]?=some t0)(hu:P.underlying t0=some td)(hd:(∃e,td=.slice e)\/td=.string)(t:TypeId)(args:Array Value):RE P P' C (Builtin.len_ ts t args) (Builtin.len_ ts t args):=by
 unfold Builtin.len_;rw[ht]
 cases args[0]? with
 |none=>exact aY _ _
 |some x=>
  refine jy h hu ?_
  rcases hd with ⟨e,rfl⟩|rfl<;>cases x<;>first|exact aI _|exact aY _ _
omit h in
theorem L8(a b:Value):RE P P' C (Builtin.max2 a b) (Builtin.max2 a b):=by
 unfold Builtin.max2
 repeat' first|exact aI _|exact aY _ _|exact cV _ _|exact jv _|exact Aq _ _ _|exact wo _|refine aJ ?_ λ_=>?_|split|dsimp only
omit h in
theorem L9(a b:Value):RE P P' C (Builtin.min2 a b) (Builtin.min2 a b):=by
 unfold Builtin.min2
 repeat' first|exact aI _|exact aY _ _|exact cV _ _|exact jv _|exact Aq _ _ _|exact wo _|refine aJ ?_ λ_=>?_|split|dsimp only
omit h in
theorem AB(f:Value->Value->Sem Value)(hf:∀a b,RE P P' C (f a b) (f a b)):∀(l:List Value)(a:Value),RE P P' C (l.foldlM f a) (l.foldlM f a)
 |[],a=>by rw[List.foldlM_nil];exact aI _
 |b::l,a=>by rw[List.foldlM_cons];exact aJ (hf a b) λc=>AB f hf l c
omit h in
theorem Ma(ts:Array TypeId)(t:TypeId)(args:Array Value):RE P P' C (Builtin.max_ ts t args) (Builtin.max_ ts t args):=by
 unfold Builtin.max_;split
 .exact aY _ _
 .exact AB _ L8 _ _
omit h in
theorem Mb(ts:Array TypeId)(t:TypeId)(args:Array Value):RE P P' C (Builtin.min_ ts t args) (Builtin.min_ ts t args):=by
 unfold Builtin.min_;split
 .exact aY _ _
 .exact AB _ L9 _ _
end
structure jF(P P':Program)(C:Cx)(bad:Nat->Prop):Prop where
 kin:Kin P P'
 funcs:∀f,(P.funcs[f]?=none/\P'.funcs[f]?=none)\/(C.xf f/\∃fn c a7 c',P.funcs[f]?=some fn/\(fn.name == "runtime.NumGoroutine")=false/\fn.body=some c/\P'.funcs[f]?=some a7/\(a7.name == "runtime.NumGoroutine")=false/\a7.body=some c')\/(bad f/\∃fn c,P.funcs[f]?=some fn/\(fn.name == "runtime.NumGoroutine")=false/\fn.body=some c) \/
  ∃fn c,P.funcs[f]?=some fn/\P'.funcs[f]?=some fn/\(fn.name == "runtime.NumGoroutine")=false/\fn.body=some c/\C.code c/\C.fn f
def okN(C:Cx)(P:Program):Next->Prop
 |.value _ | .skip=>True
 |.enter f _=>(∃fn c,P.funcs[f]?=some fn/\fn.body=some c/\C.code c/\C.fn f)\/C.xf f
 |.round _ f _ a b=>C.code a/\C.code b/\C.fn f
 |_=>False
def dmN(bad:Nat->Prop):Next->Prop
 |.enter f _=>bad f
 |.spawn _=>True
 |_=>False
section
variable{P P':Program}{C:Cx}{bad:Nat->Prop}
abbrev RN(P P':Program)(C:Cx)(bad:Nat->Prop)(s t:Sem Next):Prop:=RT P P' C (dmN bad) (λa b=>a=b/\okN C P a) s t
theorem dY{s t:Sem Value}(h:RE P P' C s t):RN P P' C bad (s >>= λx=>pure (.value x)) (t >>= λx=>pure (.value x)):=aJ h λv=>.pure _ _ ⟨rfl,trivial⟩
theorem AD{s t:Sem Unit}(h:RE P P' C s t):RN P P' C bad (s >>= λ_=>pure .skip) (t >>= λ_=>pure .skip):=aJ h λv=>.pure _ _ ⟨rfl,trivial⟩
theorem qj(v:Value):RN P P' C bad (pure (.value v)) (pure (.value v)):=.pure _ _ ⟨rfl,trivial⟩
variable(h:jF P P' C bad)
include h
theorem AE(f:FuncId)(args:Array Value):RN P P' C bad (callFunc f args) (callFunc f args):=by
 unfold callFunc;refine iq ?_
 rcases h.funcs f with ⟨e1,e2⟩|⟨hx,fn,c,a7,c',e1,hn,hc,e2,bm,bd⟩|⟨hb,fn,c,e1,hn,hc⟩|⟨fn,c,e1,e2,hn,hc,hC⟩
 .rw[e1,e2];exact aY _ _
 .rw[e1,e2];simp only[hn,hc,bm,bd,I8,bI,a9];exact .pure _ _ ⟨rfl,.inr hx⟩
 .rw[e1];simp only[hn,hc,I8,bI,a9];exact .nQ _ _ hb
 .rw[e1,e2];simp only[hn,hc,I8,bI,a9];exact .pure _ _ ⟨rfl,.inl ⟨fn,c,e1,hc,hC⟩⟩
theorem AF(t:TypeId)(x:Place):RE P P' C (x.get t) (x.get t):=by
 cases x with
 |val v=>exact aI _
 |var a=>exact wi h.kin t a
theorem AG:∀(l:List FieldStep)(t:TypeId)(x:Place),RE P P' C (follow l t x) (follow l t x)
 |[],t,x=>aI _
 |s::r,t,x=>by
  unfold follow
  repeat' first|exact aI _|exact aY _ _|exact dO h.kin _|exact wq h.kin _|exact AF h _ _|exact EU h.kin _ _|exact nk h.kin _ _ _|exact AG r _ _|refine aJ ?_ λ_=>?_|split|dsimp only
theorem Mc(ts:Array TypeId)(t:TypeId)(a b c:Value):RE P P' C (Builtin.ssaWrapNilChk_ ts t #[a,b,c]) (Builtin.ssaWrapNilChk_ ts t #[a,b,c]):=by
 cases b<;>first|exact aY _ _|skip
 cases c<;>first|exact aY _ _|skip
 cases a<;>first|exact aY _ _|skip
 rename_i p
 cases p with
 |some x=>exact aI _
 |none=>
  unfold Builtin.ssaWrapNilChk_;dsimp only
  repeat' first|exact aI _|exact aY _ _|exact cV _ _|exact ga h.kin _|exact jv _|exact dO h.kin _|exact lW h.kin _|refine aJ ?_ λ_=>?_|split|dsimp only
theorem Fb(t:TypeId)(x:Place)(b:Bool)(o:Option String):RE P P' C (receiverAt t x b o) (receiverAt t x b o):=by
 unfold receiverAt
 repeat' first|exact aI _|exact aY _ _|exact dO h.kin _|exact wq h.kin _|exact AF h _ _|exact wi h.kin _ _|exact Mc h _ _ _ _ _|refine aJ ?_ λ_=>?_|split|dsimp only
theorem Md(t:TypeId)(v:Value)(l:Array FieldStep)(b:Bool):RE P P' C (receiverVia t v l b) (receiverVia t v l b):=by
 unfold receiverVia
 exact aJ (AG h _ _ _) λx=>Fb h _ _ _ _
theorem Fe:∀(n:Nat)(t:TypeId)(v:Value)(m:String),RE P P' C (method n t v m) (method n t v m)
 |0,_,_,_=>cV _ _
 |n+1,t,v,m=>by
  unfold method
  repeat' first|exact aI _|exact aY _ _|exact ga h.kin _|exact lW h.kin _|exact AG h _ _ _|exact AF h _ _|exact Fb h _ _ _ _|exact Fe n _ _ _|refine aJ ?_ λ_=>?_|split|dsimp only
theorem Ff(x:Value)(m:String)(args:Array Value):RN P P' C bad (callMethod x m args) (callMethod x m args):=by
 have kt:P'.types=P.types:=by obtain⟨fs,rfl⟩:=h.kin.eq;rfl
 unfold callMethod;split
 .refine iq ?_;rw[kt]
  exact aJ (Fe h _ _ _ _) λy=>AE h _ _
 .exact ga h.kin _
 .exact aY _ _
end
def jG(P:Program)(o:Oper):Bool:=match o.op with
 |.move _ | .assign _ | .pick .. | .alloc .. | .box .. | .build .. | .buildSlice .. | .load .. | .store .. | .nilCheck _ | .unOp .. | .makeInterface .. | .makeFunc .. | .makeMap .. | .makeSlice .. | .slice .. | .fieldAddr .. | .field .. | .indexAddr .. | .index .. | .extract .. | .panic _=>true
 |.binOp op t ..=>!(op == .eql || op == .neq) || mB P t
 |.convert s d _=>match P.underlying s,P.underlying d with|some (.int _),some (.int _)=>true|some .string,some (.slice e)=>(match P.underlying e with|some (.int .u8)=>true|_=>false)|_,_=>false
 |.lookup t .. | .mapUpdate t ..=>match P.underlying t with|some (.map k _)=>gh P 10 k|_=>false
 |.call c=>match c.callee with
  |.builtin .append | .builtin .copy | .builtin .clear | .builtin .max | .builtin .min=>true
  |.builtin .len=>match c.argTypes[0]? with
   |some t=>match P.underlying t with|some (.slice _)|some .string=>true|_=>false
   |none=>false
  |.value _=>true
  |_=>false
 |.go c=>match c.callee with
  |.value _=>true
  |_=>false
 |_=>false
section
variable{P P':Program}{C:Cx}{bad:Nat->Prop}(h:jF P P' C bad)
theorem Me{w:World}(h:ND w)(c:Array Value)(e:TypeId):ND { w with heap:=w.heap.push (.cells c e)}:=by
 intro b ds hb;simp only[pR] at hb;split at hb
 .cases hb
 .exact h b ds hb
theorem Mf{α:Type}(w:World)(es:Array Event):pd w ((runtimePanic .panicNil:Sem α).runT P w es).1:=by
 unfold runtimePanic elemOf newVar newRow Go.underlying newObj;simp only[bind,Sem.bind,program,Sem.runT]
 rcases P.underlying P.rt.panicNilError with _|td
 .exact⟨trivial,id⟩
 .cases td<;>first|exact⟨trivial,id⟩|exact⟨trivial,λh=>Me h _ _⟩
theorem Mg(w:World)(c:Sys):(w.sys c).2.heap=w.heap:=by
 have ask:∀{α:Type}(a:Ask α)(w:World),(w.ask a).2.heap=w.heap:=by
  intro α a
  induction a with
  |done x=>intro w;rfl
  |ask what range k ih=>
   intro w;unfold World.ask;dsimp only;split
   .exact ih _ w
   .exact ih _ _
 unfold World.sys;have:=ask (Kernel.perform c w.os) w
 grind
theorem Fg{w:World}(h:ND w)(c:Sys):ND (w.sys c).2:=λb ds hb=>h b ds (by rw[Mg] at hb;exact hb)
theorem Mh{β:Type}{w w1:World}{r:Result β}(h:ND w->ND w1)(q:pd w1 r):pd w r:=by
 cases r with
 |ok a b=>exact q
 |halt a b=>exact⟨q.1,λx=>q.2 (h x)⟩
theorem Mi{β:Type}(f:Int->Sem β)(hf:∀a w es,pd w ((f a).runT P w es).1)(w:World)(es:Array Event):pd w ((Instr.panicnil >>= f).runT P w es).1:=by
 have e2:(Instr.panicnil >>= f).runT P w es=(Instr.panicnil.bind f).runT P w es:=rfl;rw[e2,Sem.runT_bind']
 rcases hr:Instr.panicnil.runT P w es with ⟨r,ax⟩
 unfold Instr.panicnil at hr;simp only[bind,Sem.bind,program,sys,Sem.runT,pure] at hr
 rcases hx:(w.sys .env).1<;>rw[hx] at hr<;>simp only[stuck,Sem.bind,Sem.runT,bX] at hr<;>obtain⟨rfl,rfl⟩:=hr<;>first
  |exact⟨trivial,λh=>Fg h _⟩
  |exact Mh (λh=>Fg h _) (hf _ _ _)
theorem Mj(v:Value)(t:Sem Value){D:Value->Prop}{Q:Value->Value->Prop}:RT P P' C D Q (Instr.panic v) t:=by
 unfold Instr.panic;split
 .exact oH _ _
 .refine .bad _ _ λw es hn=>Mi _ (λn w es=>?_) w es
  split
  .exact⟨trivial,id⟩
  .exact Mf w es
 .exact aY _ _
include h
theorem Fh:∀(l:List FieldStep)(t:TypeId)(x:Option Value),RE P P' C (followBlind l t x) (followBlind l t x)
 |[],t,x=>aI _
 |s::r,t,x=>by
  unfold followBlind
  repeat' first|exact aI _|exact aY _ _|exact dO h.kin _|exact nk h.kin _ _ _|exact Fh r _ _|refine aJ ?_ λ_=>?_|split|dsimp only
theorem Fj:∀(n:Nat)(t:TypeId)(v:Value)(m:String),RE P P' C (nilAhead n t v m) (nilAhead n t v m)
 |0,_,_,_=>aI _
 |n+1,t,v,m=>by
  unfold nilAhead
  repeat' first|exact aI _|exact aY _ _|exact lW h.kin _|exact Fh h _ _ _|exact dO h.kin _|exact Fj n _ _ _|refine aJ ?_ λ_=>?_|split|dsimp only
omit h in
theorem Ml(l:Nat)(args:Array Value):RN P P' C bad (Instr.yield l args) (Instr.yield l args):=by
 unfold Instr.yield Instr.getLoop
 have key:∀r:Loop,C.code r.assign->C.code r.body->C.fn r.fn->RN P P' C bad (do
  if args.size≠r.params.size then stuck "yield: the wrong number of arguments"
  pure (Next.round l r.fn ((r.params.zip args).foldl (λtmps (t,a)=>tmps.setIfInBounds t a) r.tmps) r.assign r.body)) (do
  if args.size≠r.params.size then stuck "yield: the wrong number of arguments"
  pure (Next.round l r.fn ((r.params.zip args).foldl (λtmps (t,a)=>tmps.setIfInBounds t a) r.tmps) r.assign r.body)):=λr h1 h2 h3=>by
  dsimp only;split
  .exact aJ (aY _ _) λ_=>.pure _ _ ⟨rfl,h1,h2,h3⟩
  .exact .pure _ _ ⟨rfl,h1,h2,h3⟩
 refine ju (M:=λa b=>a=b/\C.code a.assign/\C.code a.body/\C.fn a.fn) ?_ (λa b a5=>by grind);refine nq l (λo ho=>?_) (λo ho=>?_)
 .cases o<;>first|exact aY _ _|exact .pure _ _ ⟨rfl,ho.1,ho.2.1,ho.2.2.1⟩
 .cases o<;>first|exact aY _ _|exact absurd trivial ho
theorem Mn(f:Fn)(cap args:Array Value):RN P P' C bad (invoke (.fn f cap) args) (invoke (.fn f cap) args):=by
 unfold invoke
 cases f with
 |func f=>exact AE h _ _
 |method m=>
  dsimp only;split
  .exact Ff h _ _ _
  .exact aY _ _
 |methodOf t m=>
  dsimp only;split
  .exact aJ (dO h.kin _) λd=>Ff h _ _ _
  .exact aY _ _
 |via t p f b=>
  dsimp only;split
  .exact aJ (Md h _ _ _ _) λr=>AE h _ _
  .exact aY _ _
 |yield l=>exact Ml _ _
theorem Mo{b:Builtin}{c:Call}{o:Oper}(hc:c.callee=.builtin b)(he:o.op=.call c)(hk:jG P o=true)(t:TypeId)(cs:Array Bool)(args:Array Value):RN P P' C bad (builtin b c.argTypes t cs args) (builtin b c.argTypes t cs args):=by
 unfold jG at hk;rw[he] at hk;simp only[hc] at hk;unfold builtin
 cases b<;>first|cases hk|skip
 .exact dY (L3 h.kin _ _ _)
 .exact dY (L5 h.kin _ _ _)
 .exact dY (L4 h.kin _ _ _)
 .revert hk
  rcases hx:c.argTypes[0]? with _|t0
  .simp
  .rcases hu:P.underlying t0 with _|td
   .simp_all
   .intro hk;simp only[hu] at hk;refine dY (L6 h.kin hx hu ?_ _ _)
    cases td<;>first|exact .inl ⟨_,rfl⟩|exact .inr rfl|(cases hk;done)
 .exact dY (Ma _ _ _)
 .exact dY (Mb _ _ _)
theorem Fl{o:Oper}(ho:jG P o=true)(ρ:Operand->Value):RN P P' C bad (execOp ρ o) (execOp ρ o):=by
 have kt:P'.types=P.types:=by obtain⟨fs,rfl⟩:=h.kin.eq;rfl
 have hk:=ho;unfold jG at hk;unfold execOp
 split at hk<;>rename_i hx<;>(try rw[hx])<;>dsimp only
 .exact qj _
 .exact qj _
 .exact aJ (wo _) λb=>qj _
 .exact dY (Lp h.kin _ _)
 .exact dY (Lq _ _)
 .exact dY (Lr h.kin _ _)
 .exact dY (Ls h.kin _ _ _)
 .exact dY (Lt h.kin _ _)
 .exact AD (Lu h.kin _ _ _)
 .rename_i x;split
  .exact ga h.kin _
  .exact ga h.kin _
  .exact ga h.kin _
  .split
   .exact ga h.kin _
   .refine iq ?_;rw[kt]
    refine aJ (Fj h _ _ _ _) λb=>?_
    split
    .exact aJ (cV _ _) λ_=>qj _
    .exact qj _
   .exact qj _
  .exact qj _
 .exact dY (K1 _ _)
 .exact dY (LA h.kin _ _)
 .exact dY (aI _)
 .exact dY (LF h.kin _ _)
 .exact dY (LG h.kin _ _ _)
 .exact dY (LJ h.kin _ _ _ _ _)
 .exact dY (Lv h.kin _ _ _)
 .exact dY (Lz h.kin _ _ _)
 .exact dY (Lw h.kin _ _ _)
 .exact dY (Lx h.kin _ _ _)
 .exact dY (Ly _ _)
 .exact RT.bind (M:=λ_ _=>False) (Mj _ _) λa b e=>e.elim
 .rename_i op t x y r
  have hp:op=.eql\/op=.neq->mB P t=true:=λe=>by
   rcases e with rfl|rfl<;>simpa using hk
  exact dY (aJ (Ln h.kin _ _ _ _ hp) λ_=>Lo h.kin _ _ hp)
 .rename_i s d x;split at hk
  .rename_i h1 h2;exact dY (LX h.kin h1 h2 _)
  .rename_i h1 h2;split at hk
   .rename_i h3;exact dY (LV h.kin h1 h2 h3 _)
   .cases hk
  .cases hk
 .split at hk
  .rename_i h1;exact dY (LM h.kin h1 hk _ _ _)
  .cases hk
 .split at hk
  .rename_i h1;exact AD (LN h.kin h1 hk _ _ _)
  .cases hk
 .rename_i c;unfold resolve
  rcases hc:c.callee with f|⟨r,m⟩|b
  .unfold Deferred.ofValue;dsimp only;split
   .rename_i fn first cap hf
    change RT P P' C (dmN bad) _ (invoke (.fn fn cap) (first++c.args.map ρ)) (invoke (.fn fn cap) (first++c.args.map ρ))
    exact Mn h _ _ _
   .change RT P P' C (dmN bad) _ (runtimePanic .nilDeref) (runtimePanic .nilDeref)
    exact ga h.kin _
   .exact RT.bind (M:=λ_ _=>False) (aY _ _) λa b e=>e.elim
  .simp_all
  .refine RT.bind (M:=λd e=>d=e/\∃cs args,d = { target:=.builtin b c.argTypes o.type cs,args:=args }) (.pure _ _ ⟨rfl,_,_,rfl⟩) λd e bg=>?_
   obtain⟨rfl,cs,args,rfl⟩:=bg;exact Mo h hc hx ho _ cs args
 .rename_i c;unfold resolve
  rcases hc:c.callee with f|⟨r,m⟩|b<;>simp only[hc] at hk<;>first|cases hk|skip
  unfold Deferred.ofValue;dsimp only;split
  .exact RT.nQ (Next.spawn _) _ (show dmN bad (Next.spawn _) from trivial)
  .exact RT.nQ (Next.spawn _) _ (show dmN bad (Next.spawn _) from trivial)
  .exact RT.bind (M:=λ_ _=>False) (aY _ _) λa b e=>e.elim
 .cases hk
end
end Go.Fc
namespace Go.Fc
open Go Go.Conc
class Xf where
 xf:Nat->Prop
 bot:Nat->Prop
 ds:Nat->List Deferred->Prop
 rng:Bool
variable[Xf]
def codeOk(P:Program):Code->Bool
 |.skip | .ret | .exit _ | .label _ | .refuse _=>true
 |.seq a b | .cond _ a b=>codeOk P a&&codeOk P b
 |.rangeFunc _ _ a b=>Xf.rng&&(codeOk P a&&codeOk P b)
 |.block _ c | .loop c | .scope c=>codeOk P c
 |.region _ ops _=>ops.toList.all (jG P)
 |.goto _=>false
abbrev Cd(P:Program)(c:Code):Prop:=codeOk P c=true
def Cc(P P':Program):Cx:=⟨Cd P,λf=>(∃fn,P.funcs[f]?=some fn/\P'.funcs[f]?=some fn/\fn.norace=false)/\P.inits.idxOf? f=none,Xf.xf⟩
def qH(P:Program):Item->Prop
 |.code c | .inLoop c | .inScope c=>Cd P c
 |.inRegion ops _=>ops.toList.all (jG P)=true
 |.inBlock _ | .inRangeFunc _ | .endRangeFunc _ | .beginRound=>True
 |.call .. | .extern ..=>False
structure b8(P P':Program)(fr:Frame):Prop where
 todo:∀it∈fr.todo,qH P it
 kind:fr.kind≠.early
 calm:(fr.kind=.normal/\(∀d∈fr.defers,∃b,d = { target:=.collected b,args:=#[] })/\(Cc P P').fn fr.fn)\/(Xf.bot fr.fn/\fr.mode=.run/\fr.roundOf=none/\Xf.rng=false/\Xf.ds fr.fn fr.defers)
 mode:∀ch,fr.mode≠.panicking ch
 fn:∃fn a7,P.funcs[fr.fn]?=some fn/\P'.funcs[fr.fn]?=some a7/\fn.norace=false/\a7.norace=false
section
variable{P P':Program}{bad:Nat->Prop}{S:Sh}
theorem wy{p:Program}{fn:FuncId}{es:Array Event}:∀e∈seen p fn es,e∈es:=by
 unfold seen;obtain⟨l⟩:=es;simp only[List.foldl_toArray']
 have key:∀(l:List Event)(q:Bool)(kept:Array Event),∀e∈(l.foldl (init:=(q,kept)) λ(q,kept) e=>
  match e.loc with
  |.mark (.extern f)=>(((p.funcs[f]?).any (·.norace)),kept)
  |_=>(q,if q && !e.sync then kept else kept.push e)).2,e∈kept\/e∈l:=by
  intro l
  induction l with
  |nil=>intro q kept e he;exact .inl he
  |cons x l ih=>
   intro q kept e he;simp only[Da] at he;split at he
   .rcases ih _ _ e he with h|h
    .exact .inl h
    .exact .inr (dm _ h)
   .rcases ih _ _ e he with h|h
    .split at h
     .exact .inl h
     .rcases Array.mem_push.1 h with h|h
      .exact .inl h
      .exact .inr (h▸fO)
    .exact .inr (dm _ h)
 intro e he
 rcases key l _ _ e he with h|h
 .simp at h
 simp_all
theorem tI{p:Program}{fn:FuncId}{f:Func}(hf:p.funcs[fn]?=some f)(hq:f.norace=false){es:Array Event}(he:∀e∈es,∀g,e.loc≠.mark (.extern g)):seen p fn es=es:=by
 unfold seen;dsimp only;rw[hf];simp only[Option.any_some,hq];obtain⟨l⟩:=es;simp only[List.foldl_toArray']
 have key:∀(l:List Event)(kept:Array Event),(∀e∈l,∀g,e.loc≠.mark (.extern g)) ->
  (l.foldl (init:=(false,kept)) λ(q,kept) e=>match e.loc with
  |.mark (.extern f)=>(((p.funcs[f]?).any (·.norace)),kept)
  |_=>(q,if q && !e.sync then kept else kept.push e)).2=kept++l.toArray:=by
  intro l
  induction l with
  |nil=>simp
  |cons x l ih=>
   simp_all
 exact (key l #[] (by grind)).trans (by simp)
theorem wz{fn:FuncId}{f f':Func}(h1:P.funcs[fn]?=some f)(h2:P'.funcs[fn]?=some f')(h3:f.norace=false)(h4:f'.norace=false){es:Array Event}(he:∀e∈es,∀g,e.loc≠.mark (.extern g)):seen P' fn es=seen P fn es:=by
 rw[tI h1 h3 he,tI h2 h4 he]
def Fok(P P':Program)(fr fr':Frame):Prop:=(fr'=fr/\b8 P P' fr)\/∃f args,Xf.xf f/\fr=Frame.enter P f args .normal/\fr'=Frame.enter P' f args .normal
def CF(P P':Program)(fr0:Frame)(cs:List Frame)(g':Goroutine)(fr':Frame):Prop:=
 ((g'.callers=cs/\g'.frame.fn=fr0.fn\/∃f1,b8 P P' f1/\f1.fn=fr0.fn/\((Cc P P').fn g'.frame.fn\/Xf.xf g'.frame.fn)/\g'.callers=f1::cs)/\Fok P P' g'.frame fr')\/(fr'=g'.frame/\∃(c:Frame)(v:Value),cs=c::g'.callers/\g'.frame=c.finish v/\(Cc P P').fn fr0.fn) \/
 (fr'=g'.frame/\g'.callers=cs/\g'.frame.fn=fr0.fn/\Xf.bot g'.frame.fn/\g'.frame.mode=.returning/\Xf.ds g'.frame.fn g'.frame.defers)
def lq(P P':Program)(bad:Nat->Prop)(S:Sh)(fr0:Frame)(cs:List Frame)(A B:World)(g':Goroutine)(A':World)(es:Array Event)(t:GStep):Prop:=
 (∃f args cs,bad f/\g'.frame=Frame.enter P f args .normal/\g'.callers=cs)\/((∃ch,g'.frame.mode=.panicking ch)\/g'.dying≠none) \/
 ((∀e∈es,S.dB e)->A.drawn<=A'.drawn/\A'.tape=A.tape/\A.heap.size<=A'.heap.size/\g'.status=.running/\g'.dying=none/\g'.offers=none /\
   ((∀j,A.drawn+j<A'.drawn->B.tape (B.drawn+j)=A.tape (A.drawn+j)) ->
     ∃fr2 B',CF P P' fr0 cs g' fr2/\t=.go { g' with frame:=fr2 } B' es/\Lk (Cc P P') S A' B'/\B'.tape=B.tape/\B'.drawn=B.drawn+(A'.drawn-A.drawn)/\Kept es B B'/\∀e∈es,EvT S B' e))
omit [Xf] in
theorem wA(fr:Frame)(v:Value):(fr.finish v).fn=fr.fn:=by unfold Frame.finish;split<;>rfl
theorem b8.finish{fr:Frame}(h:b8 P P' fr)(v:Value):b8 P P' (fr.finish v):=by
 have ht:=h.todo;unfold Frame.finish;split
 .rename_i ops i rest k e;rw[e] at ht
  exact⟨λit hy=>by
   rcases cD.1 hy with rfl|hy
   .exact ht (.inRegion ops (i::rest)) fO
   simp_all,h.kind,h.calm,h.mode,h.fn⟩
 .rename_i l k e;rw[e] at ht
  exact⟨λit hy=>by
   rcases cD.1 hy with rfl|hy
   .trivial
   simp_all,h.kind,h.calm,h.mode,h.fn⟩
 .rename_i k e;rw[e] at ht;exact⟨λit hy=>ht it (dm _ hy),h.kind,h.calm,h.mode,h.fn⟩
 .rename_i k e;rw[e] at ht;exact (ht _ fO).elim
 .rename_i k e;rw[e] at ht;exact (ht _ fO).elim
 .exact h
theorem wB{S:Sh}{n:World}{e:Event}(h:EvT S n e)(g:FuncId):e.loc≠.mark (.extern g):=by
 rcases h with ⟨a,wr,rfl,_,_⟩|⟨r,wr,sy,rfl,_,_⟩|rfl<;>simp
theorem b8.enter{f:FuncId}{fn:Func}{c:Code}(h1:P.funcs[f]?=some fn)(h2:P'.funcs[f]?=some fn)(hb:fn.body=some c)(hc:Cd P c)(hi:(Cc P P').fn f)(args:Array Value):b8 P P' (Frame.enter P f args .normal):=by
 refine⟨λit hy=>?_,by simp[Frame.enter],.inl ⟨rfl,λd hd=>by trivial,hi⟩,λch=>by simp[Frame.enter],hi.1.imp λfn h=>⟨fn,h.1,h.2.1,h.2.2,h.2.2⟩⟩;simp only[Frame.enter,h1,iP,hb,gk,pT] at hy;subst hy;exact hc
theorem Mp{f:FuncId}{fn:Func}(h1:P.funcs[f]?=some fn)(h2:P'.funcs[f]?=some fn)(args:Array Value)(k:CallKind):Frame.enter P' f args k=Frame.enter P f args k:=by
 unfold Frame.enter;rw[h1,h2]
theorem Fo(fr:Frame)(vs:List PanicEntry):∃ch,(fr.raise vs).mode=.panicking ch:=by
 unfold Frame.raise
 split<;>exact⟨_,rfl⟩
theorem wC(hk:jF P P' (Cc P P') bad){fr:Frame}{cs:List Frame}{A B:World}(hf:b8 P P' fr){s:Sem Next}(hs:RN P P' (Cc P P') bad s s)(hl:Lk (Cc P P') S A B){g':Goroutine}{A':World}{es:Array Event}(hg:stepG.apply P true fr cs none s A=.go g' A' es):lq P P' bad S fr cs A B g' A' es (stepG.apply P' true fr cs none s B):=by
 have h8:(fr.kind == .early)=false:=by have:=hf.kind;cases hk:fr.kind<;>first|rfl|trivial
 obtain⟨fn,a7,a6,ae,a8,aj⟩:=hf.fn;unfold stepG.apply at hg;simp only[aX,h8,bI,a9] at hg
 rcases hr:s.runT P A #[] with ⟨r,es0⟩
 rw[hr] at hg
 cases r with
 |halt x A1=>
  obtain⟨hc,bo⟩:=KR hs A B #[] x A1 es0 hl hr
  cases x<;>first|exact hc.elim|skip
  .simp only[GStep.after,GStep.go.injEq] at hg;obtain⟨rfl,_,_⟩:=hg;exact .inr (.inl (.inl (Fo fr _)))
  .rename_i u
   cases u<;>first|exact hc.elim|(simp[GStep.after] at hg;done)
  trivial
 |ok n A1=>
  have h':∀d w rs sv k,fr.todo≠.call d w rs sv::k:=λd w rs sv k e=>by
   have:=hf.todo (.call d w rs sv) (by rw[e];simp);exact this
  by_cases hd:dmN bad n
  .cases n<;>first|exact hd.elim|skip
   rotate_left
   .dsimp only at hg
    repeat' split at hg
    all_goals first|(simp[GStep.after] at hg;done)|skip
    all_goals
     simp only[GStep.after,endThrow,dieOf,GStep.go.injEq] at hg;obtain⟨rfl,_,_⟩:=hg;exact .inr (.inl (.inr (by simp)))
   rename_i f args;refine .inl ⟨f,args,fr::cs,hd,?_⟩
   rcases ht:fr.todo with _|⟨it,k⟩
   .simp only[ht,GStep.after,GStep.go.injEq] at hg
    grind
   .cases it<;>first|exact absurd ht (h' _ _ _ _ _)|(simp only[ht,GStep.after,GStep.go.injEq] at hg;obtain⟨rfl,_,_⟩:=hg;exact⟨rfl,rfl⟩)
  .obtain⟨bp,bq⟩:=xw hs A B #[] n A1 es0 hl hr
   have hq:okN (Cc P P') P n:=let ⟨_,h⟩:=bp.resolve_left hd;h.2
   have a':seen P fr.fn es0=es0:=tI a6 a8 λe he=>(bq e he).resolve_left (by simp)
   have run:(∀e∈seen P fr.fn es0++#[],S.dB e)->Alike P' (Cc P P') S s (λa b=>a=b/\okN (Cc P P') P a) A B #[] #[] n A1 es0:=λhv=>(wh hs A B #[] #[] n A1 es0 hl hr λe he=>hv e (by rw[a'];grind)).resolve_left hd
   have fin:∀(g:Goroutine),g.status=.running->g.dying=none->g.offers=none->b8 P P' g.frame->(g.callers=cs/\g.frame.fn=fr.fn\/∃f1,b8 P P' f1/\f1.fn=fr.fn/\((Cc P P').fn g.frame.fn\/Xf.xf g.frame.fn)/\g.callers=f1::cs) ->
    g=g'/\A1=A'/\seen P fr.fn es0++#[]=es ->
    (∀B',s.runT P' B #[]=(.ok n B',es0)->stepG.apply P' true fr cs none s B=.go g B' (seen P' fr.fn es0)) ->
    lq P P' bad S fr cs A B g' A' es (stepG.apply P' true fr cs none s B):=by
    intro g h1 h2 h3 h4 h5 he hgo;obtain⟨rfl,rfl,rfl⟩:=he;refine .inr (.inr λhv=>?_);have ha:=run hv;refine⟨ha.drawn,ha.tape,ha.size,h1,h2,h3,λag=>?_⟩;obtain⟨b,B',new,y1,y2,⟨rfl,_⟩,y3,y4,y5,y7,y6⟩:=ha.alike ag
    have en:new=es0:=by rw[y2];simp
    subst en;refine⟨g.frame,B',.inl ⟨h5,.inl ⟨rfl,h4⟩⟩,?_,y3,y4,y5,by rw[a'];grind,λe he=>y6 e (wy e (by simpa using he))⟩;rw[hgo B' (by rw[y1];simp),wz a6 ae a8 aj λe he=>wB (y6 e he)];simp
   cases n<;>first|exact hq.elim|skip
   .rename_i v;simp only[GStep.after,GStep.go.injEq] at hg
    refine fin _ ?_ ?_ ?_ ?_ ?_ hg λB' hb=>?_
    all_goals first|rfl|exact hf.finish v|exact .inl ⟨rfl,wA fr _⟩|skip
    unfold stepG.apply;simp[-Sem.runT_eq,hb,h8,GStep.after]
   .simp only[GStep.after,GStep.go.injEq] at hg
    refine fin _ ?_ ?_ ?_ ?_ ?_ hg λB' hb=>?_
    all_goals first|rfl|exact hf.finish _|exact .inl ⟨rfl,wA fr _⟩|skip
    unfold stepG.apply;simp[-Sem.runT_eq,hb,h8,GStep.after]
   .rename_i f args
    have aw:GStep.go { frame:=Frame.enter P f args .normal,callers:=fr::cs,status:=.running,dying:=none } A1 (seen P fr.fn es0++#[])=.go g' A' es:=by
     rw[<-hg]
     rcases ht:fr.todo with _|⟨it,k⟩
     .rfl
     .cases it<;>first|exact absurd ht (h' _ _ _ _ _)|rfl
    by_cases hx:Xf.xf f
    .rw[GStep.go.injEq] at aw;obtain⟨rfl,rfl,rfl⟩:=aw;refine .inr (.inr λhv=>?_);have ha:=run hv;refine⟨ha.drawn,ha.tape,ha.size,rfl,rfl,rfl,λag=>?_⟩;obtain⟨b,B',new,y1,y2,⟨rfl,_⟩,y3,y4,y5,y7,y6⟩:=ha.alike ag
     have en:new=es0:=by rw[y2];simp
     subst en;refine⟨Frame.enter P' f args .normal,B',.inl ⟨.inr ⟨fr,hf,rfl,.inr hx,rfl⟩,.inr ⟨f,args,hx,rfl,rfl⟩⟩,?_,y3,y4,y5,by rw[a'];simpa using y7,λe he=>y6 e (wy e (by simpa using he))⟩;unfold stepG.apply;rw[show s.runT P' B #[]=(.ok (.enter f args) B',new) from by rw[y1];simp];simp only[aX,h8,bI,a9,GStep.after];rw[wz a6 ae a8 aj λe he=>wB (y6 e he)]
     rcases ht:fr.todo with _|⟨it,k⟩
     .rfl
     .cases it<;>first|exact absurd ht (h' _ _ _ _ _)|rfl
    obtain⟨fn2,c2,q1,q2,q3,q5⟩:=hq.resolve_right hx
    have q4:P'.funcs[f]?=some fn2:=by
     rcases hk.funcs f with ⟨e1,_⟩|⟨c5,_⟩|⟨hb,_⟩|⟨fn3,c3,e1,e2,_⟩
     .rw[q1] at e1;cases e1
     .exact absurd c5 hx
     .exact absurd hb hd
     .rw[q1] at e1;obtain rfl:=eu e1;exact e2
    rw[GStep.go.injEq] at aw
    refine fin _ ?_ ?_ ?_ ?_ ?_ aw λB' hb=>?_
    all_goals first|rfl|exact b8.enter q1 q4 q2 q3 q5 args|exact .inr ⟨fr,hf,rfl,.inl q5,rfl⟩|skip
    unfold stepG.apply;simp only[aX,hb,h8,bI,a9,GStep.after];rw[Mp q1 q4];simp_all
   .rename_i l f tmps a b;obtain⟨q1,q2,q3⟩:=hq;simp only[GStep.after,GStep.go.injEq] at hg
    refine fin _ ?_ ?_ ?_ ?_ ?_ hg λB' hb=>?_
    all_goals first|rfl|exact .inr ⟨fr,hf,rfl,.inl q3,rfl⟩|skip
    .refine⟨λit hy=>?_,by simp[Frame.round],.inl ⟨rfl,λd hd=>by trivial,q3⟩,λch=>by simp[Frame.round],q3.1.imp λfn h=>⟨fn,h.1,h.2.1,h.2.2,h.2.2⟩⟩;simp only[Frame.round,cD,lP,or_false] at hy
     rcases hy with rfl|rfl|rfl
     .exact q1
     .trivial
     .exact q2
    .unfold stepG.apply;simp[-Sem.runT_eq,hb,h8,GStep.after]
end
end Go.Fc
namespace Go.Fc
open Go Go.Conc
variable[Xf]
section
variable{P P':Program}{bad:Nat->Prop}{S:Sh}
theorem lq.stay{A B:World}{fr0 fr:Frame}{cs:List Frame}(hf:b8 P P' fr)(aa:fr.fn=fr0.fn)(hl:Lk (Cc P P') S A B):lq P P' bad S fr0 cs A B { frame:=fr,callers:=cs,status:=.running,dying:=none } A #[] (.go { frame:=fr,callers:=cs,status:=.running,dying:=none } B #[]):=
 .inr (.inr λ_=>⟨aE _,rfl,aE _,rfl,rfl,rfl,λ_=>⟨fr,B,.inl ⟨.inl ⟨rfl,aa⟩,.inl ⟨rfl,hf⟩⟩,rfl,hl,rfl,by simp,.refl _ _,by simp⟩⟩)
theorem b8.Cg{fr:Frame}(h:b8 P P' fr){todo:List Item}(ht:∀it∈todo,qH P it):b8 P P' { fr with todo }:=⟨ht,h.kind,h.calm,h.mode,h.fn⟩
theorem AH(id:Nat):∀(k k':List Item),exitTo id k=some k'->∀it∈k',it∈k
 |[],_,h=>by trivial
 |x::k,k',h=>by
  intro it hy
  cases x<;>simp only[exitTo] at h<;>first
   |exact dm _ (AH id k k' h it hy)
   |(split at h
     .simp_all
     .exact dm _ (AH id k k' h it hy))
theorem Mq(h:Kin P P')(d:Departure):P'.follows d=P.follows d:=by obtain⟨fs,rfl⟩:=h.eq;rfl
theorem Mr(h:Kin P P'):P'.inits=P.inits:=by obtain⟨fs,rfl⟩:=h.eq;rfl
theorem Fp{main:Bool}{fr:Frame}{cs:List Frame}{A1:World}{v:Value}(hf:(Cc P P').fn fr.fn)(hn:fr.kind=.normal)(h9:main=true\/cs≠[]){g':Goroutine}{A':World}{ax:Array Event}(hg:doReturn P main fr cs none v A1=.go g' A' ax):∃caller rest,cs=caller::rest/\g' = { frame:=caller.finish v,callers:=rest,status:=.running,dying:=none }/\A'=A1/\ax=#[]/\∀(Q:Program)(w:World),doReturn Q main fr cs none v w=.go g' w #[]:=by
 unfold doReturn at hg
 cases cs with
 |nil=>
  exfalso;obtain rfl:=h9.resolve_right (by simp);simp only[hn,fJ,bI,a9,hf.2] at hg;cases hg
 |cons c r=>
  simp only[hn,GStep.go.injEq] at hg;obtain⟨rfl,rfl,rfl⟩:=hg;exact⟨c,r,rfl,rfl,rfl,rfl,λQ w=>by unfold doReturn;grind⟩
theorem wD{α:Type}{fr:Frame}{cs:List Frame}{A B:World}(hf:b8 P P' fr)(hl:Lk (Cc P P') S A B){s:Sem α}(hs:RE P P' (Cc P P') s s){v:α}{A1:World}{es0:Array Event}(hr:s.runT P A #[]=(.ok v A1,es0)){g:Goroutine}(h1:g.status=.running)(h2:g.dying=none)(h3:g.offers=none)(h4:CF P P' fr cs g g.frame){t:GStep}(ht:∀B',s.runT P' B #[]=(.ok v B',es0)->t=.go g B' (seen P' fr.fn es0)):lq P P' bad S fr cs A B g A1 (seen P fr.fn es0) t:=by
 obtain⟨fn,a7,a6,ae,a8,aj⟩:=hf.fn
 have a':seen P fr.fn es0=es0:=tI a6 a8 λe he=>((xw hs A B #[] v A1 es0 hl hr).2 e he).resolve_left (by simp)
 refine .inr (.inr λhv=>?_);have ha:=(wh hs A B #[] #[] v A1 es0 hl hr λe he=>hv e (by rw[a'];exact he)).resolve_left id;refine⟨ha.drawn,ha.tape,ha.size,h1,h2,h3,λag=>?_⟩;obtain⟨b,B',new,y1,y2,rfl,y3,y4,y5,y7,y6⟩:=ha.alike ag
 have en:new=es0:=by rw[y2];simp
 subst en;refine⟨g.frame,B',h4,?_,y3,y4,y5,by rw[a'];exact y7,λe he=>y6 e (wy e he)⟩;rw[ht B' (by rw[y1];simp),wz a6 ae a8 aj λe he=>wB (y6 e he)]
theorem Ms(l:Nat)(j:Option Code)(hj:∀c,j=some c->Cd P c):RE P P' (Cc P P') (Instr.endRound l j) (Instr.endRound l j):=by
 unfold Instr.endRound Instr.getLoop;refine ju (M:=λa b=>a=b/\okO (Cc P P') (.loop a)) ?_ (λa b a5=>?_)
 .refine nq l (λo ho=>?_) (λo ho=>?_)
  .cases o<;>first|exact aY _ _|exact .pure _ _ ⟨rfl,ho⟩
  .cases o<;>first|exact aY _ _|exact absurd trivial ho
 .obtain⟨rfl,hl⟩:=a5
  exact aJ (oI l ⟨hl.1,hl.2.1,hl.2.2.1,λc e=>hj c e⟩) λ_=>aI _
theorem wE(l:Nat):RT P P' (Cc P P') (λ_=>False) (λa b=>a=b/\okO (Cc P P') (.loop a)) (Instr.getLoop l) (Instr.getLoop l):=by
 unfold Instr.getLoop;refine nq l (λo ho=>?_) (λo ho=>?_)
 .cases o<;>first|exact aY _ _|exact .pure _ _ ⟨rfl,ho⟩
 .cases o<;>first|exact aY _ _|exact absurd trivial ho
theorem Mt(hk:jF P P' (Cc P P') bad)(o:Option Nat):RN P P' (Cc P P') bad (do o.elim (stuck "beginRound: no round") Instr.beginRound;pure .skip) (do o.elim (stuck "beginRound: no round") Instr.beginRound;pure .skip):=by
 refine AD ?_
 cases o with
 |none=>exact aY _ _
 |some l=>
  simp only[Option.elim];unfold Instr.beginRound
  refine ju (wE l) λa b a5=>?_
  obtain⟨rfl,hl⟩:=a5
  refine aJ (oI l hl) λ_=>?_
  split
  .exact aI _
  all_goals exact ga hk.kin _
theorem Fq(hk:jF P P' (Cc P P') bad)(l:Nat):RT P P' (Cc P P') (λ_=>False) (λa b=>a=b/\∀c,a=some c->Cd P c) (Instr.endLoop l) (Instr.endLoop l):=by
 unfold Instr.endLoop
 refine ju (wE l) λa b a5=>?_
 obtain⟨rfl,hl⟩:=a5
 have tail:RT P P' (Cc P P') (λ_=>False) (λa b=>a=b/\∀c,a=some c->Cd P c) (do setObj l (.loop { a with state:=.exhausted });pure a.pending) (do setObj l (.loop { a with state:=.exhausted });pure a.pending):=
  aJ (oI l hl) λ_=>.pure _ _ ⟨rfl,hl.2.2.2⟩
 dsimp only;split
 .exact ju (M:=λ_ _=>False) (ga hk.kin _) λa b e=>e.elim
 .exact tail
theorem Mu{fn:FuncId}(aa:(Cc P P').fn fn)(T:Array Value)(ps:Array Tmp){a b:Code}(ha:Cd P a)(hb:Cd P b)(o:Option Nat):RT P P' (Cc P P') (λ_=>False) (λx y=>x=y/\∀d∈x.2,∃r,d = { target:=.collected r,args:=#[] }) (Instr.enterLoop fn T ps a b o) (Instr.enterLoop fn T ps a b o):=by
 have tail:∀(ds:Nat)(m:List Deferred),(∀d∈m,∃r,d = { target:=.collected r,args:=#[] })->RT P P' (Cc P P') (λ_=>False) (λx y=>x=y/\∀d∈x.2,∃r,d = { target:=.collected r,args:=#[] })
  (do pure (<-newObj (.loop { state:=.ready,pending:=none,fn,tmps:=T,params:=ps,assign:=a,body:=b,defers:=ds }),m)) (do pure (<-newObj (.loop { state:=.ready,pending:=none,fn,tmps:=T,params:=ps,assign:=a,body:=b,defers:=ds }),m)):=λds m hm=>
  aJ (rj (o:=.loop { state:=.ready,pending:=none,fn,tmps:=T,params:=ps,assign:=a,body:=b,defers:=ds }) ⟨ha,hb,aa,λc e=>by cases e⟩) λr=>.pure _ _ ⟨rfl,hm⟩
 unfold Instr.enterLoop
 cases o with
 |some l=>
  dsimp only
  first
   |exact ju (M:=λx y=>x=y/\∀d∈x.2,∃r,d = { target:=.collected r,args:=#[] }) (ju (wE l) λx y al=>by trivial) (λx y al=>by obtain⟨rfl,hm⟩:=al;exact tail _ _ hm)
   |exact ju (wE l) λx y al=>by
     simp_all
 |none=>
  dsimp only
  first
   |exact ju (M:=λx y=>x=y/\∀d∈x.2,∃r,d = { target:=.collected r,args:=#[] }) (aJ (rj (o:=.deferred (some [])) trivial) λr=>.pure _ _ ⟨rfl,by simp⟩) (λx y al=>by obtain⟨rfl,hm⟩:=al;exact tail _ _ hm)
   |exact aJ (rj (o:=.deferred (some [])) trivial) λr=>ju (M:=λx y=>x=y/\∀d∈x.2,∃r,d = { target:=.collected r,args:=#[] }) (.pure _ _ ⟨rfl,by simp⟩) (λx y al=>by simp_all)
theorem AJ{α:Type}{Q:α->α->Prop}{A B:World}(hl:Lk (Cc P P') S A B){s:Sem α}(hs:RT P P' (Cc P P') (λ_=>False) Q s s){v:α}{A1:World}{es0:Array Event}(hr:s.runT P A #[]=(.ok v A1,es0)):∃b,Q v b:=by
 exact (xw hs A B #[] v A1 es0 hl hr).1.resolve_left id
theorem Mv{main:Bool}(hk:jF P P' (Cc P P') bad){fr:Frame}{cs:List Frame}{A B:World}(hf:b8 P P' fr)(bv:fr.mode=.run)(h9:main=true\/cs≠[])(hl:Lk (Cc P P') S A B){g':Goroutine}{A':World}{es:Array Event}(hg:stepG.exec P main true fr cs none A=.go g' A' es):lq P P' bad S fr cs A B g' A' es (stepG.exec P' main true fr cs none B):=by
 have b7:=hf.todo
 have b6:(fr.kind=.normal/\(∀d∈fr.defers,∃b,d = { target:=.collected b,args:=#[] })/\(Cc P P').fn fr.fn)->b8 P P' { fr with mode:=.returning }:=λh=>⟨hf.todo,hf.kind,.inl h,λch=>by simp,hf.fn⟩
 have leave_:∀(h0:fr.roundOf=none),(∀(Q:Program)(w:World),stepG.exec Q main true fr cs none w=.go { frame:={ fr with mode:=.returning },callers:=cs,status:=.running,dying:=none } w #[]) ->
  lq P P' bad S fr cs A B g' A' es (stepG.exec P' main true fr cs none B):=λh0 e2=>by
  rw[e2,GStep.go.injEq] at hg;obtain⟨rfl,rfl,rfl⟩:=hg;rw[e2]
  rcases hf.calm with h|⟨h,_,_,_,bi⟩
  .exact .stay (b6 h) rfl hl
  .exact .inr (.inr λ_=>⟨aE _,rfl,aE _,rfl,rfl,rfl,λ_=>⟨_,B,.inr (.inr ⟨rfl,rfl,rfl,h,rfl,bi⟩),rfl,hl,rfl,by simp,.refl _ _,by simp⟩⟩)
 have leaveR:∀(l:Nat)(j:Option Code),fr.roundOf=some l->(∀c,j=some c->Cd P c)->(∀(Q:Program)(w:World),stepG.exec Q main true fr cs none w=GStep.after (seen Q fr.fn ((Instr.endRound l j).runT Q w #[]).2) (match ((Instr.endRound l j).runT Q w #[]).1 with
  |.ok v w=>doReturn Q main fr cs none v w
  |.halt _ w=>.ended (.stuck "range over a function: no such loop" (fr.pos Q)) w))->lq P P' bad S fr cs A B g' A' es (stepG.exec P' main true fr cs none B):=λl j bh hj e2=>by
  have hh:=hf.calm.resolve_right (λh=>by rw[h.2.2.1] at bh;cases bh);have hn:fr.kind=.normal:=hh.1;rw[e2] at hg
  rcases hr:(Instr.endRound l j).runT P A #[] with ⟨r,es0⟩
  rw[hr] at hg
  cases r with
  |halt x w=>trivial
  |ok v A1=>
   dsimp only at hg
   cases hd:doReturn P main fr cs none v A1 with
   |go g1 w1 es1=>
    rw[hd] at hg;simp only[GStep.after] at hg;obtain⟨caller,rest,rfl,rfl,rfl,rfl,hQ⟩:=Fp hh.2.2 hn h9 hd;rw[GStep.go.injEq] at hg;obtain⟨rfl,rfl,rfl⟩:=hg;rw[lM]
    refine wD hf hl (Ms l j hj) hr rfl rfl rfl (.inr (.inl ⟨rfl,caller,v,rfl,rfl,hh.2.2⟩)) λB' hb=>?_
    rw[e2,hb];dsimp only;rw[hQ];rfl
   |_=>rw[hd] at hg;simp only[GStep.after] at hg;cases hg
 rcases ht:fr.todo with _|⟨it,k⟩
 .rcases h0:fr.roundOf with _|l
  .exact leave_ h0 λQ w=>by simp only[stepG.exec,ht,h0];rfl
  .exact leaveR l none h0 (λc e=>by cases e) λQ w=>by simp only[stepG.exec,ht,h0];rfl
 .rw[ht] at b7;have ai:=b7 it fO
  have a4:∀x∈k,qH P x:=λx hx=>b7 x (dm _ hx)
  have cons_:∀{a:Item}{l:List Item},qH P a->(∀x∈l,qH P x)->∀x∈a::l,qH P x:=λha hl x hx=>(cD.1 hx).elim (λe=>e▸ha) (hl x)
  have move:∀(todo:List Item),(∀x∈todo,qH P x)->stepG.exec P main true fr cs none A=.go { frame:={ fr with todo },callers:=cs,status:=.running,dying:=none } A #[] ->
   stepG.exec P' main true fr cs none B=.go { frame:={ fr with todo },callers:=cs,status:=.running,dying:=none } B #[]->lq P P' bad S fr cs A B g' A' es (stepG.exec P' main true fr cs none B):=λtodo h1 h2 h3=>by
   rw[h2,GStep.go.injEq] at hg;obtain⟨rfl,rfl,rfl⟩:=hg;rw[h3];exact .stay (hf.Cg h1) rfl hl
  cases it with
  |inBlock id=>exact move k a4 (by simp only[stepG.exec,ht]) (by simp only[stepG.exec,ht])
  |inScope c=>exact move k a4 (by simp only[stepG.exec,ht]) (by simp only[stepG.exec,ht])
  |inLoop c=>exact move _ (cons_ (a:=.code c) ai (cons_ (a:=.inLoop c) ai a4)) (by simp only[stepG.exec,ht]) (by simp only[stepG.exec,ht])
  |inRangeFunc l=>simp only[stepG.exec,ht] at hg;cases hg
  |endRangeFunc l=>
   have e2:∀(Q:Program)(w:World),stepG.exec Q main true fr cs none w=GStep.after (seen Q fr.fn ((Instr.endLoop l).runT Q w #[]).2) (match ((Instr.endLoop l).runT Q w #[]).1 with
    |.ok jump w=>.go { frame:={ fr with todo:=(jump.map Item.code).toList++k },callers:=cs,status:=.running,dying:=none } w
    |.halt (.panic v) w=>.go { frame:=fr.raise [{ v,recovered:=false }],callers:=cs,status:=.running,dying:=none } w
    |.halt _ w=>.ended (.stuck "range over a function: no such loop" (fr.pos Q)) w):=λQ w=>by simp only[stepG.exec,ht];rfl
   rw[e2] at hg
   rcases hr:(Instr.endLoop l).runT P A #[] with ⟨r,es0⟩
   rw[hr] at hg
   cases r with
   |halt x w=>
    cases x<;>simp only[GStep.after] at hg<;>first|(cases hg;done)|skip
    rw[GStep.go.injEq] at hg;obtain⟨rfl,_,_⟩:=hg;exact .inr (.inl (.inl (Fo fr _)))
   |ok jump A1=>
    simp only[GStep.after] at hg;rw[GStep.go.injEq] at hg;obtain⟨rfl,rfl,rfl⟩:=hg;rw[lM];obtain⟨_,rfl,hj⟩:=AJ hl (Fq hk l) hr
    refine wD hf hl ((Fq hk l).mono (λ_ h=>h) λ_ _ h=>h.1) hr rfl rfl rfl (.inl ⟨.inl ⟨rfl,rfl⟩,.inl ⟨rfl,hf.Cg λx hx=>?_⟩⟩) λB' hb=>?_
    .rcases iR.1 hx with hx|hx
     .cases jump with
      |none=>simp at hx
      |some c=>
       obtain rfl:x=.code c:=by simpa using hx
       exact hj c rfl
     simp_all
    .rw[e2,hb];rfl
  |beginRound=>
   have e2:∀(Q:Program)(w:World),stepG.exec Q main true fr cs none w=stepG.apply Q true fr cs none (do fr.roundOf.elim (stuck "beginRound: no round") Instr.beginRound;pure .skip) w:=λQ w=>by simp only[stepG.exec,ht]
   rw[e2] at hg ⊢;exact wC hk hf (Mt hk _) hl hg
  |call d w r s=>exact ai.elim
  |extern r a=>exact ai.elim
  |inRegion ops todo=>
   cases todo with
   |nil=>exact move k a4 (by simp only[stepG.exec,ht]) (by simp only[stepG.exec,ht])
   |cons i rest=>
    have b':∀o,ops[i]?=some o->jG P o=true:=λo ho=>by
     have hm:o∈ops.toList:=by
      rw[<-iQ] at ho
      grind
     exact eh.1 ai o hm
    by_cases hw:((ops[i]?).map (Region.wanted · (yielded ops fr.tmps))).getD false=true
    .rcases ho:ops[i]? with _|o
     .rw[ho] at hw;cases hw
     have aq:fr.oper?=some o:=by simp[Frame.oper?,ht,ho]
     have ee:∀(Q:Program)(w:World),stepG.exec Q main true fr cs none w=(match fr.roundOf,o.op with
      |some l,.defer c=>stepG.apply Q true fr cs none (do Instr.deferInRound l (<-resolve fr.eval c o.type);pure .skip) w
      |_,_=>stepG.apply Q true fr cs none (execOp fr.eval o) w):=λQ w=>by
      simp only[stepG.exec,ht,hw,aX,stepG.oper,aq];rfl
     have bo:∀c,o.op≠.defer c:=λc e=>by have:=b' o ho;unfold jG at this;rw[e] at this;cases this
     have e2:∀(Q:Program)(w:World),stepG.exec Q main true fr cs none w=stepG.apply Q true fr cs none (execOp fr.eval o) w:=λQ w=>by
      rw[ee];simp_all
     rw[e2] at hg ⊢;exact wC hk hf (Fl hk (b' o ho) fr.eval) hl hg
    .have e2:∀(Q:Program)(w:World),stepG.exec Q main true fr cs none w=.go { frame:=fr.finish undef,callers:=cs,status:=.running,dying:=none } w #[]:=λQ w=>by
      simp only[stepG.exec,ht,hw];rfl
     rw[e2,GStep.go.injEq] at hg;obtain⟨rfl,rfl,rfl⟩:=hg;rw[e2];exact .stay (hf.finish _) (wA fr _) hl
  |code c=>
   have hc:Cd P c:=ai
   cases c with
   |skip=>exact move k a4 (by simp only[stepG.exec,ht]) (by simp only[stepG.exec,ht])
   |label l=>exact move k a4 (by simp only[stepG.exec,ht]) (by simp only[stepG.exec,ht])
   |seq a b=>
    have a5:codeOk P a=true/\codeOk P b=true:=by simpa[Cd,codeOk] using hc
    exact move _ (cons_ (a:=.code a) a5.1 (cons_ (a:=.code b) a5.2 a4)) (by simp only[stepG.exec,ht]) (by simp only[stepG.exec,ht])
   |block id c=>exact move _ (cons_ (a:=.code c) hc (cons_ (a:=.inBlock id) trivial a4)) (by simp only[stepG.exec,ht]) (by simp only[stepG.exec,ht])
   |loop c=>exact move _ (cons_ (a:=.code c) hc (cons_ (a:=.inLoop c) hc a4)) (by simp only[stepG.exec,ht]) (by simp only[stepG.exec,ht])
   |scope c=>exact move _ (cons_ (a:=.code c) hc (cons_ (a:=.inScope c) hc a4)) (by simp only[stepG.exec,ht]) (by simp only[stepG.exec,ht])
   |goto l=>cases hc
   |refuse w=>simp only[stepG.exec,ht] at hg;cases hg
   |cond c a b=>
    have a5:codeOk P a=true/\codeOk P b=true:=by simpa[Cd,codeOk] using hc
    cases hv:fr.eval c with
    |bool t=>
     cases t
     .exact move _ (cons_ (a:=.code b) a5.2 a4) (by simp only[stepG.exec,ht,hv];rfl) (by simp only[stepG.exec,ht,hv];rfl)
     .exact move _ (cons_ (a:=.code a) a5.1 a4) (by simp only[stepG.exec,ht,hv];rfl) (by simp only[stepG.exec,ht,hv];rfl)
    |_=>simp only[stepG.exec,ht,hv] at hg;cases hg
   |exit id=>
    rcases he:exitTo id k with _|k'
    .rcases h0:fr.roundOf with _|l
     .exfalso;simp[stepG.exec,ht,he,h0] at hg
     .exact leaveR l (some (.exit id)) h0 (λc e=>by cases e;rfl) λQ w=>by simp only[stepG.exec,ht,h0,he,Option.elim];rfl
    .exact move k' (λx hx=>a4 x (AH id k k' he x hx)) (by simp only[stepG.exec,ht,he,Option.elim]) (by simp only[stepG.exec,ht,he,Option.elim])
   |ret=>
    rcases h0:fr.roundOf with _|l
    .exact leave_ h0 λQ w=>by simp only[stepG.exec,ht,h0];rfl
    .exact leaveR l (some .ret) h0 (λc e=>by cases e;rfl) λQ w=>by simp only[stepG.exec,ht,h0];rfl
   |rangeFunc f ps a b=>
    have af:Xf.rng=true/\codeOk P a=true/\codeOk P b=true:=by simpa[Cd,codeOk] using hc
    have a5:=af.2;have hh:=hf.calm.resolve_right (λh=>by rw[h.2.2.2.1] at af;cases af.1)
    let call:Call:={ callee:=.value f,args:=#[],argTypes:=#[] }
    have rnC:∀l:Nat,RN P P' (Cc P P') bad (do let d <-resolve fr.eval { callee:=.value f,args:=#[.const (.func (.yield l) #[] #[])],argTypes:=#[] } 0;invoke d.target d.args) (do let d <-resolve fr.eval { callee:=.value f,args:=#[.const (.func (.yield l) #[] #[])],argTypes:=#[] } 0;invoke d.target d.args):=λl=>
     Fl hk (o:={ (default:Oper) with op:=.call { callee:=.value f,args:=#[.const (.func (.yield l) #[] #[])],argTypes:=#[] },type:=0 }) rfl fr.eval
    have e2:∀(Q:Program)(w:World),stepG.exec Q main true fr cs none w=GStep.after (seen Q fr.fn ((Instr.enterLoop fr.fn fr.tmps ps a b fr.roundOf).runT Q w #[]).2) (match ((Instr.enterLoop fr.fn fr.tmps ps a b fr.roundOf).runT Q w #[]).1 with
     |.ok (l,mark) w=>stepG.apply Q true { fr with todo:=.inRangeFunc l::k,defers:=mark++fr.defers } cs none (do let d <-resolve fr.eval { callee:=.value f,args:=#[.const (.func (.yield l) #[] #[])],argTypes:=#[] } 0;invoke d.target d.args) w
     |.halt _ w=>.ended (.stuck "range over a function: no such loop" (fr.pos Q)) w):=λQ w=>by simp only[stepG.exec,ht];rfl
    have ba:=Mu (P:=P) (P':=P') hh.2.2 fr.tmps ps a5.1 a5.2 fr.roundOf;have hreE:=ba.mono (λ_ h=>h) (λ_ _ h=>h.1);rw[e2] at hg ⊢
    rcases hr:(Instr.enterLoop fr.fn fr.tmps ps a b fr.roundOf).runT P A #[] with ⟨r,es0⟩
    rw[hr] at hg
    cases r with
    |halt x w=>trivial
    |ok lm A1=>
     obtain⟨l,mark⟩:=lm;dsimp only at hg;obtain⟨_,rfl,ao⟩:=AJ hl ba hr;have b9:b8 P P' { fr with todo:=.inRangeFunc l::k,defers:=mark++fr.defers }:=⟨cons_ (a:=.inRangeFunc l) trivial a4,hf.kind,.inl ⟨hh.1,λd hd=>(iR.1 hd).elim (ao d) (hh.2.1 d),hh.2.2⟩,hf.mode,hf.fn⟩
     cases au:stepG.apply P true { fr with todo:=.inRangeFunc l::k,defers:=mark++fr.defers } cs none (do let d <-resolve fr.eval { callee:=.value f,args:=#[.const (.func (.yield l) #[] #[])],argTypes:=#[] } 0;invoke d.target d.args) A1 with
     |go g1 w1 es1=>
      rw[au] at hg;simp only[GStep.after] at hg;rw[GStep.go.injEq] at hg;obtain⟨rfl,rfl,rfl⟩:=hg;obtain⟨fn,a7,a6,ae,a8,aj⟩:=hf.fn;by_cases b4:∃f args cs,bad f/\g1.frame=Frame.enter P f args .normal/\g1.callers=cs
      .exact .inl b4
      by_cases b5:(∃ch,g1.frame.mode=.panicking ch)\/g1.dying≠none
      .exact .inr (.inl b5)
      have bk:Lk (Cc P P') S A { B with tape:=A.tape,drawn:=A.drawn }:=⟨hl.size,hl.low,hl.same,hl.dead,hl.os,hl.output⟩
      have a':seen P fr.fn es0=es0:=tI a6 a8 λe he=>((xw hreE A B #[] _ A1 es0 hl hr).2 e he).resolve_left (by simp)
      refine .inr (.inr λhv=>?_)
      have bb:∀e∈es0,S.dB e:=λe he=>hv e (I5 _ (by rw[a'];exact he))
      have bc:∀e∈es1,S.dB e:=λe he=>hv e (I6 _ he)
      obtain⟨b0,B0,new0,y1,y2,rfl,y3,y4,y5,_,y6⟩:=((wh hreE A _ #[] #[] _ A1 es0 bk hr bb).resolve_left id).alike λj _=>rfl
      have ha:=(wh hreE A B #[] #[] _ A1 es0 hl hr bb).resolve_left id;obtain⟨z1,z2,z3,z4,z5,z6,_⟩:=((wC hk b9 (rnC l) y3 au).resolve_left b4).resolve_left b5 bc;have d1:=ha.drawn;have d2:=ha.size;refine⟨by omega,z2.trans ha.tape,by omega,z4,z5,z6,λag=>?_⟩
      obtain⟨b,B1,new,x1,x2,rfl,x3,x4,x5,x7,x6⟩:=ha.alike λj hj=>ag j (by omega)
      have en:new=es0:=by rw[x2];simp
      subst en;obtain⟨_,_,_,_,_,_,q⟩:=((wC hk b9 (rnC l) x3 au).resolve_left b4).resolve_left b5 bc
      obtain⟨fr2,B2,zf,c6,w2,w3,w4,w6,w5⟩:=q λj hj=>by
       have:=ag (A1.drawn-A.drawn+j) (by omega);rw[x4,ha.tape,x5]
       have e3:A1.drawn+j=A.drawn+(A1.drawn-A.drawn+j):=by omega
       have e4:B.drawn+(A1.drawn-A.drawn)+j=B.drawn+(A1.drawn-A.drawn+j):=by omega
       rw[e3,e4];exact this
      refine⟨fr2,B2,zf,?_,w2,w3.trans x4,by rw[w4,x5];omega,by rw[a'];exact x7.trans w6,λe he=>?_⟩
      .rw[x1];simp only[Array.empty_append];rw[c6,wz a6 ae a8 aj λe he=>wB (x6 e he)];rfl
      .rcases yc.1 he with he|he
       .exact (x6 e (wy e he)).mono w6
       grind
     |_=>rw[au] at hg;simp only[GStep.after] at hg;cases hg
   |region id ops draw=>
    cases draw with
    |false=>exact move _ (cons_ (a:=.inRegion ops (List.range ops.size)) hc a4) (by simp[stepG.exec,ht]) (by simp[stepG.exec,ht])
    |true=>
     have e2:∀(Q:Program)(w:World),stepG.exec Q main true fr cs none w=.go { frame:={ fr with todo:=.inRegion ops (Region.schedule (Q.follows .mixedOrders) ops (w.tape w.drawn (.order fr.fn id)))::k },callers:=cs,status:=.running,dying:=none } { w with drawn:=w.drawn+1 } #[]:=λQ w=>by
      simp[stepG.exec,ht,choose,Sem.run,Question.forced,Question.cut]
     rw[e2,GStep.go.injEq] at hg;obtain⟨rfl,rfl,rfl⟩:=hg;rw[e2,Mq hk.kin];refine .inr (.inr λ_=>⟨Nat.le_succ _,rfl,aE _,rfl,rfl,rfl,λag=>⟨_,{ B with drawn:=B.drawn+1 },.inl ⟨.inl ⟨rfl,rfl⟩,.inl ⟨rfl,hf.Cg (cons_ (a:=.inRegion ops _) hc a4)⟩⟩,?_,⟨hl.size,hl.low,hl.same,hl.dead,hl.os,hl.output⟩,rfl,by simp,.draw _ _,by simp⟩⟩);have:=ag 0 (by simp);simp_all
end
section
variable{P P':Program}{bad:Nat->Prop}{S:Sh}
theorem Fs(b:Nat):RT P P' (Cc P P') (λ_=>False) (λx y=>x=y/\x=[]) (Instr.takeDeferred b) (Instr.takeDeferred b):=by
 unfold Instr.takeDeferred;refine nq b (λo ho=>?_) (λo ho=>?_)
 .cases o<;>first|exact aY _ _|skip
  rename_i c
  rcases c with _|_|⟨d,ds⟩
  .exact aY _ _
  .exact aJ (oI b trivial) λ_=>.pure _ _ ⟨rfl,rfl⟩
  trivial
 .cases o<;>exact aY _ _
theorem Mw(hk:jF P P' (Cc P P') bad)(fn:Func)(T:Array Value):RE P P' (Cc P P') (results fn T) (results fn T):=by
 unfold results
 refine aJ (E5 _ (λr=>?_) _) λvs=>aI _
 cases r with
 |tmp t=>exact aI _
 |cell a t=>exact aJ (wq hk.kin _) λx=>wi hk.kin t x
theorem Mx{main:Bool}(hk:jF P P' (Cc P P') bad){fr:Frame}{cs:List Frame}{A B:World}(hf:b8 P P' fr)(bl:fr.mode=.returning)(h9:main=true\/cs≠[])(hl:Lk (Cc P P') S A B){g':Goroutine}{A':World}{es:Array Event}(hg:unwind P main fr cs none A=.go g' A' es):lq P P' bad S fr cs A B g' A' es (unwind P' main fr cs none B):=by
 obtain⟨hn,ay,aa⟩:=hf.calm.resolve_right (λh=>by rw[bl] at h;cases h.2.1)
 rcases hd:fr.defers with _|⟨d,ds⟩
 .cases hm:fr.mode with
  |run=>simp_all
  |panicking ch=>simp_all
  |returning=>
   obtain⟨⟨fn,a6,ae,a8⟩,_⟩:=id aa
   have e2:∀(Q:Program)(w:World),Q.funcs[fr.fn]?=some fn->unwind Q main fr cs none w=GStep.after (seen Q fr.fn ((results fn fr.tmps).runT Q w #[]).2) (match ((results fn fr.tmps).runT Q w #[]).1 with
    |.ok v w=>doReturn Q main fr cs none v w
    |.halt (.stuck s) w=>.ended (.stuck s (fr.pos Q)) w
    |.halt _ w=>.ended (.stuck "return: the result variables cannot be read" (fr.pos Q)) w):=λQ w hq=>by simp only[unwind,hd,hm,hq];rfl
   rw[e2 P A a6] at hg
   rcases hr:(results fn fr.tmps).runT P A #[] with ⟨r,es0⟩
   rw[hr] at hg
   cases r with
   |halt x w=>cases x<;>simp[GStep.after] at hg
   |ok v A1=>
    dsimp only at hg
    cases az:doReturn P main fr cs none v A1 with
    |go g1 w1 es1=>
     rw[az] at hg;simp only[GStep.after] at hg;obtain⟨caller,rest,rfl,rfl,rfl,rfl,hQ⟩:=Fp aa hn h9 az;rw[GStep.go.injEq] at hg;obtain⟨rfl,rfl,rfl⟩:=hg;rw[lM]
     refine wD hf hl (Mw hk fn fr.tmps) hr rfl rfl rfl (.inr (.inl ⟨rfl,caller,v,rfl,rfl,aa⟩)) λB' hb=>?_
     rw[e2 P' B ae,hb];dsimp only;rw[hQ];rfl
    |_=>rw[az] at hg;simp only[GStep.after] at hg;cases hg
 .rw[hd] at ay;obtain⟨b,rfl⟩:=ay d fO
  have e2:∀(Q:Program)(w:World),unwind Q main fr cs none w=GStep.after (seen Q fr.fn ((Instr.takeDeferred b).runT Q w #[]).2) (match ((Instr.takeDeferred b).runT Q w #[]).1 with
   |.ok calls w=>.go { frame:={ fr with defers:=calls++ds },callers:=cs,status:=.running,dying:=none } w
   |.halt _ w=>.ended (.stuck "the deferred calls of a range-over-func loop have been taken" (fr.pos Q)) w):=λQ w=>by simp only[unwind,hd];rfl
  rw[e2] at hg
  rcases hr:(Instr.takeDeferred b).runT P A #[] with ⟨r,es0⟩
  rw[hr] at hg
  cases r with
  |halt x w=>trivial
  |ok calls A1=>
   simp only[GStep.after] at hg;rw[GStep.go.injEq] at hg;obtain⟨rfl,rfl,rfl⟩:=hg;rw[lM];obtain⟨_,_,hc⟩:=AJ hl (Fs b) hr;subst hc
   refine wD hf hl ((Fs b).mono (λ_ h=>h) λ_ _ h=>h.1) hr rfl rfl rfl (.inl ⟨.inl ⟨rfl,rfl⟩,.inl ⟨rfl,hf.todo,hf.kind,.inl ⟨hn,λd bf=>ay d (dm _ (by simpa using bf)),aa⟩,hf.mode,hf.fn⟩⟩) λB' hb=>?_
   rw[e2,hb];rfl
theorem Ft{main:Bool}(hk:jF P P' (Cc P P') bad){fr:Frame}{cs:List Frame}{A B:World}(hf:b8 P P' fr)(h9:main=true\/cs≠[])(hl:Lk (Cc P P') S A B){g':Goroutine}{A':World}{es:Array Event}(hg:stepG P main (G fr cs) A=.go g' A' es):lq P P' bad S fr cs A B g' A' es (stepG P' main (G fr cs) B):=by
 cases hm:fr.mode with
 |run=>
  have e:∀(Q:Program)(w:World),stepG Q main (G fr cs) w=stepG.exec Q main true fr cs none w:=λQ w=>by simp only[stepG,G,hm]
  rw[e] at hg ⊢;exact Mv hk hf hm h9 hl hg
 |returning=>
  have e:∀(Q:Program)(w:World),stepG Q main (G fr cs) w=unwind Q main fr cs none w:=λQ w=>by simp only[stepG,G,hm]
  rw[e] at hg ⊢;exact Mx hk hf hm h9 hl hg
 |panicking ch=>exact absurd hm (hf.mode ch)
end
end Go.Fc
