/- Lemmas. -/
import Derived.Test.YthpkmilhiganjaaGreatPMa
set_option linter.all false
set_option maxHeartbeats 32000000
set_option maxRecDepth 100000
namespace Go.Fc
open Go
def Calm(P:Program){α:Type}(s:Sem α):Prop:=∀w es,∃b,s.runT P w es=(.ok b w,es)
section
variable{P P':Program}{C:Cx}(h:Kin P P')
include h
theorem Ez(b:Bool)(d:Nat):∀(t:TypeId),gT P d t=true->∀(n:Nat)(x:Value),RE P P' C (Instr.checkKey b n t x) (Instr.checkKey b n t x):=by
 induction d with
 |zero=>intro t ht;cases ht
 |succ d ih=>
  intro t ht n x
  cases n with
  |zero=>exact dL _ _
  |succ n=>
   unfold gT at ht;unfold Instr.checkKey
   rcases hu:P.underlying t with _|td
   .rw[hu] at ht;cases ht
   rw[hu] at ht;refine kh h hu ?_
   cases td with
   |int k=>cases x<;>exact bU _
   |string=>cases x<;>exact bU _
   |bool=>cases x<;>exact bU _
   |slice e=>cases x<;>exact bU _
   |array len e=>
    have hx:=ih e ht n
    cases x<;>first|exact cu _ _|skip
    dsimp only
    repeat' first|exact bU _|exact hx _|exact gP h _|exact nY h _ _ _|refine bV ?_ λ_=>?_|refine yW _ _ (λ_ _=>?_) _ _|split|dsimp only
   |_=>cases ht
theorem EA{d:Nat}{t:TypeId}(ht:gT P d t=true)(k:Value):∀(es:List MapEntry)(i:Nat),RE P P' C (Instr.findAsking t k es i) (Instr.findAsking t k es i)
 |[],_=>bU _
 |e::es,i=>by
  unfold Instr.findAsking
  refine bV (yX h d t ht _ _ _) λb=>?_
  split
  .exact bU _
  .exact EA ht k es _
theorem EB{d:Nat}{t:TypeId}(ht:gT P d t=true)(k:Value)(es:List MapEntry):RE P P' C (Instr.findKey t k es) (Instr.findKey t k es):=by
 unfold Instr.findKey
 refine bV (fB h t) λtd=>?_
 split
 .exact bU _
 .exact EA h ht _ _ _
omit h in
theorem KU(r:Nat){α:Type}(m:String){f g:Array MapEntry->Nat->Sem α}{D:α->Prop}{Q:α->α->Prop}(hf:∀es c,RT P P' C D Q (f es c) (g es c)):RT P P' C D Q (getObj r >>= λo=>match o with | .map es c=>f es c|_=>stuck m) (getObj r >>= λo=>match o with | .map es c=>g es c|_=>stuck m):=by
 refine nZ r (λo ho=>?_) (λo ho=>?_)
 .cases o<;>first|exact hf _ _|exact cu _ _
 .cases o<;>first|exact absurd trivial ho|exact cu _ _
theorem KW{d:Nat}{t key elem:TypeId}(hm:P.underlying t=some (.map key elem))(hk:gT P d key=true)(x i:Value)(ok:Bool):RE P P' C (Instr.lookup t x i ok) (Instr.lookup t x i ok):=by
 unfold Instr.lookup;refine kh h hm ?_;dsimp only
 have tail:∀es:Array MapEntry,RE P P' C (do
  Instr.checkKey es.isEmpty 10000 key i
  let (v,b) <-match <-Instr.findKey key i es.toList with
   |some (_,v)=>pure (v,true)
   |none=>pure (<-zeroValue elem,false)
  pure (if ok then Value.tuple #[v,.bool b] else v)) (do
  Instr.checkKey es.isEmpty 10000 key i
  let (v,b) <-match <-Instr.findKey key i es.toList with
   |some (_,v)=>pure (v,true)
   |none=>pure (<-zeroValue elem,false)
  pure (if ok then Value.tuple #[v,.bool b] else v)):=λes=>by
  repeat' first|exact bU _|exact Ez h _ d _ hk _ _|exact EB h hk _ _|exact oY h _|refine bV ?_ λ_=>?_|split|dsimp only
 cases x with
 |map r=>
  cases r with
  |none=>grind
  |some r=>
   refine nZ r (λo ho=>?_) (λo ho=>?_)
   .cases o<;>first|exact tail _|exact bV (bU _) tail|exact cu _ _|exact bV (cu _ _) tail
   .cases o<;>first|exact absurd trivial ho|exact cu _ _|exact bV (cu _ _) tail
 |_=>exact bV (cu _ _) λes=>tail es
theorem KX{d:Nat}{t key elem:TypeId}(hm:P.underlying t=some (.map key elem))(hk:gT P d key=true)(x i v:Value):RE P P' C (Instr.mapUpdate t x i v) (Instr.mapUpdate t x i v):=by
 unfold Instr.mapUpdate;refine kh h hm ?_;dsimp only
 cases x with
 |map r=>
  cases r with
  |none=>exact gR h _
  |some r=>
   dsimp only
   refine KU r _ λes c=>?_
   refine bV (Ez h _ d _ hk _ _) λ_=>bV (EB h hk _ _) λo=>?_
   cases o with
   |none=>exact oX _ trivial
   |some o=>
    unfold Instr.keyThatStays
    repeat' first|exact bU _|exact oX _ trivial|exact j7 _|refine bV ?_ λ_=>?_|split|dsimp only
 |_=>exact cu _ _
omit h in
theorem KY(s:FloatKind)(b:Nat)(k:IntKind):RE P P' C (Conv.floatToInt s b k) (Conv.floatToInt s b k):=by
 unfold Conv.floatToInt
 repeat' first|exact bU _|exact cu _ _|exact dL _ _|exact j7 _|refine bV ?_ λ_=>?_|split|dsimp only
omit h in
theorem KZ(e:TypeId)(x:ByteArray):RE P P' C (Conv.stringToBytes e x) (Conv.stringToBytes e x):=by
 unfold Conv.stringToBytes
 refine bV (j7 _) λcap=>?_
 dsimp only;generalize (Array.map (λb:UInt8=>Value.int IntKind.u8 ↑b.toNat) x.data)++Array.replicate (cap-x.size) (Value.int .u8 0)=c
 have key:∀(p:Program)(w:World)(es:Array Event),(do
  let a <-newRow e c
  markStringish a
  pure (Value.slice (some a) x.size cap):Sem Value).runT p w es=(Sem.pure (Value.slice (some ⟨w.heap.size,0,none⟩) x.size cap)).runT p { w with heap:=w.heap.push (.cells c e (c.size,c.size+1))} es:=by
  intro p w es
  have hm:(w.heap.push (.cells c e)).modify w.heap.size (fun | .cells c' elem (lo,hi)=>.cells c' elem (if lo==hi then (c.size,c.size+1) else (min lo c.size,max hi (c.size+1)))|o=>o)=w.heap.push (.cells c e (c.size,c.size+1)):=by
   apply rr;intro i;rw[fu,qg,qg];by_cases hi:i=w.heap.size
   .subst hi;simp
   .rw[bP hi,bP hi,bP (gO hi)]
  have c5:World.shape? { w with heap:=w.heap.push (.cells c e)} w.heap.size=some (e,c.size):=by simp[World.shape?]
  have bq:World.freeze { w with heap:=w.heap.push (.cells c e)} ⟨w.heap.size,c.size,none⟩ 1 = { w with heap:=w.heap.push (.cells c e (c.size,c.size+1))} :=
   congrArg (λh=>({ w with heap:=h }:World)) hm
  have h1:(newRow e c).runT p w es=(.ok ⟨w.heap.size,0,none⟩ { w with heap:=w.heap.push (.cells c e)},es):=rfl
  have h2:(markStringish ⟨w.heap.size,0,none⟩).runT p { w with heap:=w.heap.push (.cells c e)} es=(.ok () { w with heap:=w.heap.push (.cells c e (c.size,c.size+1))},es):=by
   unfold markStringish;show (Sem.shape _ _:Sem Unit).runT _ _ _=_;simp only[Sem.runT];rw[c5,<-bq];rfl
  simp_all
 exact .pq (.cells c e (c.size,c.size+1)) _ _ (λr=>.pure (.slice (some ⟨r,0,none⟩) x.size cap)) (λr=>.pure (.slice (some ⟨r,0,none⟩) x.size cap)) trivial key key λr=>.pure _ _ rfl
theorem K0{src dst e:TypeId}(hs:P.underlying src=some .string)(hd:P.underlying dst=some (.slice e))(he:P.underlying e=some (.int .u8))(x:Value):RE P P' C (convert src dst x) (convert src dst x):=by
 unfold convert;refine kh h hs (kh h hd ?_)
 cases x<;>(try dsimp only)<;>first|exact kh h he (KZ _ _)|(repeat' first|contradiction|exact dL _ _|exact cu _ _|split)
theorem K1{src dst:TypeId}{k k':IntKind}(hs:P.underlying src=some (.int k'))(hd:P.underlying dst=some (.int k))(x:Value):RE P P' C (convert src dst x) (convert src dst x):=by
 unfold convert;refine kh h hs (kh h hd ?_)
 cases x<;>(try dsimp only)<;>repeat' first|contradiction|exact bU _|exact KY _ _ _|exact dL _ _|exact cu _ _|split
omit h in
theorem yZ(v:Value):RE P P' C (Builtin.lenOf v) (Builtin.lenOf v):=by
 unfold Builtin.lenOf
 repeat' first|exact bU _|exact cu _ _|split
omit h in
theorem y9(s n:Nat)(v:Value):RE P P' C (Builtin.firstCells s n v) (Builtin.firstCells s n v):=by
 unfold Builtin.firstCells
 repeat' first|exact bU _|exact cu _ _|exact Ee _ _|split
omit h in
theorem Calm.pure{α:Type}(a:α):Calm P (Pure.pure a:Sem α):=λw es=>⟨a,rfl⟩
omit h in
theorem Calm.shape(r:Nat):Calm P (Go.shape r):=λw es=>⟨_,rfl⟩
omit h in
theorem Calm.frozen(a:Addr):Calm P (Go.frozen a):=λw es=>⟨_,rfl⟩
omit h in
theorem Calm.bind{α β:Type}{s:Sem α}{f:α->Sem β}(hs:Calm P s)(hf:∀a,Calm P (f a)):Calm P (s >>= f):=λw es=>by
 obtain⟨a,ha⟩:=hs w es;obtain⟨b,hb⟩:=hf a w es;simp_all
omit h in
theorem K3{α β:Type}{s:Sem α}{f:α->Sem β}{t:Sem β}{D:β->Prop}{Q:β->β->Prop}(hs:Calm P s)(hf:∀a w es,NP w->pn w ((f a).runT P w es).1):RT P P' C D Q (s >>= f) t:=by
 refine .bad _ _ λw es hn=>?_
 have e2:(s >>= f).runT P w es=(s.bind f).runT P w es:=rfl;rw[e2,Sem.runT_bind'];obtain⟨b,hb⟩:=hs w es;rw[hb];simp_all
omit h in
theorem EC{β:Type}{x n m:Nat}{o:Option Addr}{v:Value}{f:Bool->Sem β}{t:Sem β}(hf:∀a w es,NP w->pn w ((f a).runT P w es).1):RE P P' C (Builtin.mayShare x n m o v >>= f) t:=by
 have key:Calm P (Builtin.mayShare x n m o v):=by
  unfold Builtin.mayShare Builtin.holdsCells
  repeat' first|exact Calm.pure _|exact Calm.shape _|exact Calm.frozen _|refine Calm.bind ?_ λ_=>?_|split|dsimp only
 exact K3 key hf
theorem K4(ts:Array TypeId)(t:TypeId)(args:Array Value):RE P P' C (Builtin.append_ ts t args) (Builtin.append_ ts t args):=by
 unfold Builtin.append_;split
 .refine bV (fB h _) λtd=>?_
  split
  .split
   .refine bV (gP h _) λn=>?_
    have z:∀(f:Bool->Sem Value),(∀b,RE P P' C (f b) (f b))->RE P P' C (do
     let zeros <-match ts[1]? with
      |some xType=>do pure ((<-Go.underlying xType) matches .int _)
      |none=>pure false
     f zeros) (do
     let zeros <-match ts[1]? with
      |some xType=>do pure ((<-Go.underlying xType) matches .int _)
      |none=>pure false
     f zeros):=λf hf=>by
     split
     .exact bV (fB h _) λ_=>bV (bU _) hf
     simp_all
    refine z _ λb=>?_
    cases b
    .simp only[dz,cT,jq,cz]
     repeat' first|contradiction|exact bU _|exact cu _ _|exact dL _ _|exact gR h _|exact j7 _|exact fB h _|exact gP h _|exact oY h _|exact ng h _|exact tL _|exact yZ _|exact y9 _ _ _|exact qp _ _ _|exact yR _|exact tK _ _|(refine EC ?_;intro a w es hn;cases a<;>exact⟨trivial,id⟩)|refine bV ?_ λ_=>?_|split|dsimp only
    .simp only[Bool.true_eq_false,cz,ik,dz,cT]
     repeat' first|contradiction|exact bU _|exact cu _ _|exact dL _ _|exact gR h _|exact j7 _|exact fB h _|exact gP h _|exact oY h _|exact ng h _|exact tL _|exact yZ _|exact y9 _ _ _|exact qp _ _ _|exact yR _|exact tK _ _|(refine EC ?_;intro a w es hn;cases a<;>exact⟨trivial,id⟩)|refine bV ?_ λ_=>?_|split|dsimp only
   .exact cu _ _
  .exact cu _ _
 .exact cu _ _
theorem K5(ts:Array TypeId)(t:TypeId)(args:Array Value):RE P P' C (Builtin.copy_ ts t args) (Builtin.copy_ ts t args):=by
 unfold Builtin.copy_
 repeat' first|exact bU _|exact cu _ _|exact fB h _|exact gP h _|exact yZ _|exact y9 _ _ _|exact qp _ _ _|refine bV ?_ λ_=>?_|split|dsimp only
theorem K6(ts:Array TypeId)(t:TypeId)(args:Array Value):RE P P' C (Builtin.clear_ ts t args) (Builtin.clear_ ts t args):=by
 unfold Builtin.clear_
 repeat' first|exact bU _|exact cu _ _|exact fB h _|exact oY h _|exact qp _ _ _|exact oX _ trivial|(refine nZ _ (λo ho=>?_) (λo ho=>?_)<;>cases o<;>first|exact absurd trivial ho|exact cu _ _|exact bV (oX _ trivial) λ_=>bU _|exact bV (cu _ _) λ_=>bU _)|refine bV ?_ λ_=>?_|split|dsimp only
theorem K8{ts:Array TypeId}{t0:TypeId}{td:TypeDesc}(ht:ts[0]?=some t0)(hu:P.underlying t0=some td)(hd:(∃e,td=.slice e)\/td=.string)(t:TypeId)(args:Array Value):RE P P' C (Builtin.len_ ts t args) (Builtin.len_ ts t args):=by
 unfold Builtin.len_;rw[ht]
 cases args[0]? with
 |none=>exact cu _ _
 |some x=>
  refine kh h hu ?_
  rcases hd with ⟨e,rfl⟩|rfl<;>cases x<;>first|exact bU _|exact cu _ _
omit h in
theorem K9(a b:Value):RE P P' C (Builtin.max2 a b) (Builtin.max2 a b):=by
 unfold Builtin.max2
 repeat' first|exact bU _|exact cu _ _|exact dL _ _|exact j7 _|exact yT _ _ _|exact vC _|refine bV ?_ λ_=>?_|split|dsimp only
omit h in
theorem La(a b:Value):RE P P' C (Builtin.min2 a b) (Builtin.min2 a b):=by
 unfold Builtin.min2
 repeat' first|exact bU _|exact cu _ _|exact dL _ _|exact j7 _|exact yT _ _ _|exact vC _|refine bV ?_ λ_=>?_|split|dsimp only
omit h in
theorem za(f:Value->Value->Sem Value)(hf:∀a b,RE P P' C (f a b) (f a b)):∀(l:List Value)(a:Value),RE P P' C (l.foldlM f a) (l.foldlM f a)
 |[],a=>by rw[List.foldlM_nil];exact bU _
 |b::l,a=>by rw[List.foldlM_cons];exact bV (hf a b) λc=>za f hf l c
omit h in
theorem Lb(ts:Array TypeId)(t:TypeId)(args:Array Value):RE P P' C (Builtin.max_ ts t args) (Builtin.max_ ts t args):=by
 unfold Builtin.max_;split
 .exact cu _ _
 .exact za _ K9 _ _
omit h in
theorem Lc(ts:Array TypeId)(t:TypeId)(args:Array Value):RE P P' C (Builtin.min_ ts t args) (Builtin.min_ ts t args):=by
 unfold Builtin.min_;split
 .exact cu _ _
 .exact za _ La _ _
end
structure iv(P P':Program)(C:Cx)(bad:Nat->Prop):Prop where
 kin:Kin P P'
 funcs:∀f,(P.funcs[f]?=none/\P'.funcs[f]?=none)\/(C.xf f/\∃fn c a9 c',P.funcs[f]?=some fn/\(fn.name == "runtime.NumGoroutine")=false/\fn.body=some c/\P'.funcs[f]?=some a9/\(a9.name == "runtime.NumGoroutine")=false/\a9.body=some c')\/(bad f/\∃fn c,P.funcs[f]?=some fn/\(fn.name == "runtime.NumGoroutine")=false/\fn.body=some c) \/
  ∃fn c,P.funcs[f]?=some fn/\P'.funcs[f]?=some fn/\(fn.name == "runtime.NumGoroutine")=false/\fn.body=some c/\C.code c/\C.fn f
def okN(C:Cx)(P:Program):Next->Prop
 |.value _ | .skip=>True
 |.enter f _=>(∃fn c,P.funcs[f]?=some fn/\fn.body=some c/\C.code c/\C.fn f)\/C.xf f
 |.round _ f _ a b=>C.code a/\C.code b/\C.fn f
 |_=>False
def dmN(bad:Nat->Prop):Next->Prop
 |.enter f _=>bad f
 |.spawn _=>True
 |_=>False
section
variable{P P':Program}{C:Cx}{bad:Nat->Prop}
abbrev RN(P P':Program)(C:Cx)(bad:Nat->Prop)(s t:Sem Next):Prop:=RT P P' C (dmN bad) (λa b=>a=b/\okN C P a) s t
theorem fI{s t:Sem Value}(h:RE P P' C s t):RN P P' C bad (s >>= λx=>pure (.value x)) (t >>= λx=>pure (.value x)):=bV h λv=>.pure _ _ ⟨rfl,trivial⟩
theorem zb{s t:Sem Unit}(h:RE P P' C s t):RN P P' C bad (s >>= λ_=>pure .skip) (t >>= λ_=>pure .skip):=bV h λv=>.pure _ _ ⟨rfl,trivial⟩
theorem qu(v:Value):RN P P' C bad (pure (.value v)) (pure (.value v)):=.pure _ _ ⟨rfl,trivial⟩
variable(h:iv P P' C bad)
include h
theorem zc(f:FuncId)(args:Array Value):RN P P' C bad (callFunc f args) (callFunc f args):=by
 unfold callFunc;refine jc ?_
 rcases h.funcs f with ⟨e1,e2⟩|⟨hx,fn,c,a9,c',e1,hn,hc,e2,bu,bm⟩|⟨hb,fn,c,e1,hn,hc⟩|⟨fn,c,e1,e2,hn,hc,hC⟩
 .rw[e1,e2];exact cu _ _
 .rw[e1,e2];simp only[hn,hc,bu,bm,JJ,dz,cT];exact .pure _ _ ⟨rfl,.inr hx⟩
 .rw[e1];simp only[hn,hc,JJ,dz,cT];exact .oB _ _ hb
 .rw[e1,e2];simp only[hn,hc,JJ,dz,cT];exact .pure _ _ ⟨rfl,.inl ⟨fn,c,e1,hc,hC⟩⟩
theorem ze(t:TypeId)(x:Place):RE P P' C (x.get t) (x.get t):=by
 cases x with
 |val v=>exact bU _
 |var a=>exact vw h.kin t a
theorem zg:∀(l:List FieldStep)(t:TypeId)(x:Place),RE P P' C (follow l t x) (follow l t x)
 |[],t,x=>bU _
 |s::r,t,x=>by
  unfold follow
  repeat' first|exact bU _|exact cu _ _|exact fB h.kin _|exact vD h.kin _|exact ze h _ _|exact Er h.kin _ _|exact nY h.kin _ _ _|exact zg r _ _|refine bV ?_ λ_=>?_|split|dsimp only
theorem Ld(ts:Array TypeId)(t:TypeId)(a b c:Value):RE P P' C (Builtin.ssaWrapNilChk_ ts t #[a,b,c]) (Builtin.ssaWrapNilChk_ ts t #[a,b,c]):=by
 cases b<;>first|exact cu _ _|skip
 cases c<;>first|exact cu _ _|skip
 cases a<;>first|exact cu _ _|skip
 rename_i p
 cases p with
 |some x=>exact bU _
 |none=>
  unfold Builtin.ssaWrapNilChk_;dsimp only
  repeat' first|exact bU _|exact cu _ _|exact dL _ _|exact gR h.kin _|exact j7 _|exact fB h.kin _|exact ng h.kin _|refine bV ?_ λ_=>?_|split|dsimp only
theorem ED(t:TypeId)(x:Place)(b:Bool)(o:Option String):RE P P' C (receiverAt t x b o) (receiverAt t x b o):=by
 unfold receiverAt
 repeat' first|exact bU _|exact cu _ _|exact fB h.kin _|exact vD h.kin _|exact ze h _ _|exact vw h.kin _ _|exact Ld h _ _ _ _ _|refine bV ?_ λ_=>?_|split|dsimp only
theorem Le(t:TypeId)(v:Value)(l:Array FieldStep)(b:Bool):RE P P' C (receiverVia t v l b) (receiverVia t v l b):=by
 unfold receiverVia
 exact bV (zg h _ _ _) λx=>ED h _ _ _ _
theorem EE:∀(n:Nat)(t:TypeId)(v:Value)(m:String),RE P P' C (method n t v m) (method n t v m)
 |0,_,_,_=>dL _ _
 |n+1,t,v,m=>by
  unfold method
  repeat' first|exact bU _|exact cu _ _|exact gR h.kin _|exact ng h.kin _|exact zg h _ _ _|exact ze h _ _|exact ED h _ _ _ _|exact EE n _ _ _|refine bV ?_ λ_=>?_|split|dsimp only
theorem EG(x:Value)(m:String)(args:Array Value):RN P P' C bad (callMethod x m args) (callMethod x m args):=by
 have kt:P'.types=P.types:=by obtain⟨fs,rfl⟩:=h.kin.eq;rfl
 unfold callMethod;split
 .refine jc ?_;rw[kt]
  exact bV (EE h _ _ _ _) λy=>zc h _ _
 .exact gR h.kin _
 .exact cu _ _
end
def jy(P:Program)(o:Oper):Bool:=match o.op with
 |.move _ | .assign _ | .pick .. | .alloc .. | .box .. | .build .. | .buildSlice .. | .load .. | .store .. | .nilCheck _ | .unOp .. | .makeInterface .. | .makeFunc .. | .makeMap .. | .makeSlice .. | .slice .. | .fieldAddr .. | .field .. | .indexAddr .. | .index .. | .extract .. | .panic _=>true
 |.binOp op t ..=>!(op == .eql || op == .neq) || nB P t
 |.convert s d _=>match P.underlying s,P.underlying d with|some (.int _),some (.int _)=>true|some .string,some (.slice e)=>(match P.underlying e with|some (.int .u8)=>true|_=>false)|_,_=>false
 |.lookup t .. | .mapUpdate t ..=>match P.underlying t with|some (.map k _)=>gT P 10 k|_=>false
 |.call c=>match c.callee with
  |.builtin .append | .builtin .copy | .builtin .clear | .builtin .max | .builtin .min=>true
  |.builtin .len=>match c.argTypes[0]? with
   |some t=>match P.underlying t with|some (.slice _)|some .string=>true|_=>false
   |none=>false
  |.value _=>true
  |_=>false
 |.go c=>match c.callee with
  |.value _=>true
  |_=>false
 |_=>false
section
variable{P P':Program}{C:Cx}{bad:Nat->Prop}(h:iv P P' C bad)
theorem Lf{w:World}(h:ND w)(c:Array Value)(e:TypeId):ND { w with heap:=w.heap.push (.cells c e)}:=by
 intro b ds hb;simp only[qg] at hb;split at hb
 .cases hb
 .exact h b ds hb
theorem Lg{α:Type}(w:World)(es:Array Event):pn w ((runtimePanic .panicNil:Sem α).runT P w es).1:=by
 unfold runtimePanic elemOf newVar newRow Go.underlying newObj;simp only[bind,Sem.bind,program,Sem.runT]
 rcases P.underlying P.rt.panicNilError with _|td
 .exact⟨trivial,id⟩
 .cases td<;>first|exact⟨trivial,id⟩|exact⟨trivial,λh=>Lf h _ _⟩
theorem Lh(w:World)(c:Sys):(w.sys c).2.heap=w.heap:=by
 have ask:∀{α:Type}(a:Ask α)(w:World),(w.ask a).2.heap=w.heap:=by
  intro α a
  induction a with
  |done x=>intro w;rfl
  |ask what range k ih=>
   intro w;unfold World.ask;dsimp only;split
   .exact ih _ w
   .exact ih _ _
 unfold World.sys;have:=ask (Kernel.perform c w.os) w
 grind
theorem EH{w:World}(h:ND w)(c:Sys):ND (w.sys c).2:=λb ds hb=>h b ds (by rw[Lh] at hb;exact hb)
theorem Ll{β:Type}{w w1:World}{r:Result β}(h:ND w->ND w1)(q:pn w1 r):pn w r:=by
 cases r with
 |ok a b=>exact q
 |halt a b=>exact⟨q.1,λx=>q.2 (h x)⟩
theorem Lm{β:Type}(f:Int->Sem β)(hf:∀a w es,pn w ((f a).runT P w es).1)(w:World)(es:Array Event):pn w ((Instr.panicnil >>= f).runT P w es).1:=by
 have e2:(Instr.panicnil >>= f).runT P w es=(Instr.panicnil.bind f).runT P w es:=rfl;rw[e2,Sem.runT_bind']
 rcases hr:Instr.panicnil.runT P w es with ⟨r,b9⟩
 unfold Instr.panicnil at hr;simp only[bind,Sem.bind,program,sys,Sem.runT,pure] at hr
 rcases hx:(w.sys .env).1<;>rw[hx] at hr<;>simp only[stuck,Sem.bind,Sem.runT,dC] at hr<;>obtain⟨rfl,rfl⟩:=hr<;>first
  |exact⟨trivial,λh=>EH h _⟩
  |exact Ll (λh=>EH h _) (hf _ _ _)
theorem Ln(v:Value)(t:Sem Value){D:Value->Prop}{Q:Value->Value->Prop}:RT P P' C D Q (Instr.panic v) t:=by
 unfold Instr.panic;split
 .exact oW _ _
 .refine .bad _ _ λw es hn=>Lm _ (λn w es=>?_) w es
  split
  .exact⟨trivial,id⟩
  .exact Lg w es
 .exact cu _ _
include h
theorem EI:∀(l:List FieldStep)(t:TypeId)(x:Option Value),RE P P' C (followBlind l t x) (followBlind l t x)
 |[],t,x=>bU _
 |s::r,t,x=>by
  unfold followBlind
  repeat' first|exact bU _|exact cu _ _|exact fB h.kin _|exact nY h.kin _ _ _|exact EI r _ _|refine bV ?_ λ_=>?_|split|dsimp only
theorem EJ:∀(n:Nat)(t:TypeId)(v:Value)(m:String),RE P P' C (nilAhead n t v m) (nilAhead n t v m)
 |0,_,_,_=>bU _
 |n+1,t,v,m=>by
  unfold nilAhead
  repeat' first|exact bU _|exact cu _ _|exact ng h.kin _|exact EI h _ _ _|exact fB h.kin _|exact EJ n _ _ _|refine bV ?_ λ_=>?_|split|dsimp only
omit h in
theorem Lo(l:Nat)(args:Array Value):RN P P' C bad (Instr.yield l args) (Instr.yield l args):=by
 unfold Instr.yield Instr.getLoop
 have key:∀r:Loop,C.code r.assign->C.code r.body->C.fn r.fn->RN P P' C bad (do
  if args.size≠r.params.size then stuck "yield: the wrong number of arguments"
  pure (Next.round l r.fn ((r.params.zip args).foldl (λtmps (t,a)=>tmps.setIfInBounds t a) r.tmps) r.assign r.body)) (do
  if args.size≠r.params.size then stuck "yield: the wrong number of arguments"
  pure (Next.round l r.fn ((r.params.zip args).foldl (λtmps (t,a)=>tmps.setIfInBounds t a) r.tmps) r.assign r.body)):=λr h1 h2 h3=>by
  dsimp only;split
  .exact bV (cu _ _) λ_=>.pure _ _ ⟨rfl,h1,h2,h3⟩
  .exact .pure _ _ ⟨rfl,h1,h2,h3⟩
 refine j6 (M:=λa b=>a=b/\C.code a.assign/\C.code a.body/\C.fn a.fn) ?_ (λa b a5=>ak);refine nZ l (λo ho=>?_) (λo ho=>?_)
 .cases o<;>first|exact cu _ _|exact .pure _ _ ⟨rfl,ho.1,ho.2.1,ho.2.2.1⟩
 .cases o<;>first|exact cu _ _|exact absurd trivial ho
theorem Lp(f:Fn)(cap args:Array Value):RN P P' C bad (invoke (.fn f cap) args) (invoke (.fn f cap) args):=by
 unfold invoke
 cases f with
 |func f=>exact zc h _ _
 |method m=>
  dsimp only;split
  .exact EG h _ _ _
  .exact cu _ _
 |methodOf t m=>
  dsimp only;split
  .exact bV (fB h.kin _) λd=>EG h _ _ _
  .exact cu _ _
 |via t p f b=>
  dsimp only;split
  .exact bV (Le h _ _ _ _) λr=>zc h _ _
  .exact cu _ _
 |yield l=>exact Lo _ _
theorem Lq{b:Builtin}{c:Call}{o:Oper}(hc:c.callee=.builtin b)(he:o.op=.call c)(hk:jy P o=true)(t:TypeId)(cs:Array Bool)(args:Array Value):RN P P' C bad (builtin b c.argTypes t cs args) (builtin b c.argTypes t cs args):=by
 unfold jy at hk;rw[he] at hk;simp only[hc] at hk;unfold builtin
 cases b<;>first|cases hk|skip
 .exact fI (K4 h.kin _ _ _)
 .exact fI (K6 h.kin _ _ _)
 .exact fI (K5 h.kin _ _ _)
 .revert hk
  rcases hx:c.argTypes[0]? with _|t0
  .simp
  .rcases hu:P.underlying t0 with _|td
   .simp_all
   .intro hk;simp only[hu] at hk;refine fI (K8 h.kin hx hu ?_ _ _)
    cases td<;>first|exact .inl ⟨_,rfl⟩|exact .inr rfl|(cases hk;done)
 .exact fI (Lb _ _ _)
 .exact fI (Lc _ _ _)
theorem vG{o:Oper}(ho:jy P o=true)(ρ:Operand->Value):RN P P' C bad (execOp ρ o) (execOp ρ o):=by
 have kt:P'.types=P.types:=by obtain⟨fs,rfl⟩:=h.kin.eq;rfl
 have hk:=ho;unfold jy at hk;unfold execOp
 split at hk<;>rename_i hx<;>(try rw[hx])<;>dsimp only
 .exact qu _
 .exact qu _
 .exact bV (vC _) λb=>qu _
 .exact fI (KC h.kin _ _)
 .exact fI (KD _ _)
 .exact fI (KE h.kin _ _)
 .exact fI (KF h.kin _ _ _)
 .exact fI (KG h.kin _ _)
 .exact zb (KH h.kin _ _ _)
 .rename_i x;split
  .exact gR h.kin _
  .exact gR h.kin _
  .exact gR h.kin _
  .split
   .exact gR h.kin _
   .refine jc ?_;rw[kt]
    refine bV (EJ h _ _ _ _) λb=>?_
    split
    .exact bV (dL _ _) λ_=>qu _
    .exact qu _
   .exact qu _
  .exact qu _
 .exact fI (Ke _ _)
 .exact fI (KO h.kin _ _)
 .exact fI (bU _)
 .exact fI (KP h.kin _ _)
 .exact fI (KQ h.kin _ _ _)
 .exact fI (KT h.kin _ _ _ _ _)
 .exact fI (KI h.kin _ _ _)
 .exact fI (KN h.kin _ _ _)
 .exact fI (KJ h.kin _ _ _)
 .exact fI (KL h.kin _ _ _)
 .exact fI (KM _ _)
 .exact RT.bind (M:=λ_ _=>False) (Ln _ _) λa b e=>e.elim
 .rename_i op t x y r
  have hp:op=.eql\/op=.neq->nB P t=true:=λe=>by
   rcases e with rfl|rfl<;>simpa using hk
  exact fI (bV (KA h.kin _ _ _ _ hp) λ_=>KB h.kin _ _ hp)
 .rename_i s d x;split at hk
  .rename_i h1 h2;exact fI (K1 h.kin h1 h2 _)
  .rename_i h1 h2;split at hk
   .rename_i h3;exact fI (K0 h.kin h1 h2 h3 _)
   .cases hk
  .cases hk
 .split at hk
  .rename_i h1;exact fI (KW h.kin h1 hk _ _ _)
  .cases hk
 .split at hk
  .rename_i h1;exact zb (KX h.kin h1 hk _ _ _)
  .cases hk
 .rename_i c;unfold resolve
  rcases hc:c.callee with f|⟨r,m⟩|b
  .unfold Deferred.ofValue;dsimp only;split
   .rename_i fn first cap hf
    change RT P P' C (dmN bad) _ (invoke (.fn fn cap) (first++c.args.map ρ)) (invoke (.fn fn cap) (first++c.args.map ρ))
    exact Lp h _ _ _
   .change RT P P' C (dmN bad) _ (runtimePanic .nilDeref) (runtimePanic .nilDeref)
    exact gR h.kin _
   .exact RT.bind (M:=λ_ _=>False) (cu _ _) λa b e=>e.elim
  .simp_all
  .refine RT.bind (M:=λd e=>d=e/\∃cs args,d = { target:=.builtin b c.argTypes o.type cs,args:=args }) (.pure _ _ ⟨rfl,_,_,rfl⟩) λd e bo=>?_
   obtain⟨rfl,cs,args,rfl⟩:=bo;exact Lq h hc hx ho _ cs args
 .rename_i c;unfold resolve
  rcases hc:c.callee with f|⟨r,m⟩|b<;>simp only[hc] at hk<;>first|cases hk|skip
  unfold Deferred.ofValue;dsimp only;split
  .exact RT.oB (Next.spawn _) _ (show dmN bad (Next.spawn _) from trivial)
  .exact RT.oB (Next.spawn _) _ (show dmN bad (Next.spawn _) from trivial)
  .exact RT.bind (M:=λ_ _=>False) (cu _ _) λa b e=>e.elim
 .cases hk
end
end Go.Fc
namespace Go.Fc
open Go Go.Conc
class Xf where
 xf:Nat->Prop
 bot:Nat->Prop
 ds:Nat->List Deferred->Prop
 rng:Bool
variable[Xf]
def codeOk(P:Program):Code->Bool
 |.skip | .ret | .exit _ | .label _ | .refuse _=>true
 |.seq a b | .cond _ a b=>codeOk P a&&codeOk P b
 |.rangeFunc _ _ a b=>Xf.rng&&(codeOk P a&&codeOk P b)
 |.block _ c | .loop c | .scope c=>codeOk P c
 |.region _ ops _=>ops.toList.all (jy P)
 |.goto _=>false
abbrev Cd(P:Program)(c:Code):Prop:=codeOk P c=true
def Cc(P P':Program):Cx:=⟨Cd P,λf=>(∃fn,P.funcs[f]?=some fn/\P'.funcs[f]?=some fn/\fn.norace=false)/\P.inits.idxOf? f=none,Xf.xf⟩
def pt(P:Program):Item->Prop
 |.code c | .inLoop c | .inScope c=>Cd P c
 |.inRegion ops _=>ops.toList.all (jy P)=true
 |.inBlock _ | .inRangeFunc _ | .endRangeFunc _ | .beginRound=>True
 |.call .. | .extern ..=>False
structure dh(P P':Program)(fr:Frame):Prop where
 todo:∀it∈fr.todo,pt P it
 kind:fr.kind≠.early
 calm:(fr.kind=.normal/\(∀d∈fr.defers,∃b,d = { target:=.collected b,args:=#[] })/\(Cc P P').fn fr.fn)\/(Xf.bot fr.fn/\fr.mode=.run/\fr.roundOf=none/\Xf.rng=false/\Xf.ds fr.fn fr.defers)
 mode:∀ch,fr.mode≠.panicking ch
 fn:∃fn a9,P.funcs[fr.fn]?=some fn/\P'.funcs[fr.fn]?=some a9/\fn.norace=false/\a9.norace=false
section
variable{P P':Program}{bad:Nat->Prop}{S:Sh}
theorem vH{p:Program}{fn:FuncId}{es:Array Event}:∀e∈seen p fn es,e∈es:=by
 unfold seen;obtain⟨l⟩:=es;simp only[List.foldl_toArray']
 have key:∀(l:List Event)(q:Bool)(kept:Array Event),∀e∈(l.foldl (init:=(q,kept)) λ(q,kept) e=>
  match e.loc with
  |.mark (.extern f)=>(((p.funcs[f]?).any (·.norace)),kept)
  |_=>(q,if q && !e.sync then kept else kept.push e)).2,e∈kept\/e∈l:=by
  intro l
  induction l with
  |nil=>intro q kept e he;exact .inl he
  |cons x l ih=>
   intro q kept e he;simp only[Dy] at he;split at he
   .rcases ih _ _ e he with h|h
    .exact .inl h
    .exact .inr (eH _ h)
   .rcases ih _ _ e he with h|h
    .split at h
     .exact .inl h
     .rcases Array.mem_push.1 h with h|h
      .exact .inl h
      .exact .inr (h▸gF)
    .exact .inr (eH _ h)
 intro e he
 rcases key l _ _ e he with h|h
 .simp at h
 simp_all
theorem tO{p:Program}{fn:FuncId}{f:Func}(hf:p.funcs[fn]?=some f)(hq:f.norace=false){es:Array Event}(he:∀e∈es,∀g,e.loc≠.mark (.extern g)):seen p fn es=es:=by
 unfold seen;dsimp only;rw[hf];simp only[Option.any_some,hq];obtain⟨l⟩:=es;simp only[List.foldl_toArray']
 have key:∀(l:List Event)(kept:Array Event),(∀e∈l,∀g,e.loc≠.mark (.extern g)) ->
  (l.foldl (init:=(false,kept)) λ(q,kept) e=>match e.loc with
  |.mark (.extern f)=>(((p.funcs[f]?).any (·.norace)),kept)
  |_=>(q,if q && !e.sync then kept else kept.push e)).2=kept++l.toArray:=by
  intro l
  induction l with
  |nil=>simp
  |cons x l ih=>
   simp_all
 exact (key l #[] ak).trans ae
theorem vI{fn:FuncId}{f f':Func}(h1:P.funcs[fn]?=some f)(h2:P'.funcs[fn]?=some f')(h3:f.norace=false)(h4:f'.norace=false){es:Array Event}(he:∀e∈es,∀g,e.loc≠.mark (.extern g)):seen P' fn es=seen P fn es:=by
 rw[tO h1 h3 he,tO h2 h4 he]
def Fok(P P':Program)(fr fr':Frame):Prop:=(fr'=fr/\dh P P' fr)\/∃f args,Xf.xf f/\fr=Frame.enter P f args .normal/\fr'=Frame.enter P' f args .normal
def CF(P P':Program)(fr0:Frame)(cs:List Frame)(g':Goroutine)(fr':Frame):Prop:=
 ((g'.callers=cs/\g'.frame.fn=fr0.fn\/∃f1,dh P P' f1/\f1.fn=fr0.fn/\((Cc P P').fn g'.frame.fn\/Xf.xf g'.frame.fn)/\g'.callers=f1::cs)/\Fok P P' g'.frame fr')\/(fr'=g'.frame/\∃(c:Frame)(v:Value),cs=c::g'.callers/\g'.frame=c.finish v/\(Cc P P').fn fr0.fn) \/
 (fr'=g'.frame/\g'.callers=cs/\g'.frame.fn=fr0.fn/\Xf.bot g'.frame.fn/\g'.frame.mode=.returning/\Xf.ds g'.frame.fn g'.frame.defers)
def mA(P P':Program)(bad:Nat->Prop)(S:Sh)(fr0:Frame)(cs:List Frame)(A B:World)(g':Goroutine)(A':World)(es:Array Event)(t:GStep):Prop:=
 (∃f args cs,bad f/\g'.frame=Frame.enter P f args .normal/\g'.callers=cs)\/((∃ch,g'.frame.mode=.panicking ch)\/g'.dying≠none) \/
 ((∀e∈es,S.fS e)->A.drawn<=A'.drawn/\A'.tape=A.tape/\A.heap.size<=A'.heap.size/\g'.status=.running/\g'.dying=none/\g'.offers=none /\
   ((∀j,A.drawn+j<A'.drawn->B.tape (B.drawn+j)=A.tape (A.drawn+j)) ->
     ∃fr2 B',CF P P' fr0 cs g' fr2/\t=.go { g' with frame:=fr2 } B' es/\Lk (Cc P P') S A' B'/\B'.tape=B.tape/\B'.drawn=B.drawn+(A'.drawn-A.drawn)/\Kept es B B'/\∀e∈es,EvT S B' e))
omit [Xf] in
theorem tQ(fr:Frame)(v:Value):(fr.finish v).fn=fr.fn:=by unfold Frame.finish;split<;>rfl
theorem dh.finish{fr:Frame}(h:dh P P' fr)(v:Value):dh P P' (fr.finish v):=by
 have ht:=h.todo;unfold Frame.finish;split
 .rename_i ops i rest k e;rw[e] at ht
  exact⟨λit hy=>by
   rcases dM.1 hy with rfl|hy
   .exact ht (.inRegion ops (i::rest)) gF
   simp_all,h.kind,h.calm,h.mode,h.fn⟩
 .rename_i l k e;rw[e] at ht
  exact⟨λit hy=>by
   rcases dM.1 hy with rfl|hy
   .trivial
   simp_all,h.kind,h.calm,h.mode,h.fn⟩
 .rename_i k e;rw[e] at ht;exact⟨λit hy=>ht it (eH _ hy),h.kind,h.calm,h.mode,h.fn⟩
 .rename_i k e;rw[e] at ht;exact (ht _ gF).elim
 .rename_i k e;rw[e] at ht;exact (ht _ gF).elim
 .exact h
theorem vJ{S:Sh}{n:World}{e:Event}(h:EvT S n e)(g:FuncId):e.loc≠.mark (.extern g):=by
 rcases h with ⟨a,wr,rfl,_,_⟩|⟨r,wr,sy,rfl,_,_⟩|rfl<;>simp
theorem dh.enter{f:FuncId}{fn:Func}{c:Code}(h1:P.funcs[f]?=some fn)(h2:P'.funcs[f]?=some fn)(hb:fn.body=some c)(hc:Cd P c)(hi:(Cc P P').fn f)(args:Array Value):dh P P' (Frame.enter P f args .normal):=by
 refine⟨λit hy=>?_,by simp[Frame.enter],.inl ⟨rfl,λd hd=>aE,hi⟩,λch=>by simp[Frame.enter],hi.1.imp λfn h=>⟨fn,h.1,h.2.1,h.2.2,h.2.2⟩⟩;simp only[Frame.enter,h1,lj,hb,oR,oS] at hy;subst hy;exact hc
theorem Lr{f:FuncId}{fn:Func}(h1:P.funcs[f]?=some fn)(h2:P'.funcs[f]?=some fn)(args:Array Value)(k:CallKind):Frame.enter P' f args k=Frame.enter P f args k:=by
 unfold Frame.enter;rw[h1,h2]
theorem zh(fr:Frame)(vs:List PanicEntry):∃ch,(fr.raise vs).mode=.panicking ch:=by
 unfold Frame.raise
 split<;>exact⟨_,rfl⟩
theorem vK(hk:iv P P' (Cc P P') bad){fr:Frame}{cs:List Frame}{A B:World}(hf:dh P P' fr){s:Sem Next}(hs:RN P P' (Cc P P') bad s s)(hl:Lk (Cc P P') S A B){g':Goroutine}{A':World}{es:Array Event}(hg:stepG.apply P true fr cs none s A=.go g' A' es):mA P P' bad S fr cs A B g' A' es (stepG.apply P' true fr cs none s B):=by
 have h8:(fr.kind == .early)=false:=by have:=hf.kind;cases hk:fr.kind<;>first|rfl|trivial
 obtain⟨fn,a9,a6,aq,a',ay⟩:=hf.fn;unfold stepG.apply at hg;simp only[cz,h8,dz,cT] at hg
 rcases hr:s.runT P A #[] with ⟨r,es0⟩
 rw[hr] at hg
 cases r with
 |halt x A1=>
  obtain⟨hc,bv⟩:=yQ hs A B #[] x A1 es0 hl hr
  cases x<;>first|exact hc.elim|skip
  .simp only[GStep.after,GStep.go.injEq] at hg;obtain⟨rfl,_,_⟩:=hg;exact .inr (.inl (.inl (zh fr _)))
  .rename_i u
   cases u<;>first|exact hc.elim|(simp[GStep.after] at hg;done)
  trivial
 |ok n A1=>
  have h':∀d w rs sv k,fr.todo≠.call d w rs sv::k:=λd w rs sv k e=>by
   have:=hf.todo (.call d w rs sv) (by rw[e];simp);exact this
  by_cases hd:dmN bad n
  .cases n<;>first|exact hd.elim|skip
   rotate_left
   .dsimp only at hg
    repeat' split at hg
    all_goals first|(simp[GStep.after] at hg;done)|skip
    all_goals
     simp only[GStep.after,endThrow,dieOf,GStep.go.injEq] at hg;obtain⟨rfl,_,_⟩:=hg;exact .inr (.inl (.inr ae))
   rename_i f args;refine .inl ⟨f,args,fr::cs,hd,?_⟩
   rcases ht:fr.todo with _|⟨it,k⟩
   .simp only[ht,GStep.after,GStep.go.injEq] at hg
    grind
   .cases it<;>first|exact absurd ht (h' _ _ _ _ _)|(simp only[ht,GStep.after,GStep.go.injEq] at hg;obtain⟨rfl,_,_⟩:=hg;exact⟨rfl,rfl⟩)
  .obtain⟨bw,bz⟩:=uM hs A B #[] n A1 es0 hl hr
   have hq:okN (Cc P P') P n:=let ⟨_,h⟩:=bw.resolve_left hd;h.2
   have aa:seen P fr.fn es0=es0:=tO a6 a' λe he=>(bz e he).resolve_left ae
   have run:(∀e∈seen P fr.fn es0++#[],S.fS e)->Alike P' (Cc P P') S s (λa b=>a=b/\okN (Cc P P') P a) A B #[] #[] n A1 es0:=λhv=>(rG hs A B #[] #[] n A1 es0 hl hr λe he=>hv e (by rw[aa];grind)).resolve_left hd
   have fin:∀(g:Goroutine),g.status=.running->g.dying=none->g.offers=none->dh P P' g.frame->(g.callers=cs/\g.frame.fn=fr.fn\/∃f1,dh P P' f1/\f1.fn=fr.fn/\((Cc P P').fn g.frame.fn\/Xf.xf g.frame.fn)/\g.callers=f1::cs) ->
    g=g'/\A1=A'/\seen P fr.fn es0++#[]=es ->
    (∀B',s.runT P' B #[]=(.ok n B',es0)->stepG.apply P' true fr cs none s B=.go g B' (seen P' fr.fn es0)) ->
    mA P P' bad S fr cs A B g' A' es (stepG.apply P' true fr cs none s B):=by
    intro g h1 h2 h3 h4 h5 he hgo;obtain⟨rfl,rfl,rfl⟩:=he;refine .inr (.inr λhv=>?_);have ha:=run hv;refine⟨ha.drawn,ha.tape,ha.size,h1,h2,h3,λag=>?_⟩;obtain⟨b,B',new,y1,y2,⟨rfl,_⟩,y3,y4,y5,y7,y6⟩:=ha.alike ag
    have en:new=es0:=by rw[y2];simp
    subst en;refine⟨g.frame,B',.inl ⟨h5,.inl ⟨rfl,h4⟩⟩,?_,y3,y4,y5,by rw[aa];grind,λe he=>y6 e (vH e (by simpa using he))⟩;rw[hgo B' (by rw[y1];simp),vI a6 aq a' ay λe he=>vJ (y6 e he)];simp
   cases n<;>first|exact hq.elim|skip
   .rename_i v;simp only[GStep.after,GStep.go.injEq] at hg
    refine fin _ ?_ ?_ ?_ ?_ ?_ hg λB' hb=>?_
    all_goals first|rfl|exact hf.finish v|exact .inl ⟨rfl,tQ fr _⟩|skip
    unfold stepG.apply;simp[-Sem.runT_eq,hb,h8,GStep.after]
   .simp only[GStep.after,GStep.go.injEq] at hg
    refine fin _ ?_ ?_ ?_ ?_ ?_ hg λB' hb=>?_
    all_goals first|rfl|exact hf.finish _|exact .inl ⟨rfl,tQ fr _⟩|skip
    unfold stepG.apply;simp[-Sem.runT_eq,hb,h8,GStep.after]
   .rename_i f args
    have b8:GStep.go { frame:=Frame.enter P f args .normal,callers:=fr::cs,status:=.running,dying:=none } A1 (seen P fr.fn es0++#[])=.go g' A' es:=by
     rw[<-hg]
     rcases ht:fr.todo with _|⟨it,k⟩
     .rfl
     .cases it<;>first|exact absurd ht (h' _ _ _ _ _)|rfl
    by_cases hx:Xf.xf f
    .rw[GStep.go.injEq] at b8;obtain⟨rfl,rfl,rfl⟩:=b8;refine .inr (.inr λhv=>?_);have ha:=run hv;refine⟨ha.drawn,ha.tape,ha.size,rfl,rfl,rfl,λag=>?_⟩;obtain⟨b,B',new,y1,y2,⟨rfl,_⟩,y3,y4,y5,y7,y6⟩:=ha.alike ag
     have en:new=es0:=by rw[y2];simp
     subst en;refine⟨Frame.enter P' f args .normal,B',.inl ⟨.inr ⟨fr,hf,rfl,.inr hx,rfl⟩,.inr ⟨f,args,hx,rfl,rfl⟩⟩,?_,y3,y4,y5,by rw[aa];simpa using y7,λe he=>y6 e (vH e (by simpa using he))⟩;unfold stepG.apply;rw[show s.runT P' B #[]=(.ok (.enter f args) B',new) from by rw[y1];simp];simp only[cz,h8,dz,cT,GStep.after];rw[vI a6 aq a' ay λe he=>vJ (y6 e he)]
     rcases ht:fr.todo with _|⟨it,k⟩
     .rfl
     .cases it<;>first|exact absurd ht (h' _ _ _ _ _)|rfl
    obtain⟨fn2,c2,q1,q2,q3,q5⟩:=hq.resolve_right hx
    have q4:P'.funcs[f]?=some fn2:=by
     rcases hk.funcs f with ⟨e1,_⟩|⟨c6,_⟩|⟨hb,_⟩|⟨fn3,c3,e1,e2,_⟩
     .rw[q1] at e1;cases e1
     .exact absurd c6 hx
     .exact absurd hb hd
     .rw[q1] at e1;obtain rfl:=fL e1;exact e2
    rw[GStep.go.injEq] at b8
    refine fin _ ?_ ?_ ?_ ?_ ?_ b8 λB' hb=>?_
    all_goals first|rfl|exact dh.enter q1 q4 q2 q3 q5 args|exact .inr ⟨fr,hf,rfl,.inl q5,rfl⟩|skip
    unfold stepG.apply;simp only[cz,hb,h8,dz,cT,GStep.after];rw[Lr q1 q4];simp_all
   .rename_i l f tmps a b;obtain⟨q1,q2,q3⟩:=hq;simp only[GStep.after,GStep.go.injEq] at hg
    refine fin _ ?_ ?_ ?_ ?_ ?_ hg λB' hb=>?_
    all_goals first|rfl|exact .inr ⟨fr,hf,rfl,.inl q3,rfl⟩|skip
    .refine⟨λit hy=>?_,by simp[Frame.round],.inl ⟨rfl,λd hd=>aE,q3⟩,λch=>by simp[Frame.round],q3.1.imp λfn h=>⟨fn,h.1,h.2.1,h.2.2,h.2.2⟩⟩;simp only[Frame.round,dM,m9,or_false] at hy
     rcases hy with rfl|rfl|rfl
     .exact q1
     .trivial
     .exact q2
    .unfold stepG.apply;simp[-Sem.runT_eq,hb,h8,GStep.after]
end
end Go.Fc
namespace Go.Fc
open Go Go.Conc
variable[Xf]
section
variable{P P':Program}{bad:Nat->Prop}{S:Sh}
theorem mA.stay{A B:World}{fr0 fr:Frame}{cs:List Frame}(hf:dh P P' fr)(ao:fr.fn=fr0.fn)(hl:Lk (Cc P P') S A B):mA P P' bad S fr0 cs A B { frame:=fr,callers:=cs,status:=.running,dying:=none } A #[] (.go { frame:=fr,callers:=cs,status:=.running,dying:=none } B #[]):=
 .inr (.inr λ_=>⟨bS _,rfl,bS _,rfl,rfl,rfl,λ_=>⟨fr,B,.inl ⟨.inl ⟨rfl,ao⟩,.inl ⟨rfl,hf⟩⟩,rfl,hl,rfl,ae,.refl _ _,ae⟩⟩)
theorem dh.Cg{fr:Frame}(h:dh P P' fr){todo:List Item}(ht:∀it∈todo,pt P it):dh P P' { fr with todo }:=⟨ht,h.kind,h.calm,h.mode,h.fn⟩
theorem zi(id:Nat):∀(k k':List Item),exitTo id k=some k'->∀it∈k',it∈k
 |[],_,h=>by trivial
 |x::k,k',h=>by
  intro it hy
  cases x<;>simp only[exitTo] at h<;>first
   |exact eH _ (zi id k k' h it hy)
   |(split at h
     .simp_all
     .exact eH _ (zi id k k' h it hy))
theorem Ls(h:Kin P P')(d:Departure):P'.follows d=P.follows d:=by obtain⟨fs,rfl⟩:=h.eq;rfl
theorem Lt(h:Kin P P'):P'.inits=P.inits:=by obtain⟨fs,rfl⟩:=h.eq;rfl
theorem EK{main:Bool}{fr:Frame}{cs:List Frame}{A1:World}{v:Value}(hf:(Cc P P').fn fr.fn)(hn:fr.kind=.normal)(h9:main=true\/cs≠[]){g':Goroutine}{A':World}{b9:Array Event}(hg:doReturn P main fr cs none v A1=.go g' A' b9):∃caller rest,cs=caller::rest/\g' = { frame:=caller.finish v,callers:=rest,status:=.running,dying:=none }/\A'=A1/\b9=#[]/\∀(Q:Program)(w:World),doReturn Q main fr cs none v w=.go g' w #[]:=by
 unfold doReturn at hg
 cases cs with
 |nil=>
  exfalso;obtain rfl:=h9.resolve_right ae;simp only[hn,ik,dz,cT,hf.2] at hg;cases hg
 |cons c r=>
  simp only[hn,GStep.go.injEq] at hg;obtain⟨rfl,rfl,rfl⟩:=hg;exact⟨c,r,rfl,rfl,rfl,rfl,λQ w=>by unfold doReturn;grind⟩
theorem vL{α:Type}{fr:Frame}{cs:List Frame}{A B:World}(hf:dh P P' fr)(hl:Lk (Cc P P') S A B){s:Sem α}(hs:RE P P' (Cc P P') s s){v:α}{A1:World}{es0:Array Event}(hr:s.runT P A #[]=(.ok v A1,es0)){g:Goroutine}(h1:g.status=.running)(h2:g.dying=none)(h3:g.offers=none)(h4:CF P P' fr cs g g.frame){t:GStep}(ht:∀B',s.runT P' B #[]=(.ok v B',es0)->t=.go g B' (seen P' fr.fn es0)):mA P P' bad S fr cs A B g A1 (seen P fr.fn es0) t:=by
 obtain⟨fn,a9,a6,aq,a',ay⟩:=hf.fn
 have aa:seen P fr.fn es0=es0:=tO a6 a' λe he=>((uM hs A B #[] v A1 es0 hl hr).2 e he).resolve_left ae
 refine .inr (.inr λhv=>?_);have ha:=(rG hs A B #[] #[] v A1 es0 hl hr λe he=>hv e (by rw[aa];exact he)).resolve_left id;refine⟨ha.drawn,ha.tape,ha.size,h1,h2,h3,λag=>?_⟩;obtain⟨b,B',new,y1,y2,rfl,y3,y4,y5,y7,y6⟩:=ha.alike ag
 have en:new=es0:=by rw[y2];simp
 subst en;refine⟨g.frame,B',h4,?_,y3,y4,y5,by rw[aa];exact y7,λe he=>y6 e (vH e he)⟩;rw[ht B' (by rw[y1];simp),vI a6 aq a' ay λe he=>vJ (y6 e he)]
theorem Lu(l:Nat)(j:Option Code)(hj:∀c,j=some c->Cd P c):RE P P' (Cc P P') (Instr.endRound l j) (Instr.endRound l j):=by
 unfold Instr.endRound Instr.getLoop;refine j6 (M:=λa b=>a=b/\okO (Cc P P') (.loop a)) ?_ (λa b a5=>?_)
 .refine nZ l (λo ho=>?_) (λo ho=>?_)
  .cases o<;>first|exact cu _ _|exact .pure _ _ ⟨rfl,ho⟩
  .cases o<;>first|exact cu _ _|exact absurd trivial ho
 .obtain⟨rfl,hl⟩:=a5
  exact bV (oX l ⟨hl.1,hl.2.1,hl.2.2.1,λc e=>hj c e⟩) λ_=>bU _
theorem vM(l:Nat):RT P P' (Cc P P') (λ_=>False) (λa b=>a=b/\okO (Cc P P') (.loop a)) (Instr.getLoop l) (Instr.getLoop l):=by
 unfold Instr.getLoop;refine nZ l (λo ho=>?_) (λo ho=>?_)
 .cases o<;>first|exact cu _ _|exact .pure _ _ ⟨rfl,ho⟩
 .cases o<;>first|exact cu _ _|exact absurd trivial ho
theorem EL(hk:iv P P' (Cc P P') bad)(o:Option Nat):RN P P' (Cc P P') bad (do o.elim (stuck "beginRound: no round") Instr.beginRound;pure .skip) (do o.elim (stuck "beginRound: no round") Instr.beginRound;pure .skip):=by
 refine zb ?_
 cases o with
 |none=>exact cu _ _
 |some l=>
  simp only[Option.elim];unfold Instr.beginRound
  refine j6 (vM l) λa b a5=>?_
  obtain⟨rfl,hl⟩:=a5
  refine bV (oX l hl) λ_=>?_
  split
  .exact bU _
  all_goals exact gR hk.kin _
theorem zj(hk:iv P P' (Cc P P') bad)(l:Nat):RT P P' (Cc P P') (λ_=>False) (λa b=>a=b/\∀c,a=some c->Cd P c) (Instr.endLoop l) (Instr.endLoop l):=by
 unfold Instr.endLoop
 refine j6 (vM l) λa b a5=>?_
 obtain⟨rfl,hl⟩:=a5
 have tail:RT P P' (Cc P P') (λ_=>False) (λa b=>a=b/\∀c,a=some c->Cd P c) (do setObj l (.loop { a with state:=.exhausted });pure a.pending) (do setObj l (.loop { a with state:=.exhausted });pure a.pending):=
  bV (oX l hl) λ_=>.pure _ _ ⟨rfl,hl.2.2.2⟩
 dsimp only;split
 .exact j6 (M:=λ_ _=>False) (gR hk.kin _) λa b e=>e.elim
 .exact tail
theorem EM{fn:FuncId}(ao:(Cc P P').fn fn)(T:Array Value)(ps:Array Tmp){a b:Code}(ha:Cd P a)(hb:Cd P b)(o:Option Nat):RT P P' (Cc P P') (λ_=>False) (λx y=>x=y/\∀d∈x.2,∃r,d = { target:=.collected r,args:=#[] }) (Instr.enterLoop fn T ps a b o) (Instr.enterLoop fn T ps a b o):=by
 have tail:∀(ds:Nat)(m:List Deferred),(∀d∈m,∃r,d = { target:=.collected r,args:=#[] })->RT P P' (Cc P P') (λ_=>False) (λx y=>x=y/\∀d∈x.2,∃r,d = { target:=.collected r,args:=#[] })
  (do pure (<-newObj (.loop { state:=.ready,pending:=none,fn,tmps:=T,params:=ps,assign:=a,body:=b,defers:=ds }),m)) (do pure (<-newObj (.loop { state:=.ready,pending:=none,fn,tmps:=T,params:=ps,assign:=a,body:=b,defers:=ds }),m)):=λds m hm=>
  bV (rH (o:=.loop { state:=.ready,pending:=none,fn,tmps:=T,params:=ps,assign:=a,body:=b,defers:=ds }) ⟨ha,hb,ao,λc e=>by cases e⟩) λr=>.pure _ _ ⟨rfl,hm⟩
 unfold Instr.enterLoop
 cases o with
 |some l=>
  dsimp only
  first
   |exact j6 (M:=λx y=>x=y/\∀d∈x.2,∃r,d = { target:=.collected r,args:=#[] }) (j6 (vM l) λx y b4=>aE) (λx y b4=>by obtain⟨rfl,hm⟩:=b4;exact tail _ _ hm)
   |exact j6 (vM l) λx y b4=>by
     simp_all
 |none=>
  dsimp only
  first
   |exact j6 (M:=λx y=>x=y/\∀d∈x.2,∃r,d = { target:=.collected r,args:=#[] }) (bV (rH (o:=.deferred (some [])) trivial) λr=>.pure _ _ ⟨rfl,ae⟩) (λx y b4=>by obtain⟨rfl,hm⟩:=b4;exact tail _ _ hm)
   |exact bV (rH (o:=.deferred (some [])) trivial) λr=>j6 (M:=λx y=>x=y/\∀d∈x.2,∃r,d = { target:=.collected r,args:=#[] }) (.pure _ _ ⟨rfl,ae⟩) (λx y b4=>al)
theorem vN{α:Type}{Q:α->α->Prop}{A B:World}(hl:Lk (Cc P P') S A B){s:Sem α}(hs:RT P P' (Cc P P') (λ_=>False) Q s s){v:α}{A1:World}{es0:Array Event}(hr:s.runT P A #[]=(.ok v A1,es0)):∃b,Q v b:=by
 exact (uM hs A B #[] v A1 es0 hl hr).1.resolve_left id
theorem Lv{main:Bool}(hk:iv P P' (Cc P P') bad){fr:Frame}{cs:List Frame}{A B:World}(hf:dh P P' fr)(c4:fr.mode=.run)(h9:main=true\/cs≠[])(hl:Lk (Cc P P') S A B){g':Goroutine}{A':World}{es:Array Event}(hg:stepG.exec P main true fr cs none A=.go g' A' es):mA P P' bad S fr cs A B g' A' es (stepG.exec P' main true fr cs none B):=by
 have bd:=hf.todo
 have bc:(fr.kind=.normal/\(∀d∈fr.defers,∃b,d = { target:=.collected b,args:=#[] })/\(Cc P P').fn fr.fn)->dh P P' { fr with mode:=.returning }:=λh=>⟨hf.todo,hf.kind,.inl h,λch=>ae,hf.fn⟩
 have leave_:∀(h0:fr.roundOf=none),(∀(Q:Program)(w:World),stepG.exec Q main true fr cs none w=.go { frame:={ fr with mode:=.returning },callers:=cs,status:=.running,dying:=none } w #[]) ->
  mA P P' bad S fr cs A B g' A' es (stepG.exec P' main true fr cs none B):=λh0 e2=>by
  rw[e2,GStep.go.injEq] at hg;obtain⟨rfl,rfl,rfl⟩:=hg;rw[e2]
  rcases hf.calm with h|⟨h,_,_,_,bp⟩
  .exact .stay (bc h) rfl hl
  .exact .inr (.inr λ_=>⟨bS _,rfl,bS _,rfl,rfl,rfl,λ_=>⟨_,B,.inr (.inr ⟨rfl,rfl,rfl,h,rfl,bp⟩),rfl,hl,rfl,ae,.refl _ _,ae⟩⟩)
 have leaveR:∀(l:Nat)(j:Option Code),fr.roundOf=some l->(∀c,j=some c->Cd P c)->(∀(Q:Program)(w:World),stepG.exec Q main true fr cs none w=GStep.after (seen Q fr.fn ((Instr.endRound l j).runT Q w #[]).2) (match ((Instr.endRound l j).runT Q w #[]).1 with
  |.ok v w=>doReturn Q main fr cs none v w
  |.halt _ w=>.ended (.stuck "range over a function: no such loop" (fr.pos Q)) w))->mA P P' bad S fr cs A B g' A' es (stepG.exec P' main true fr cs none B):=λl j bi hj e2=>by
  have hh:=hf.calm.resolve_right (λh=>by rw[h.2.2.1] at bi;cases bi);have hn:fr.kind=.normal:=hh.1;rw[e2] at hg
  rcases hr:(Instr.endRound l j).runT P A #[] with ⟨r,es0⟩
  rw[hr] at hg
  cases r with
  |halt x w=>trivial
  |ok v A1=>
   dsimp only at hg
   cases hd:doReturn P main fr cs none v A1 with
   |go g1 w1 es1=>
    rw[hd] at hg;simp only[GStep.after] at hg;obtain⟨caller,rest,rfl,rfl,rfl,rfl,hQ⟩:=EK hh.2.2 hn h9 hd;rw[GStep.go.injEq] at hg;obtain⟨rfl,rfl,rfl⟩:=hg;rw[m7]
    refine vL hf hl (Lu l j hj) hr rfl rfl rfl (.inr (.inl ⟨rfl,caller,v,rfl,rfl,hh.2.2⟩)) λB' hb=>?_
    rw[e2,hb];dsimp only;rw[hQ];rfl
   |_=>rw[hd] at hg;simp only[GStep.after] at hg;cases hg
 rcases ht:fr.todo with _|⟨it,k⟩
 .rcases h0:fr.roundOf with _|l
  .exact leave_ h0 λQ w=>by simp only[stepG.exec,ht,h0];rfl
  .exact leaveR l none h0 (λc e=>by cases e) λQ w=>by simp only[stepG.exec,ht,h0];rfl
 .rw[ht] at bd;have ax:=bd it gF
  have a4:∀x∈k,pt P x:=λx hx=>bd x (eH _ hx)
  have cons_:∀{a:Item}{l:List Item},pt P a->(∀x∈l,pt P x)->∀x∈a::l,pt P x:=λha hl x hx=>(dM.1 hx).elim (λe=>e▸ha) (hl x)
  have move:∀(todo:List Item),(∀x∈todo,pt P x)->stepG.exec P main true fr cs none A=.go { frame:={ fr with todo },callers:=cs,status:=.running,dying:=none } A #[] ->
   stepG.exec P' main true fr cs none B=.go { frame:={ fr with todo },callers:=cs,status:=.running,dying:=none } B #[]->mA P P' bad S fr cs A B g' A' es (stepG.exec P' main true fr cs none B):=λtodo h1 h2 h3=>by
   rw[h2,GStep.go.injEq] at hg;obtain⟨rfl,rfl,rfl⟩:=hg;rw[h3];exact .stay (hf.Cg h1) rfl hl
  cases it with
  |inBlock id=>exact move k a4 az az
  |inScope c=>exact move k a4 az az
  |inLoop c=>exact move _ (cons_ (a:=.code c) ax (cons_ (a:=.inLoop c) ax a4)) az az
  |inRangeFunc l=>simp only[stepG.exec,ht] at hg;cases hg
  |endRangeFunc l=>
   have e2:∀(Q:Program)(w:World),stepG.exec Q main true fr cs none w=GStep.after (seen Q fr.fn ((Instr.endLoop l).runT Q w #[]).2) (match ((Instr.endLoop l).runT Q w #[]).1 with
    |.ok jump w=>.go { frame:={ fr with todo:=(jump.map Item.code).toList++k },callers:=cs,status:=.running,dying:=none } w
    |.halt (.panic v) w=>.go { frame:=fr.raise [{ v,recovered:=false }],callers:=cs,status:=.running,dying:=none } w
    |.halt _ w=>.ended (.stuck "range over a function: no such loop" (fr.pos Q)) w):=λQ w=>by simp only[stepG.exec,ht];rfl
   rw[e2] at hg
   rcases hr:(Instr.endLoop l).runT P A #[] with ⟨r,es0⟩
   rw[hr] at hg
   cases r with
   |halt x w=>
    cases x<;>simp only[GStep.after] at hg<;>first|(cases hg;done)|skip
    rw[GStep.go.injEq] at hg;obtain⟨rfl,_,_⟩:=hg;exact .inr (.inl (.inl (zh fr _)))
   |ok jump A1=>
    simp only[GStep.after] at hg;rw[GStep.go.injEq] at hg;obtain⟨rfl,rfl,rfl⟩:=hg;rw[m7];obtain⟨_,rfl,hj⟩:=vN hl (zj hk l) hr
    refine vL hf hl ((zj hk l).mono (λ_ h=>h) λ_ _ h=>h.1) hr rfl rfl rfl (.inl ⟨.inl ⟨rfl,rfl⟩,.inl ⟨rfl,hf.Cg λx hx=>?_⟩⟩) λB' hb=>?_
    .rcases iV.1 hx with hx|hx
     .cases jump with
      |none=>simp at hx
      |some c=>
       obtain rfl:x=.code c:=by simpa using hx
       exact hj c rfl
     simp_all
    .rw[e2,hb];rfl
  |beginRound=>
   have e2:∀(Q:Program)(w:World),stepG.exec Q main true fr cs none w=stepG.apply Q true fr cs none (do fr.roundOf.elim (stuck "beginRound: no round") Instr.beginRound;pure .skip) w:=λQ w=>by simp only[stepG.exec,ht]
   rw[e2] at hg ⊢;exact vK hk hf (EL hk _) hl hg
  |call d w r s=>exact ax.elim
  |extern r a=>exact ax.elim
  |inRegion ops todo=>
   cases todo with
   |nil=>exact move k a4 az az
   |cons i rest=>
    have bg:∀o,ops[i]?=some o->jy P o=true:=λo ho=>by
     have hm:o∈ops.toList:=by
      rw[<-iW] at ho
      grind
     exact gp.1 ax o hm
    by_cases hw:((ops[i]?).map (Region.wanted · (yielded ops fr.tmps))).getD false=true
    .rcases ho:ops[i]? with _|o
     .rw[ho] at hw;cases hw
     have b6:fr.oper?=some o:=by simp[Frame.oper?,ht,ho]
     have ee:∀(Q:Program)(w:World),stepG.exec Q main true fr cs none w=(match fr.roundOf,o.op with
      |some l,.defer c=>stepG.apply Q true fr cs none (do Instr.deferInRound l (<-resolve fr.eval c o.type);pure .skip) w
      |_,_=>stepG.apply Q true fr cs none (execOp fr.eval o) w):=λQ w=>by
      simp only[stepG.exec,ht,hw,cz,stepG.oper,b6];rfl
     have bv:∀c,o.op≠.defer c:=λc e=>by have:=bg o ho;unfold jy at this;rw[e] at this;cases this
     have e2:∀(Q:Program)(w:World),stepG.exec Q main true fr cs none w=stepG.apply Q true fr cs none (execOp fr.eval o) w:=λQ w=>by
      rw[ee];simp_all
     rw[e2] at hg ⊢;exact vK hk hf (vG hk (bg o ho) fr.eval) hl hg
    .have e2:∀(Q:Program)(w:World),stepG.exec Q main true fr cs none w=.go { frame:=fr.finish undef,callers:=cs,status:=.running,dying:=none } w #[]:=λQ w=>by
      simp only[stepG.exec,ht,hw];rfl
     rw[e2,GStep.go.injEq] at hg;obtain⟨rfl,rfl,rfl⟩:=hg;rw[e2];exact .stay (hf.finish _) (tQ fr _) hl
  |code c=>
   have hc:Cd P c:=ax
   cases c with
   |skip=>exact move k a4 az az
   |label l=>exact move k a4 az az
   |seq a b=>
    have a5:codeOk P a=true/\codeOk P b=true:=by simpa[Cd,codeOk] using hc
    exact move _ (cons_ (a:=.code a) a5.1 (cons_ (a:=.code b) a5.2 a4)) az az
   |block id c=>exact move _ (cons_ (a:=.code c) hc (cons_ (a:=.inBlock id) trivial a4)) az az
   |loop c=>exact move _ (cons_ (a:=.code c) hc (cons_ (a:=.inLoop c) hc a4)) az az
   |scope c=>exact move _ (cons_ (a:=.code c) hc (cons_ (a:=.inScope c) hc a4)) az az
   |goto l=>cases hc
   |refuse w=>simp only[stepG.exec,ht] at hg;cases hg
   |cond c a b=>
    have a5:codeOk P a=true/\codeOk P b=true:=by simpa[Cd,codeOk] using hc
    cases hv:fr.eval c with
    |bool t=>
     cases t
     .exact move _ (cons_ (a:=.code b) a5.2 a4) aL aL
     .exact move _ (cons_ (a:=.code a) a5.1 a4) aL aL
    |_=>simp only[stepG.exec,ht,hv] at hg;cases hg
   |exit id=>
    rcases he:exitTo id k with _|k'
    .rcases h0:fr.roundOf with _|l
     .exfalso;simp[stepG.exec,ht,he,h0] at hg
     .exact leaveR l (some (.exit id)) h0 (λc e=>by cases e;rfl) λQ w=>by simp only[stepG.exec,ht,h0,he,Option.elim];rfl
    .exact move k' (λx hx=>a4 x (zi id k k' he x hx)) (by simp only[stepG.exec,ht,he,Option.elim]) (by simp only[stepG.exec,ht,he,Option.elim])
   |ret=>
    rcases h0:fr.roundOf with _|l
    .exact leave_ h0 λQ w=>by simp only[stepG.exec,ht,h0];rfl
    .exact leaveR l (some .ret) h0 (λc e=>by cases e;rfl) λQ w=>by simp only[stepG.exec,ht,h0];rfl
   |rangeFunc f ps a b=>
    have aw:Xf.rng=true/\codeOk P a=true/\codeOk P b=true:=by simpa[Cd,codeOk] using hc
    have a5:=aw.2;have hh:=hf.calm.resolve_right (λh=>by rw[h.2.2.2.1] at aw;cases aw.1)
    let call:Call:={ callee:=.value f,args:=#[],argTypes:=#[] }
    have rnC:∀l:Nat,RN P P' (Cc P P') bad (do let d <-resolve fr.eval { callee:=.value f,args:=#[.const (.func (.yield l) #[] #[])],argTypes:=#[] } 0;invoke d.target d.args) (do let d <-resolve fr.eval { callee:=.value f,args:=#[.const (.func (.yield l) #[] #[])],argTypes:=#[] } 0;invoke d.target d.args):=λl=>
     vG hk (o:={ (default:Oper) with op:=.call { callee:=.value f,args:=#[.const (.func (.yield l) #[] #[])],argTypes:=#[] },type:=0 }) rfl fr.eval
    have e2:∀(Q:Program)(w:World),stepG.exec Q main true fr cs none w=GStep.after (seen Q fr.fn ((Instr.enterLoop fr.fn fr.tmps ps a b fr.roundOf).runT Q w #[]).2) (match ((Instr.enterLoop fr.fn fr.tmps ps a b fr.roundOf).runT Q w #[]).1 with
     |.ok (l,mark) w=>stepG.apply Q true { fr with todo:=.inRangeFunc l::k,defers:=mark++fr.defers } cs none (do let d <-resolve fr.eval { callee:=.value f,args:=#[.const (.func (.yield l) #[] #[])],argTypes:=#[] } 0;invoke d.target d.args) w
     |.halt _ w=>.ended (.stuck "range over a function: no such loop" (fr.pos Q)) w):=λQ w=>by simp only[stepG.exec,ht];rfl
    have bj:=EM (P:=P) (P':=P') hh.2.2 fr.tmps ps a5.1 a5.2 fr.roundOf;have hreE:=bj.mono (λ_ h=>h) (λ_ _ h=>h.1);rw[e2] at hg ⊢
    rcases hr:(Instr.enterLoop fr.fn fr.tmps ps a b fr.roundOf).runT P A #[] with ⟨r,es0⟩
    rw[hr] at hg
    cases r with
    |halt x w=>trivial
    |ok lm A1=>
     obtain⟨l,mark⟩:=lm;dsimp only at hg;obtain⟨_,rfl,b5⟩:=vN hl bj hr;have bf:dh P P' { fr with todo:=.inRangeFunc l::k,defers:=mark++fr.defers }:=⟨cons_ (a:=.inRangeFunc l) trivial a4,hf.kind,.inl ⟨hh.1,λd hd=>(iV.1 hd).elim (b5 d) (hh.2.1 d),hh.2.2⟩,hf.mode,hf.fn⟩
     cases b7:stepG.apply P true { fr with todo:=.inRangeFunc l::k,defers:=mark++fr.defers } cs none (do let d <-resolve fr.eval { callee:=.value f,args:=#[.const (.func (.yield l) #[] #[])],argTypes:=#[] } 0;invoke d.target d.args) A1 with
     |go g1 w1 es1=>
      rw[b7] at hg;simp only[GStep.after] at hg;rw[GStep.go.injEq] at hg;obtain⟨rfl,rfl,rfl⟩:=hg;obtain⟨fn,a9,a6,aq,a',ay⟩:=hf.fn;by_cases ba:∃f args cs,bad f/\g1.frame=Frame.enter P f args .normal/\g1.callers=cs
      .exact .inl ba
      by_cases bb:(∃ch,g1.frame.mode=.panicking ch)\/g1.dying≠none
      .exact .inr (.inl bb)
      have br:Lk (Cc P P') S A { B with tape:=A.tape,drawn:=A.drawn }:=⟨hl.size,hl.low,hl.same,hl.dead,hl.os,hl.output⟩
      have aa:seen P fr.fn es0=es0:=tO a6 a' λe he=>((uM hreE A B #[] _ A1 es0 hl hr).2 e he).resolve_left ae
      refine .inr (.inr λhv=>?_)
      have bk:∀e∈es0,S.fS e:=λe he=>hv e (JH _ (by rw[aa];exact he))
      have bl:∀e∈es1,S.fS e:=λe he=>hv e (JI _ he)
      obtain⟨b0,B0,new0,y1,y2,rfl,y3,y4,y5,_,y6⟩:=((rG hreE A _ #[] #[] _ A1 es0 br hr bk).resolve_left id).alike λj _=>rfl
      have ha:=(rG hreE A B #[] #[] _ A1 es0 hl hr bk).resolve_left id;obtain⟨z1,z2,z3,z4,z5,z6,_⟩:=((vK hk bf (rnC l) y3 b7).resolve_left ba).resolve_left bb bl;have d1:=ha.drawn;have d2:=ha.size;refine⟨ab,z2.trans ha.tape,ab,z4,z5,z6,λag=>?_⟩
      obtain⟨b,B1,new,x1,x2,rfl,x3,x4,x5,x7,x6⟩:=ha.alike λj hj=>ag j ab
      have en:new=es0:=by rw[x2];simp
      subst en;obtain⟨_,_,_,_,_,_,q⟩:=((vK hk bf (rnC l) x3 b7).resolve_left ba).resolve_left bb bl
      obtain⟨fr2,B2,zf,c7,w2,w3,w4,w6,w5⟩:=q λj hj=>by
       have:=ag (A1.drawn-A.drawn+j) ab;rw[x4,ha.tape,x5]
       have e3:A1.drawn+j=A.drawn+(A1.drawn-A.drawn+j):=ab
       have e4:B.drawn+(A1.drawn-A.drawn)+j=B.drawn+(A1.drawn-A.drawn+j):=ab
       rw[e3,e4];exact this
      refine⟨fr2,B2,zf,?_,w2,w3.trans x4,by rw[w4,x5];omega,by rw[aa];exact x7.trans w6,λe he=>?_⟩
      .rw[x1];simp only[Array.empty_append];rw[c7,vI a6 aq a' ay λe he=>vJ (x6 e he)];rfl
      .rcases yw.1 he with he|he
       .exact (x6 e (vH e he)).mono w6
       grind
     |_=>rw[b7] at hg;simp only[GStep.after] at hg;cases hg
   |region id ops draw=>
    cases draw with
    |false=>exact move _ (cons_ (a:=.inRegion ops (List.range ops.size)) hc a4) (by simp[stepG.exec,ht]) (by simp[stepG.exec,ht])
    |true=>
     have e2:∀(Q:Program)(w:World),stepG.exec Q main true fr cs none w=.go { frame:={ fr with todo:=.inRegion ops (Region.schedule (Q.follows .mixedOrders) ops (w.tape w.drawn (.order fr.fn id)))::k },callers:=cs,status:=.running,dying:=none } { w with drawn:=w.drawn+1 } #[]:=λQ w=>by
      simp[stepG.exec,ht,choose,Sem.run,Question.forced,Question.cut]
     rw[e2,GStep.go.injEq] at hg;obtain⟨rfl,rfl,rfl⟩:=hg;rw[e2,Ls hk.kin];refine .inr (.inr λ_=>⟨Nat.le_succ _,rfl,bS _,rfl,rfl,rfl,λag=>⟨_,{ B with drawn:=B.drawn+1 },.inl ⟨.inl ⟨rfl,rfl⟩,.inl ⟨rfl,hf.Cg (cons_ (a:=.inRegion ops _) hc a4)⟩⟩,?_,⟨hl.size,hl.low,hl.same,hl.dead,hl.os,hl.output⟩,rfl,ae,.draw _ _,ae⟩⟩);have:=ag 0 ae;simp_all
end
section
variable{P P':Program}{bad:Nat->Prop}{S:Sh}
theorem EN(b:Nat):RT P P' (Cc P P') (λ_=>False) (λx y=>x=y/\x=[]) (Instr.takeDeferred b) (Instr.takeDeferred b):=by
 unfold Instr.takeDeferred;refine nZ b (λo ho=>?_) (λo ho=>?_)
 .cases o<;>first|exact cu _ _|skip
  rename_i c
  rcases c with _|_|⟨d,ds⟩
  .exact cu _ _
  .exact bV (oX b trivial) λ_=>.pure _ _ ⟨rfl,rfl⟩
  trivial
 .cases o<;>exact cu _ _
theorem EP(hk:iv P P' (Cc P P') bad)(fn:Func)(T:Array Value):RE P P' (Cc P P') (results fn T) (results fn T):=by
 unfold results
 refine bV (Ex _ (λr=>?_) _) λvs=>bU _
 cases r with
 |tmp t=>exact bU _
 |cell a t=>exact bV (vD hk.kin _) λx=>vw hk.kin t x
theorem Lw{main:Bool}(hk:iv P P' (Cc P P') bad){fr:Frame}{cs:List Frame}{A B:World}(hf:dh P P' fr)(bt:fr.mode=.returning)(h9:main=true\/cs≠[])(hl:Lk (Cc P P') S A B){g':Goroutine}{A':World}{es:Array Event}(hg:unwind P main fr cs none A=.go g' A' es):mA P P' bad S fr cs A B g' A' es (unwind P' main fr cs none B):=by
 obtain⟨hn,b',ao⟩:=hf.calm.resolve_right (λh=>by rw[bt] at h;cases h.2.1)
 rcases hd:fr.defers with _|⟨d,ds⟩
 .cases hm:fr.mode with
  |run=>simp_all
  |panicking ch=>simp_all
  |returning=>
   obtain⟨⟨fn,a6,aq,a'⟩,_⟩:=id ao
   have e2:∀(Q:Program)(w:World),Q.funcs[fr.fn]?=some fn->unwind Q main fr cs none w=GStep.after (seen Q fr.fn ((results fn fr.tmps).runT Q w #[]).2) (match ((results fn fr.tmps).runT Q w #[]).1 with
    |.ok v w=>doReturn Q main fr cs none v w
    |.halt (.stuck s) w=>.ended (.stuck s (fr.pos Q)) w
    |.halt _ w=>.ended (.stuck "return: the result variables cannot be read" (fr.pos Q)) w):=λQ w hq=>by simp only[unwind,hd,hm,hq];rfl
   rw[e2 P A a6] at hg
   rcases hr:(results fn fr.tmps).runT P A #[] with ⟨r,es0⟩
   rw[hr] at hg
   cases r with
   |halt x w=>cases x<;>simp[GStep.after] at hg
   |ok v A1=>
    dsimp only at hg
    cases bh:doReturn P main fr cs none v A1 with
    |go g1 w1 es1=>
     rw[bh] at hg;simp only[GStep.after] at hg;obtain⟨caller,rest,rfl,rfl,rfl,rfl,hQ⟩:=EK ao hn h9 bh;rw[GStep.go.injEq] at hg;obtain⟨rfl,rfl,rfl⟩:=hg;rw[m7]
     refine vL hf hl (EP hk fn fr.tmps) hr rfl rfl rfl (.inr (.inl ⟨rfl,caller,v,rfl,rfl,ao⟩)) λB' hb=>?_
     rw[e2 P' B aq,hb];dsimp only;rw[hQ];rfl
    |_=>rw[bh] at hg;simp only[GStep.after] at hg;cases hg
 .rw[hd] at b';obtain⟨b,rfl⟩:=b' d gF
  have e2:∀(Q:Program)(w:World),unwind Q main fr cs none w=GStep.after (seen Q fr.fn ((Instr.takeDeferred b).runT Q w #[]).2) (match ((Instr.takeDeferred b).runT Q w #[]).1 with
   |.ok calls w=>.go { frame:={ fr with defers:=calls++ds },callers:=cs,status:=.running,dying:=none } w
   |.halt _ w=>.ended (.stuck "the deferred calls of a range-over-func loop have been taken" (fr.pos Q)) w):=λQ w=>by simp only[unwind,hd];rfl
  rw[e2] at hg
  rcases hr:(Instr.takeDeferred b).runT P A #[] with ⟨r,es0⟩
  rw[hr] at hg
  cases r with
  |halt x w=>trivial
  |ok calls A1=>
   simp only[GStep.after] at hg;rw[GStep.go.injEq] at hg;obtain⟨rfl,rfl,rfl⟩:=hg;rw[m7];obtain⟨_,_,hc⟩:=vN hl (EN b) hr;subst hc
   refine vL hf hl ((EN b).mono (λ_ h=>h) λ_ _ h=>h.1) hr rfl rfl rfl (.inl ⟨.inl ⟨rfl,rfl⟩,.inl ⟨rfl,hf.todo,hf.kind,.inl ⟨hn,λd bn=>b' d (eH _ (by simpa using bn)),ao⟩,hf.mode,hf.fn⟩⟩) λB' hb=>?_
   rw[e2,hb];rfl
theorem tR{main:Bool}(hk:iv P P' (Cc P P') bad){fr:Frame}{cs:List Frame}{A B:World}(hf:dh P P' fr)(h9:main=true\/cs≠[])(hl:Lk (Cc P P') S A B){g':Goroutine}{A':World}{es:Array Event}(hg:stepG P main (G fr cs) A=.go g' A' es):mA P P' bad S fr cs A B g' A' es (stepG P' main (G fr cs) B):=by
 cases hm:fr.mode with
 |run=>
  have e:∀(Q:Program)(w:World),stepG Q main (G fr cs) w=stepG.exec Q main true fr cs none w:=λQ w=>by simp only[stepG,G,hm]
  rw[e] at hg ⊢;exact Lv hk hf hm h9 hl hg
 |returning=>
  have e:∀(Q:Program)(w:World),stepG Q main (G fr cs) w=unwind Q main fr cs none w:=λQ w=>by simp only[stepG,G,hm]
  rw[e] at hg ⊢;exact Lw hk hf hm h9 hl hg
 |panicking ch=>exact absurd hm (hf.mode ch)
end
end Go.Fc
