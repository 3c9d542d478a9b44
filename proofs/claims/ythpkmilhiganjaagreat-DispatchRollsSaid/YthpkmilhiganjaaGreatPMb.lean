/- Lemmas. -/
import Derived.Test.YthpkmilhiganjaaGreatPMa
set_option linter.all false
set_option maxHeartbeats 32000000
set_option maxRecDepth 100000
namespace Go.Fc
open Go
def Calm(P:Program){α:Type}(s:Sem α):Prop:=∀w es,∃b,s.runT P w es=(.ok b w,es)
section
variable{P P':Program}{C:Cx}(h:Kin P P')
include h
theorem E9(b:Bool)(d:Nat):∀(t:TypeId),g7 P d t=true->∀(n:Nat)(x:Value),RE P P' C (Instr.checkKey b n t x) (Instr.checkKey b n t x):=by
 induction d with
 |zero=>intro t ht;cases ht
 |succ d ih=>
  intro t ht n x
  cases n with
  |zero=>exact dO _ _
  |succ n=>
   unfold g7 at ht;unfold Instr.checkKey
   rcases hu:P.underlying t with _|td
   .rw[hu] at ht;cases ht
   rw[hu] at ht;refine j7 h hu ?_
   cases td with
   |int k=>cases x<;>exact bY _
   |string=>cases x<;>exact bY _
   |bool=>cases x<;>exact bY _
   |slice e=>cases x<;>exact bY _
   |array len e=>
    have hx:=ih e ht n
    cases x<;>first|exact cz _ _|skip
    dsimp only
    repeat' first|exact bY _|exact hx _|exact gT h _|exact nT h _ _ _|refine b7 ?_ λ_=>?_|refine Ay _ _ (λ_ _=>?_) _ _|split|dsimp only
   |_=>cases ht
theorem Fa{d:Nat}{t:TypeId}(ht:g7 P d t=true)(k:Value):∀(es:List MapEntry)(i:Nat),RE P P' C (Instr.findAsking t k es i) (Instr.findAsking t k es i)
 |[],_=>bY _
 |e::es,i=>by
  unfold Instr.findAsking
  refine b7 (Az h d t ht _ _ _) λb=>?_
  split
  .exact bY _
  .exact Fa ht k es _
theorem Fb{d:Nat}{t:TypeId}(ht:g7 P d t=true)(k:Value)(es:List MapEntry):RE P P' C (Instr.findKey t k es) (Instr.findKey t k es):=by
 unfold Instr.findKey
 refine b7 (fC h t) λtd=>?_
 split
 .exact bY _
 .exact Fa h ht _ _ _
omit h in
theorem LM(r:Nat){α:Type}(m:String){f g:Array MapEntry->Nat->Sem α}{D:α->Prop}{Q:α->α->Prop}(hf:∀es c,RT P P' C D Q (f es c) (g es c)):RT P P' C D Q (getObj r >>= λo=>match o with | .map es c=>f es c|_=>stuck m) (getObj r >>= λo=>match o with | .map es c=>g es c|_=>stuck m):=by
 refine nW r (λo ho=>?_) (λo ho=>?_)
 .cases o<;>first|exact hf _ _|exact cz _ _
 .cases o<;>first|exact absurd trivial ho|exact cz _ _
theorem LN{d:Nat}{t key elem:TypeId}(hm:P.underlying t=some (.map key elem))(hk:g7 P d key=true)(x i:Value)(ok:Bool):RE P P' C (Instr.lookup t x i ok) (Instr.lookup t x i ok):=by
 unfold Instr.lookup;refine j7 h hm ?_;dsimp only
 have tail:∀es:Array MapEntry,RE P P' C (do
  Instr.checkKey es.isEmpty 10000 key i
  let (v,b) <-match <-Instr.findKey key i es.toList with
   |some (_,v)=>pure (v,true)
   |none=>pure (<-zeroValue elem,false)
  pure (if ok then Value.tuple #[v,.bool b] else v)) (do
  Instr.checkKey es.isEmpty 10000 key i
  let (v,b) <-match <-Instr.findKey key i es.toList with
   |some (_,v)=>pure (v,true)
   |none=>pure (<-zeroValue elem,false)
  pure (if ok then Value.tuple #[v,.bool b] else v)):=λes=>by
  repeat' first|exact bY _|exact E9 h _ d _ hk _ _|exact Fb h hk _ _|exact oU h _|refine b7 ?_ λ_=>?_|split|dsimp only
 cases x with
 |map r=>
  cases r with
  |none=>grind
  |some r=>
   refine nW r (λo ho=>?_) (λo ho=>?_)
   .cases o<;>first|exact tail _|exact b7 (bY _) tail|exact cz _ _|exact b7 (cz _ _) tail
   .cases o<;>first|exact absurd trivial ho|exact cz _ _|exact b7 (cz _ _) tail
 |_=>exact b7 (cz _ _) λes=>tail es
theorem LQ{d:Nat}{t key elem:TypeId}(hm:P.underlying t=some (.map key elem))(hk:g7 P d key=true)(x i v:Value):RE P P' C (Instr.mapUpdate t x i v) (Instr.mapUpdate t x i v):=by
 unfold Instr.mapUpdate;refine j7 h hm ?_;dsimp only
 cases x with
 |map r=>
  cases r with
  |none=>exact gU h _
  |some r=>
   dsimp only
   refine LM r _ λes c=>?_
   refine b7 (E9 h _ d _ hk _ _) λ_=>b7 (Fb h hk _ _) λo=>?_
   cases o with
   |none=>exact oT _ trivial
   |some o=>
    unfold Instr.keyThatStays
    repeat' first|exact bY _|exact oT _ trivial|exact j5 _|refine b7 ?_ λ_=>?_|split|dsimp only
 |_=>exact cz _ _
omit h in
theorem LU(s:FloatKind)(b:Nat)(k:IntKind):RE P P' C (Conv.floatToInt s b k) (Conv.floatToInt s b k):=by
 unfold Conv.floatToInt
 repeat' first|exact bY _|exact cz _ _|exact dO _ _|exact j5 _|refine b7 ?_ λ_=>?_|split|dsimp only
omit h in
theorem LV(e:TypeId)(x:ByteArray):RE P P' C (Conv.stringToBytes e x) (Conv.stringToBytes e x):=by
 unfold Conv.stringToBytes
 refine b7 (j5 _) λcap=>?_
 dsimp only;generalize (Array.map (λb:UInt8=>Value.int IntKind.u8 ↑b.toNat) x.data)++Array.replicate (cap-x.size) (Value.int .u8 0)=c
 have key:∀(p:Program)(w:World)(es:Array Event),(do
  let a <-newRow e c
  markStringish a
  pure (Value.slice (some a) x.size cap):Sem Value).runT p w es=(Sem.pure (Value.slice (some ⟨w.heap.size,0,none⟩) x.size cap)).runT p { w with heap:=w.heap.push (.cells c e (c.size,c.size+1))} es:=by
  intro p w es
  have hm:(w.heap.push (.cells c e)).modify w.heap.size (fun | .cells c' elem (lo,hi)=>.cells c' elem (if lo==hi then (c.size,c.size+1) else (min lo c.size,max hi (c.size+1)))|o=>o)=w.heap.push (.cells c e (c.size,c.size+1)):=by
   apply I8;intro i;rw[fG,pO,pO];by_cases hi:i=w.heap.size
   .subst hi;simp
   .rw[bH hi,bH hi,bH (dZ hi)]
  have c7:World.shape? { w with heap:=w.heap.push (.cells c e)} w.heap.size=some (e,c.size):=by simp[World.shape?]
  have br:World.freeze { w with heap:=w.heap.push (.cells c e)} ⟨w.heap.size,c.size,none⟩ 1 = { w with heap:=w.heap.push (.cells c e (c.size,c.size+1))} :=
   congrArg (λh=>({ w with heap:=h }:World)) hm
  have h1:(newRow e c).runT p w es=(.ok ⟨w.heap.size,0,none⟩ { w with heap:=w.heap.push (.cells c e)},es):=rfl
  have h2:(markStringish ⟨w.heap.size,0,none⟩).runT p { w with heap:=w.heap.push (.cells c e)} es=(.ok () { w with heap:=w.heap.push (.cells c e (c.size,c.size+1))},es):=by
   unfold markStringish;show (Sem.shape _ _:Sem Unit).runT _ _ _=_;simp only[Sem.runT];rw[c7,<-br];rfl
  simp_all
 exact .o7 (.cells c e (c.size,c.size+1)) _ _ (λr=>.pure (.slice (some ⟨r,0,none⟩) x.size cap)) (λr=>.pure (.slice (some ⟨r,0,none⟩) x.size cap)) trivial key key λr=>.pure _ _ rfl
theorem LX{src dst e:TypeId}(hs:P.underlying src=some .string)(hd:P.underlying dst=some (.slice e))(he:P.underlying e=some (.int .u8))(x:Value):RE P P' C (convert src dst x) (convert src dst x):=by
 unfold convert;refine j7 h hs (j7 h hd ?_)
 cases x<;>(try dsimp only)<;>first|exact j7 h he (LV _ _)|(repeat' first|contradiction|exact dO _ _|exact cz _ _|split)
theorem LY{src dst:TypeId}{k k':IntKind}(hs:P.underlying src=some (.int k'))(hd:P.underlying dst=some (.int k))(x:Value):RE P P' C (convert src dst x) (convert src dst x):=by
 unfold convert;refine j7 h hs (j7 h hd ?_)
 cases x<;>(try dsimp only)<;>repeat' first|contradiction|exact bY _|exact LU _ _ _|exact dO _ _|exact cz _ _|split
omit h in
theorem AB(v:Value):RE P P' C (Builtin.lenOf v) (Builtin.lenOf v):=by
 unfold Builtin.lenOf
 repeat' first|exact bY _|exact cz _ _|split
omit h in
theorem AD(s n:Nat)(v:Value):RE P P' C (Builtin.firstCells s n v) (Builtin.firstCells s n v):=by
 unfold Builtin.firstCells
 repeat' first|exact bY _|exact cz _ _|exact EI _ _|split
omit h in
theorem Calm.pure{α:Type}(a:α):Calm P (Pure.pure a:Sem α):=λw es=>⟨a,rfl⟩
omit h in
theorem Calm.shape(r:Nat):Calm P (Go.shape r):=λw es=>⟨_,rfl⟩
omit h in
theorem Calm.frozen(a:Addr):Calm P (Go.frozen a):=λw es=>⟨_,rfl⟩
omit h in
theorem Calm.bind{α β:Type}{s:Sem α}{f:α->Sem β}(hs:Calm P s)(hf:∀a,Calm P (f a)):Calm P (s >>= f):=λw es=>by
 obtain⟨a,ha⟩:=hs w es;obtain⟨b,hb⟩:=hf a w es;simp_all
omit h in
theorem L3{α β:Type}{s:Sem α}{f:α->Sem β}{t:Sem β}{D:β->Prop}{Q:β->β->Prop}(hs:Calm P s)(hf:∀a w es,NP w->o6 w ((f a).runT P w es).1):RT P P' C D Q (s >>= f) t:=by
 refine .bad _ _ λw es hn=>?_
 have e2:(s >>= f).runT P w es=(s.bind f).runT P w es:=rfl;rw[e2,Sem.runT_bind'];obtain⟨b,hb⟩:=hs w es;rw[hb];simp_all
omit h in
theorem Fe{β:Type}{x n m:Nat}{o:Option Addr}{v:Value}{f:Bool->Sem β}{t:Sem β}(hf:∀a w es,NP w->o6 w ((f a).runT P w es).1):RE P P' C (Builtin.mayShare x n m o v >>= f) t:=by
 have key:Calm P (Builtin.mayShare x n m o v):=by
  unfold Builtin.mayShare Builtin.holdsCells
  repeat' first|exact Calm.pure _|exact Calm.shape _|exact Calm.frozen _|refine Calm.bind ?_ λ_=>?_|split|dsimp only
 exact L3 key hf
theorem L4(ts:Array TypeId)(t:TypeId)(args:Array Value):RE P P' C (Builtin.append_ ts t args) (Builtin.append_ ts t args):=by
 unfold Builtin.append_;split
 .refine b7 (fC h _) λtd=>?_
  split
  .split
   .refine b7 (gT h _) λn=>?_
    have z:∀(f:Bool->Sem Value),(∀b,RE P P' C (f b) (f b))->RE P P' C (do
     let zeros <-match ts[1]? with
      |some xType=>do pure ((<-Go.underlying xType) matches .int _)
      |none=>pure false
     f zeros) (do
     let zeros <-match ts[1]? with
      |some xType=>do pure ((<-Go.underlying xType) matches .int _)
      |none=>pure false
     f zeros):=λf hf=>by
     split
     .exact b7 (fC h _) λ_=>b7 (bY _) hf
     simp_all
    refine z _ λb=>?_
    cases b
    .simp only[dC,cP,iw,cD]
     repeat' first|contradiction|exact bY _|exact cz _ _|exact dO _ _|exact gU h _|exact j5 _|exact fC h _|exact gT h _|exact oU h _|exact m9 h _|exact tF _|exact AB _|exact AD _ _ _|exact qg _ _ _|exact Aq _|exact tD _ _|(refine Fe ?_;intro a w es hn;cases a<;>exact⟨trivial,id⟩)|refine b7 ?_ λ_=>?_|split|dsimp only
    .simp only[Bool.true_eq_false,cD,gG,dC,cP]
     repeat' first|contradiction|exact bY _|exact cz _ _|exact dO _ _|exact gU h _|exact j5 _|exact fC h _|exact gT h _|exact oU h _|exact m9 h _|exact tF _|exact AB _|exact AD _ _ _|exact qg _ _ _|exact Aq _|exact tD _ _|(refine Fe ?_;intro a w es hn;cases a<;>exact⟨trivial,id⟩)|refine b7 ?_ λ_=>?_|split|dsimp only
   .exact cz _ _
  .exact cz _ _
 .exact cz _ _
theorem L5(ts:Array TypeId)(t:TypeId)(args:Array Value):RE P P' C (Builtin.copy_ ts t args) (Builtin.copy_ ts t args):=by
 unfold Builtin.copy_
 repeat' first|exact bY _|exact cz _ _|exact fC h _|exact gT h _|exact AB _|exact AD _ _ _|exact qg _ _ _|refine b7 ?_ λ_=>?_|split|dsimp only
theorem L6(ts:Array TypeId)(t:TypeId)(args:Array Value):RE P P' C (Builtin.clear_ ts t args) (Builtin.clear_ ts t args):=by
 unfold Builtin.clear_
 repeat' first|exact bY _|exact cz _ _|exact fC h _|exact oU h _|exact qg _ _ _|exact oT _ trivial|(refine nW _ (λo ho=>?_) (λo ho=>?_)<;>cases o<;>first|exact absurd trivial ho|exact cz _ _|exact b7 (oT _ trivial) λ_=>bY _|exact b7 (cz _ _) λ_=>bY _)|refine b7 ?_ λ_=>?_|split|dsimp only
theorem L8{ts:Array TypeId}{t0:TypeId}{td:TypeDesc}(ht:ts[0]?=some t0)(hu:P.underlying t0=some td)(hd:(∃e,td=.slice e)\/td=.string)(t:TypeId)(args:Array Value):RE P P' C (Builtin.len_ ts t args) (Builtin.len_ ts t args):=by
 unfold Builtin.len_;rw[ht]
 cases args[0]? with
 |none=>exact cz _ _
 |some x=>
  refine j7 h hu ?_
  rcases hd with ⟨e,rfl⟩|rfl<;>cases x<;>first|exact bY _|exact cz _ _
omit h in
theorem L9(a b:Value):RE P P' C (Builtin.max2 a b) (Builtin.max2 a b):=by
 unfold Builtin.max2
 repeat' first|exact bY _|exact cz _ _|exact dO _ _|exact j5 _|exact As _ _ _|exact wB _|refine b7 ?_ λ_=>?_|split|dsimp only
omit h in
theorem Ma(a b:Value):RE P P' C (Builtin.min2 a b) (Builtin.min2 a b):=by
 unfold Builtin.min2
 repeat' first|exact bY _|exact cz _ _|exact dO _ _|exact j5 _|exact As _ _ _|exact wB _|refine b7 ?_ λ_=>?_|split|dsimp only
omit h in
theorem AE(f:Value->Value->Sem Value)(hf:∀a b,RE P P' C (f a b) (f a b)):∀(l:List Value)(a:Value),RE P P' C (l.foldlM f a) (l.foldlM f a)
 |[],a=>by rw[List.foldlM_nil];exact bY _
 |b::l,a=>by rw[List.foldlM_cons];exact b7 (hf a b) λc=>AE f hf l c
omit h in
theorem Mb(ts:Array TypeId)(t:TypeId)(args:Array Value):RE P P' C (Builtin.max_ ts t args) (Builtin.max_ ts t args):=by
 unfold Builtin.max_;split
 .exact cz _ _
 .exact AE _ L9 _ _
omit h in
theorem Mc(ts:Array TypeId)(t:TypeId)(args:Array Value):RE P P' C (Builtin.min_ ts t args) (Builtin.min_ ts t args):=by
 unfold Builtin.min_;split
 .exact cz _ _
 .exact AE _ Ma _ _
end
structure kE(P P':Program)(C:Cx)(bad:Nat->Prop):Prop where
 kin:Kin P P'
 funcs:∀f,(P.funcs[f]?=none/\P'.funcs[f]?=none)\/(C.xf f/\∃fn c a9 c',P.funcs[f]?=some fn/\(fn.name == "runtime.NumGoroutine")=false/\fn.body=some c/\P'.funcs[f]?=some a9/\(a9.name == "runtime.NumGoroutine")=false/\a9.body=some c')\/(bad f/\∃fn c,P.funcs[f]?=some fn/\(fn.name == "runtime.NumGoroutine")=false/\fn.body=some c) \/
  ∃fn c,P.funcs[f]?=some fn/\P'.funcs[f]?=some fn/\(fn.name == "runtime.NumGoroutine")=false/\fn.body=some c/\C.code c/\C.fn f
def okN(C:Cx)(P:Program):Next->Prop
 |.value _ | .skip=>True
 |.enter f _=>(∃fn c,P.funcs[f]?=some fn/\fn.body=some c/\C.code c/\C.fn f)\/C.xf f
 |.round _ f _ a b=>C.code a/\C.code b/\C.fn f
 |_=>False
def dmN(bad:Nat->Prop):Next->Prop
 |.enter f _=>bad f
 |.spawn _=>True
 |_=>False
section
variable{P P':Program}{C:Cx}{bad:Nat->Prop}
abbrev RN(P P':Program)(C:Cx)(bad:Nat->Prop)(s t:Sem Next):Prop:=RT P P' C (dmN bad) (λa b=>a=b/\okN C P a) s t
theorem fL{s t:Sem Value}(h:RE P P' C s t):RN P P' C bad (s >>= λx=>pure (.value x)) (t >>= λx=>pure (.value x)):=b7 h λv=>.pure _ _ ⟨rfl,trivial⟩
theorem AF{s t:Sem Unit}(h:RE P P' C s t):RN P P' C bad (s >>= λ_=>pure .skip) (t >>= λ_=>pure .skip):=b7 h λv=>.pure _ _ ⟨rfl,trivial⟩
theorem qh(v:Value):RN P P' C bad (pure (.value v)) (pure (.value v)):=.pure _ _ ⟨rfl,trivial⟩
variable(h:kE P P' C bad)
include h
theorem AG(f:FuncId)(args:Array Value):RN P P' C bad (callFunc f args) (callFunc f args):=by
 unfold callFunc;refine iY ?_
 rcases h.funcs f with ⟨e1,e2⟩|⟨hx,fn,c,a9,c',e1,hn,hc,e2,bv,bn⟩|⟨hb,fn,c,e1,hn,hc⟩|⟨fn,c,e1,e2,hn,hc,hC⟩
 .rw[e1,e2];exact cz _ _
 .rw[e1,e2];simp only[hn,hc,bv,bn,I9,dC,cP];exact .pure _ _ ⟨rfl,.inr hx⟩
 .rw[e1];simp only[hn,hc,I9,dC,cP];exact .nY _ _ hb
 .rw[e1,e2];simp only[hn,hc,I9,dC,cP];exact .pure _ _ ⟨rfl,.inl ⟨fn,c,e1,hc,hC⟩⟩
theorem AH(t:TypeId)(x:Place):RE P P' C (x.get t) (x.get t):=by
 cases x with
 |val v=>exact bY _
 |var a=>exact wy h.kin t a
theorem AJ:∀(l:List FieldStep)(t:TypeId)(x:Place),RE P P' C (follow l t x) (follow l t x)
 |[],t,x=>bY _
 |s::r,t,x=>by
  unfold follow
  repeat' first|exact bY _|exact cz _ _|exact fC h.kin _|exact wC h.kin _|exact AH h _ _|exact EY h.kin _ _|exact nT h.kin _ _ _|exact AJ r _ _|refine b7 ?_ λ_=>?_|split|dsimp only
theorem Md(ts:Array TypeId)(t:TypeId)(a b c:Value):RE P P' C (Builtin.ssaWrapNilChk_ ts t #[a,b,c]) (Builtin.ssaWrapNilChk_ ts t #[a,b,c]):=by
 cases b<;>first|exact cz _ _|skip
 cases c<;>first|exact cz _ _|skip
 cases a<;>first|exact cz _ _|skip
 rename_i p
 cases p with
 |some x=>exact bY _
 |none=>
  unfold Builtin.ssaWrapNilChk_;dsimp only
  repeat' first|exact bY _|exact cz _ _|exact dO _ _|exact gU h.kin _|exact j5 _|exact fC h.kin _|exact m9 h.kin _|refine b7 ?_ λ_=>?_|split|dsimp only
theorem Ff(t:TypeId)(x:Place)(b:Bool)(o:Option String):RE P P' C (receiverAt t x b o) (receiverAt t x b o):=by
 unfold receiverAt
 repeat' first|exact bY _|exact cz _ _|exact fC h.kin _|exact wC h.kin _|exact AH h _ _|exact wy h.kin _ _|exact Md h _ _ _ _ _|refine b7 ?_ λ_=>?_|split|dsimp only
theorem Me(t:TypeId)(v:Value)(l:Array FieldStep)(b:Bool):RE P P' C (receiverVia t v l b) (receiverVia t v l b):=by
 unfold receiverVia
 exact b7 (AJ h _ _ _) λx=>Ff h _ _ _ _
theorem Fg:∀(n:Nat)(t:TypeId)(v:Value)(m:String),RE P P' C (method n t v m) (method n t v m)
 |0,_,_,_=>dO _ _
 |n+1,t,v,m=>by
  unfold method
  repeat' first|exact bY _|exact cz _ _|exact gU h.kin _|exact m9 h.kin _|exact AJ h _ _ _|exact AH h _ _|exact Ff h _ _ _ _|exact Fg n _ _ _|refine b7 ?_ λ_=>?_|split|dsimp only
theorem Fh(x:Value)(m:String)(args:Array Value):RN P P' C bad (callMethod x m args) (callMethod x m args):=by
 have kt:P'.types=P.types:=by obtain⟨fs,rfl⟩:=h.kin.eq;rfl
 unfold callMethod;split
 .refine iY ?_;rw[kt]
  exact b7 (Fg h _ _ _ _) λy=>AG h _ _
 .exact gU h.kin _
 .exact cz _ _
end
def kI(P:Program)(o:Oper):Bool:=match o.op with
 |.move _ | .assign _ | .pick .. | .alloc .. | .box .. | .build .. | .buildSlice .. | .load .. | .store .. | .nilCheck _ | .unOp .. | .makeInterface .. | .makeFunc .. | .makeMap .. | .makeSlice .. | .slice .. | .fieldAddr .. | .field .. | .indexAddr .. | .index .. | .extract .. | .panic _=>true
 |.binOp op t ..=>!(op == .eql || op == .neq) || ny P t
 |.convert s d _=>match P.underlying s,P.underlying d with|some (.int _),some (.int _)=>true|some .string,some (.slice e)=>(match P.underlying e with|some (.int .u8)=>true|_=>false)|_,_=>false
 |.lookup t .. | .mapUpdate t ..=>match P.underlying t with|some (.map k _)=>g7 P 10 k|_=>false
 |.call c=>match c.callee with
  |.builtin .append | .builtin .copy | .builtin .clear | .builtin .max | .builtin .min=>true
  |.builtin .len=>match c.argTypes[0]? with
   |some t=>match P.underlying t with|some (.slice _)|some .string=>true|_=>false
   |none=>false
  |.value _=>true
  |_=>false
 |.go c=>match c.callee with
  |.value _=>true
  |_=>false
 |_=>false
section
variable{P P':Program}{C:Cx}{bad:Nat->Prop}(h:kE P P' C bad)
theorem Mf{w:World}(h:ND w)(c:Array Value)(e:TypeId):ND { w with heap:=w.heap.push (.cells c e)}:=by
 intro b ds hb;simp only[pO] at hb;split at hb
 .cases hb
 .exact h b ds hb
theorem Mg{α:Type}(w:World)(es:Array Event):o6 w ((runtimePanic .panicNil:Sem α).runT P w es).1:=by
 unfold runtimePanic elemOf newVar newRow Go.underlying newObj;simp only[bind,Sem.bind,program,Sem.runT]
 rcases P.underlying P.rt.panicNilError with _|td
 .exact⟨trivial,id⟩
 .cases td<;>first|exact⟨trivial,id⟩|exact⟨trivial,λh=>Mf h _ _⟩
theorem Mh(w:World)(c:Sys):(w.sys c).2.heap=w.heap:=by
 have ask:∀{α:Type}(a:Ask α)(w:World),(w.ask a).2.heap=w.heap:=by
  intro α a
  induction a with
  |done x=>intro w;rfl
  |ask what range k ih=>
   intro w;unfold World.ask;dsimp only;split
   .exact ih _ w
   .exact ih _ _
 unfold World.sys;have:=ask (Kernel.perform c w.os) w
 grind
theorem Fj{w:World}(h:ND w)(c:Sys):ND (w.sys c).2:=λb ds hb=>h b ds (by rw[Mh] at hb;exact hb)
theorem Mi{β:Type}{w w1:World}{r:Result β}(h:ND w->ND w1)(q:o6 w1 r):o6 w r:=by
 cases r with
 |ok a b=>exact q
 |halt a b=>exact⟨q.1,λx=>q.2 (h x)⟩
theorem Mj{β:Type}(f:Int->Sem β)(hf:∀a w es,o6 w ((f a).runT P w es).1)(w:World)(es:Array Event):o6 w ((Instr.panicnil >>= f).runT P w es).1:=by
 have e2:(Instr.panicnil >>= f).runT P w es=(Instr.panicnil.bind f).runT P w es:=rfl;rw[e2,Sem.runT_bind']
 rcases hr:Instr.panicnil.runT P w es with ⟨r,b'⟩
 unfold Instr.panicnil at hr;simp only[bind,Sem.bind,program,sys,Sem.runT,pure] at hr
 rcases hx:(w.sys .env).1<;>rw[hx] at hr<;>simp only[stuck,Sem.bind,Sem.runT,dH] at hr<;>obtain⟨rfl,rfl⟩:=hr<;>first
  |exact⟨trivial,λh=>Fj h _⟩
  |exact Mi (λh=>Fj h _) (hf _ _ _)
theorem Ml(v:Value)(t:Sem Value){D:Value->Prop}{Q:Value->Value->Prop}:RT P P' C D Q (Instr.panic v) t:=by
 unfold Instr.panic;split
 .exact oS _ _
 .refine .bad _ _ λw es hn=>Mj _ (λn w es=>?_) w es
  split
  .exact⟨trivial,id⟩
  .exact Mg w es
 .exact cz _ _
include h
theorem Fl:∀(l:List FieldStep)(t:TypeId)(x:Option Value),RE P P' C (followBlind l t x) (followBlind l t x)
 |[],t,x=>bY _
 |s::r,t,x=>by
  unfold followBlind
  repeat' first|exact bY _|exact cz _ _|exact fC h.kin _|exact nT h.kin _ _ _|exact Fl r _ _|refine b7 ?_ λ_=>?_|split|dsimp only
theorem Fo:∀(n:Nat)(t:TypeId)(v:Value)(m:String),RE P P' C (nilAhead n t v m) (nilAhead n t v m)
 |0,_,_,_=>bY _
 |n+1,t,v,m=>by
  unfold nilAhead
  repeat' first|exact bY _|exact cz _ _|exact m9 h.kin _|exact Fl h _ _ _|exact fC h.kin _|exact Fo n _ _ _|refine b7 ?_ λ_=>?_|split|dsimp only
omit h in
theorem Mn(l:Nat)(args:Array Value):RN P P' C bad (Instr.yield l args) (Instr.yield l args):=by
 unfold Instr.yield Instr.getLoop
 have key:∀r:Loop,C.code r.assign->C.code r.body->C.fn r.fn->RN P P' C bad (do
  if args.size≠r.params.size then stuck "yield: the wrong number of arguments"
  pure (Next.round l r.fn ((r.params.zip args).foldl (λtmps (t,a)=>tmps.setIfInBounds t a) r.tmps) r.assign r.body)) (do
  if args.size≠r.params.size then stuck "yield: the wrong number of arguments"
  pure (Next.round l r.fn ((r.params.zip args).foldl (λtmps (t,a)=>tmps.setIfInBounds t a) r.tmps) r.assign r.body)):=λr h1 h2 h3=>by
  dsimp only;split
  .exact b7 (cz _ _) λ_=>.pure _ _ ⟨rfl,h1,h2,h3⟩
  .exact .pure _ _ ⟨rfl,h1,h2,h3⟩
 refine j4 (M:=λa b=>a=b/\C.code a.assign/\C.code a.body/\C.fn a.fn) ?_ (λa b a5=>ak);refine nW l (λo ho=>?_) (λo ho=>?_)
 .cases o<;>first|exact cz _ _|exact .pure _ _ ⟨rfl,ho.1,ho.2.1,ho.2.2.1⟩
 .cases o<;>first|exact cz _ _|exact absurd trivial ho
theorem Mo(f:Fn)(cap args:Array Value):RN P P' C bad (invoke (.fn f cap) args) (invoke (.fn f cap) args):=by
 unfold invoke
 cases f with
 |func f=>exact AG h _ _
 |method m=>
  dsimp only;split
  .exact Fh h _ _ _
  .exact cz _ _
 |methodOf t m=>
  dsimp only;split
  .exact b7 (fC h.kin _) λd=>Fh h _ _ _
  .exact cz _ _
 |via t p f b=>
  dsimp only;split
  .exact b7 (Me h _ _ _ _) λr=>AG h _ _
  .exact cz _ _
 |yield l=>exact Mn _ _
theorem Mp{b:Builtin}{c:Call}{o:Oper}(hc:c.callee=.builtin b)(he:o.op=.call c)(hk:kI P o=true)(t:TypeId)(cs:Array Bool)(args:Array Value):RN P P' C bad (builtin b c.argTypes t cs args) (builtin b c.argTypes t cs args):=by
 unfold kI at hk;rw[he] at hk;simp only[hc] at hk;unfold builtin
 cases b<;>first|cases hk|skip
 .exact fL (L4 h.kin _ _ _)
 .exact fL (L6 h.kin _ _ _)
 .exact fL (L5 h.kin _ _ _)
 .revert hk
  rcases hx:c.argTypes[0]? with _|t0
  .simp
  .rcases hu:P.underlying t0 with _|td
   .simp_all
   .intro hk;simp only[hu] at hk;refine fL (L8 h.kin hx hu ?_ _ _)
    cases td<;>first|exact .inl ⟨_,rfl⟩|exact .inr rfl|(cases hk;done)
 .exact fL (Mb _ _ _)
 .exact fL (Mc _ _ _)
theorem Fp{o:Oper}(ho:kI P o=true)(ρ:Operand->Value):RN P P' C bad (execOp ρ o) (execOp ρ o):=by
 have kt:P'.types=P.types:=by obtain⟨fs,rfl⟩:=h.kin.eq;rfl
 have hk:=ho;unfold kI at hk;unfold execOp
 split at hk<;>rename_i hx<;>(try rw[hx])<;>dsimp only
 .exact qh _
 .exact qh _
 .exact b7 (wB _) λb=>qh _
 .exact fL (Lq h.kin _ _)
 .exact fL (Lr _ _)
 .exact fL (Ls h.kin _ _)
 .exact fL (Lt h.kin _ _ _)
 .exact fL (Lu h.kin _ _)
 .exact AF (Lv h.kin _ _ _)
 .rename_i x;split
  .exact gU h.kin _
  .exact gU h.kin _
  .exact gU h.kin _
  .split
   .exact gU h.kin _
   .refine iY ?_;rw[kt]
    refine b7 (Fo h _ _ _ _) λb=>?_
    split
    .exact b7 (dO _ _) λ_=>qh _
    .exact qh _
   .exact qh _
  .exact qh _
 .exact fL (K3 _ _)
 .exact fL (LF h.kin _ _)
 .exact fL (bY _)
 .exact fL (LG h.kin _ _)
 .exact fL (LH h.kin _ _ _)
 .exact fL (LL h.kin _ _ _ _ _)
 .exact fL (Lw h.kin _ _ _)
 .exact fL (LA h.kin _ _ _)
 .exact fL (Lx h.kin _ _ _)
 .exact fL (Ly h.kin _ _ _)
 .exact fL (Lz _ _)
 .exact RT.bind (M:=λ_ _=>False) (Ml _ _) λa b e=>e.elim
 .rename_i op t x y r
  have hp:op=.eql\/op=.neq->ny P t=true:=λe=>by
   rcases e with rfl|rfl<;>simpa using hk
  exact fL (b7 (Lo h.kin _ _ _ _ hp) λ_=>Lp h.kin _ _ hp)
 .rename_i s d x;split at hk
  .rename_i h1 h2;exact fL (LY h.kin h1 h2 _)
  .rename_i h1 h2;split at hk
   .rename_i h3;exact fL (LX h.kin h1 h2 h3 _)
   .cases hk
  .cases hk
 .split at hk
  .rename_i h1;exact fL (LN h.kin h1 hk _ _ _)
  .cases hk
 .split at hk
  .rename_i h1;exact AF (LQ h.kin h1 hk _ _ _)
  .cases hk
 .rename_i c;unfold resolve
  rcases hc:c.callee with f|⟨r,m⟩|b
  .unfold Deferred.ofValue;dsimp only;split
   .rename_i fn first cap hf
    change RT P P' C (dmN bad) _ (invoke (.fn fn cap) (first++c.args.map ρ)) (invoke (.fn fn cap) (first++c.args.map ρ))
    exact Mo h _ _ _
   .change RT P P' C (dmN bad) _ (runtimePanic .nilDeref) (runtimePanic .nilDeref)
    exact gU h.kin _
   .exact RT.bind (M:=λ_ _=>False) (cz _ _) λa b e=>e.elim
  .simp_all
  .refine RT.bind (M:=λd e=>d=e/\∃cs args,d = { target:=.builtin b c.argTypes o.type cs,args:=args }) (.pure _ _ ⟨rfl,_,_,rfl⟩) λd e bp=>?_
   obtain⟨rfl,cs,args,rfl⟩:=bp;exact Mp h hc hx ho _ cs args
 .rename_i c;unfold resolve
  rcases hc:c.callee with f|⟨r,m⟩|b<;>simp only[hc] at hk<;>first|cases hk|skip
  unfold Deferred.ofValue;dsimp only;split
  .exact RT.nY (Next.spawn _) _ (show dmN bad (Next.spawn _) from trivial)
  .exact RT.nY (Next.spawn _) _ (show dmN bad (Next.spawn _) from trivial)
  .exact RT.bind (M:=λ_ _=>False) (cz _ _) λa b e=>e.elim
 .cases hk
end
end Go.Fc
namespace Go.Fc
open Go Go.Conc
class Xf where
 xf:Nat->Prop
 bot:Nat->Prop
 ds:Nat->List Deferred->Prop
 rng:Bool
variable[Xf]
def codeOk(P:Program):Code->Bool
 |.skip | .ret | .exit _ | .label _ | .refuse _=>true
 |.seq a b | .cond _ a b=>codeOk P a&&codeOk P b
 |.rangeFunc _ _ a b=>Xf.rng&&(codeOk P a&&codeOk P b)
 |.block _ c | .loop c | .scope c=>codeOk P c
 |.region _ ops _=>ops.toList.all (kI P)
 |.goto _=>false
abbrev Cd(P:Program)(c:Code):Prop:=codeOk P c=true
def Cc(P P':Program):Cx:=⟨Cd P,λf=>(∃fn,P.funcs[f]?=some fn/\P'.funcs[f]?=some fn/\fn.norace=false)/\P.inits.idxOf? f=none,Xf.xf⟩
def qE(P:Program):Item->Prop
 |.code c | .inLoop c | .inScope c=>Cd P c
 |.inRegion ops _=>ops.toList.all (kI P)=true
 |.inBlock _ | .inRangeFunc _ | .endRangeFunc _ | .beginRound=>True
 |.call .. | .extern ..=>False
structure dG(P P':Program)(fr:Frame):Prop where
 todo:∀it∈fr.todo,qE P it
 kind:fr.kind≠.early
 calm:(fr.kind=.normal/\(∀d∈fr.defers,∃b,d = { target:=.collected b,args:=#[] })/\(Cc P P').fn fr.fn)\/(Xf.bot fr.fn/\fr.mode=.run/\fr.roundOf=none/\Xf.rng=false/\Xf.ds fr.fn fr.defers)
 mode:∀ch,fr.mode≠.panicking ch
 fn:∃fn a9,P.funcs[fr.fn]?=some fn/\P'.funcs[fr.fn]?=some a9/\fn.norace=false/\a9.norace=false
section
variable{P P':Program}{bad:Nat->Prop}{S:Sh}
theorem wE{p:Program}{fn:FuncId}{es:Array Event}:∀e∈seen p fn es,e∈es:=by
 unfold seen;obtain⟨l⟩:=es;simp only[List.foldl_toArray']
 have key:∀(l:List Event)(q:Bool)(kept:Array Event),∀e∈(l.foldl (init:=(q,kept)) λ(q,kept) e=>
  match e.loc with
  |.mark (.extern f)=>(((p.funcs[f]?).any (·.norace)),kept)
  |_=>(q,if q && !e.sync then kept else kept.push e)).2,e∈kept\/e∈l:=by
  intro l
  induction l with
  |nil=>intro q kept e he;exact .inl he
  |cons x l ih=>
   intro q kept e he;simp only[De] at he;split at he
   .rcases ih _ _ e he with h|h
    .exact .inl h
    .exact .inr (fw _ h)
   .rcases ih _ _ e he with h|h
    .split at h
     .exact .inl h
     .rcases Array.mem_push.1 h with h|h
      .exact .inl h
      .exact .inr (h▸jB)
    .exact .inr (fw _ h)
 intro e he
 rcases key l _ _ e he with h|h
 .simp at h
 simp_all
theorem tI{p:Program}{fn:FuncId}{f:Func}(hf:p.funcs[fn]?=some f)(hq:f.norace=false){es:Array Event}(he:∀e∈es,∀g,e.loc≠.mark (.extern g)):seen p fn es=es:=by
 unfold seen;dsimp only;rw[hf];simp only[Option.any_some,hq];obtain⟨l⟩:=es;simp only[List.foldl_toArray']
 have key:∀(l:List Event)(kept:Array Event),(∀e∈l,∀g,e.loc≠.mark (.extern g)) ->
  (l.foldl (init:=(false,kept)) λ(q,kept) e=>match e.loc with
  |.mark (.extern f)=>(((p.funcs[f]?).any (·.norace)),kept)
  |_=>(q,if q && !e.sync then kept else kept.push e)).2=kept++l.toArray:=by
  intro l
  induction l with
  |nil=>simp
  |cons x l ih=>
   simp_all
 exact (key l #[] ak).trans ae
theorem wF{fn:FuncId}{f f':Func}(h1:P.funcs[fn]?=some f)(h2:P'.funcs[fn]?=some f')(h3:f.norace=false)(h4:f'.norace=false){es:Array Event}(he:∀e∈es,∀g,e.loc≠.mark (.extern g)):seen P' fn es=seen P fn es:=by
 rw[tI h1 h3 he,tI h2 h4 he]
def Fok(P P':Program)(fr fr':Frame):Prop:=(fr'=fr/\dG P P' fr)\/∃f args,Xf.xf f/\fr=Frame.enter P f args .normal/\fr'=Frame.enter P' f args .normal
def CF(P P':Program)(fr0:Frame)(cs:List Frame)(g':Goroutine)(fr':Frame):Prop:=
 ((g'.callers=cs/\g'.frame.fn=fr0.fn\/∃f1,dG P P' f1/\f1.fn=fr0.fn/\((Cc P P').fn g'.frame.fn\/Xf.xf g'.frame.fn)/\g'.callers=f1::cs)/\Fok P P' g'.frame fr')\/(fr'=g'.frame/\∃(c:Frame)(v:Value),cs=c::g'.callers/\g'.frame=c.finish v/\(Cc P P').fn fr0.fn) \/
 (fr'=g'.frame/\g'.callers=cs/\g'.frame.fn=fr0.fn/\Xf.bot g'.frame.fn/\g'.frame.mode=.returning/\Xf.ds g'.frame.fn g'.frame.defers)
def mB(P P':Program)(bad:Nat->Prop)(S:Sh)(fr0:Frame)(cs:List Frame)(A B:World)(g':Goroutine)(A':World)(es:Array Event)(t:GStep):Prop:=
 (∃f args cs,bad f/\g'.frame=Frame.enter P f args .normal/\g'.callers=cs)\/((∃ch,g'.frame.mode=.panicking ch)\/g'.dying≠none) \/
 ((∀e∈es,S.eU e)->A.drawn<=A'.drawn/\A'.tape=A.tape/\A.heap.size<=A'.heap.size/\g'.status=.running/\g'.dying=none/\g'.offers=none /\
   ((∀j,A.drawn+j<A'.drawn->B.tape (B.drawn+j)=A.tape (A.drawn+j)) ->
     ∃fr2 B',CF P P' fr0 cs g' fr2/\t=.go { g' with frame:=fr2 } B' es/\Lk (Cc P P') S A' B'/\B'.tape=B.tape/\B'.drawn=B.drawn+(A'.drawn-A.drawn)/\Kept es B B'/\∀e∈es,EvT S B' e))
omit [Xf] in
theorem wG(fr:Frame)(v:Value):(fr.finish v).fn=fr.fn:=by unfold Frame.finish;split<;>rfl
theorem dG.finish{fr:Frame}(h:dG P P' fr)(v:Value):dG P P' (fr.finish v):=by
 have ht:=h.todo;unfold Frame.finish;split
 .rename_i ops i rest k e;rw[e] at ht
  exact⟨λit hy=>by
   rcases ew.1 hy with rfl|hy
   .exact ht (.inRegion ops (i::rest)) jB
   simp_all,h.kind,h.calm,h.mode,h.fn⟩
 .rename_i l k e;rw[e] at ht
  exact⟨λit hy=>by
   rcases ew.1 hy with rfl|hy
   .trivial
   simp_all,h.kind,h.calm,h.mode,h.fn⟩
 .rename_i k e;rw[e] at ht;exact⟨λit hy=>ht it (fw _ hy),h.kind,h.calm,h.mode,h.fn⟩
 .rename_i k e;rw[e] at ht;exact (ht _ jB).elim
 .rename_i k e;rw[e] at ht;exact (ht _ jB).elim
 .exact h
theorem wH{S:Sh}{n:World}{e:Event}(h:EvT S n e)(g:FuncId):e.loc≠.mark (.extern g):=by
 rcases h with ⟨a,wr,rfl,_,_⟩|⟨r,wr,sy,rfl,_,_⟩|rfl<;>simp
theorem dG.enter{f:FuncId}{fn:Func}{c:Code}(h1:P.funcs[f]?=some fn)(h2:P'.funcs[f]?=some fn)(hb:fn.body=some c)(hc:Cd P c)(hi:(Cc P P').fn f)(args:Array Value):dG P P' (Frame.enter P f args .normal):=by
 refine⟨λit hy=>?_,by simp[Frame.enter],.inl ⟨rfl,λd hd=>aE,hi⟩,λch=>by simp[Frame.enter],hi.1.imp λfn h=>⟨fn,h.1,h.2.1,h.2.2,h.2.2⟩⟩;simp only[Frame.enter,h1,jz,hb,oL,qW] at hy;subst hy;exact hc
theorem Mq{f:FuncId}{fn:Func}(h1:P.funcs[f]?=some fn)(h2:P'.funcs[f]?=some fn)(args:Array Value)(k:CallKind):Frame.enter P' f args k=Frame.enter P f args k:=by
 unfold Frame.enter;rw[h1,h2]
theorem Fq(fr:Frame)(vs:List PanicEntry):∃ch,(fr.raise vs).mode=.panicking ch:=by
 unfold Frame.raise
 split<;>exact⟨_,rfl⟩
theorem wI(hk:kE P P' (Cc P P') bad){fr:Frame}{cs:List Frame}{A B:World}(hf:dG P P' fr){s:Sem Next}(hs:RN P P' (Cc P P') bad s s)(hl:Lk (Cc P P') S A B){g':Goroutine}{A':World}{es:Array Event}(hg:stepG.apply P true fr cs none s A=.go g' A' es):mB P P' bad S fr cs A B g' A' es (stepG.apply P' true fr cs none s B):=by
 have h8:(fr.kind == .early)=false:=by have:=hf.kind;cases hk:fr.kind<;>first|rfl|trivial
 obtain⟨fn,a9,a6,aq,a',ay⟩:=hf.fn;unfold stepG.apply at hg;simp only[cD,h8,dC,cP] at hg
 rcases hr:s.runT P A #[] with ⟨r,es0⟩
 rw[hr] at hg
 cases r with
 |halt x A1=>
  obtain⟨hc,bw⟩:=Jm hs A B #[] x A1 es0 hl hr
  cases x<;>first|exact hc.elim|skip
  .simp only[GStep.after,GStep.go.injEq] at hg;obtain⟨rfl,_,_⟩:=hg;exact .inr (.inl (.inl (Fq fr _)))
  .rename_i u
   cases u<;>first|exact hc.elim|(simp[GStep.after] at hg;done)
  trivial
 |ok n A1=>
  have h':∀d w rs sv k,fr.todo≠.call d w rs sv::k:=λd w rs sv k e=>by
   have:=hf.todo (.call d w rs sv) (by rw[e];simp);exact this
  by_cases hd:dmN bad n
  .cases n<;>first|exact hd.elim|skip
   rotate_left
   .dsimp only at hg
    repeat' split at hg
    all_goals first|(simp[GStep.after] at hg;done)|skip
    all_goals
     simp only[GStep.after,endThrow,dieOf,GStep.go.injEq] at hg;obtain⟨rfl,_,_⟩:=hg;exact .inr (.inl (.inr ae))
   rename_i f args;refine .inl ⟨f,args,fr::cs,hd,?_⟩
   rcases ht:fr.todo with _|⟨it,k⟩
   .simp only[ht,GStep.after,GStep.go.injEq] at hg
    grind
   .cases it<;>first|exact absurd ht (h' _ _ _ _ _)|(simp only[ht,GStep.after,GStep.go.injEq] at hg;obtain⟨rfl,_,_⟩:=hg;exact⟨rfl,rfl⟩)
  .obtain⟨c4,c5⟩:=xo hs A B #[] n A1 es0 hl hr
   have hq:okN (Cc P P') P n:=let ⟨_,h⟩:=c4.resolve_left hd;h.2
   have aa:seen P fr.fn es0=es0:=tI a6 a' λe he=>(c5 e he).resolve_left ae
   have run:(∀e∈seen P fr.fn es0++#[],S.eU e)->Alike P' (Cc P P') S s (λa b=>a=b/\okN (Cc P P') P a) A B #[] #[] n A1 es0:=λhv=>(vc hs A B #[] #[] n A1 es0 hl hr λe he=>hv e (by rw[aa];grind)).resolve_left hd
   have fin:∀(g:Goroutine),g.status=.running->g.dying=none->g.offers=none->dG P P' g.frame->(g.callers=cs/\g.frame.fn=fr.fn\/∃f1,dG P P' f1/\f1.fn=fr.fn/\((Cc P P').fn g.frame.fn\/Xf.xf g.frame.fn)/\g.callers=f1::cs) ->
    g=g'/\A1=A'/\seen P fr.fn es0++#[]=es ->
    (∀B',s.runT P' B #[]=(.ok n B',es0)->stepG.apply P' true fr cs none s B=.go g B' (seen P' fr.fn es0)) ->
    mB P P' bad S fr cs A B g' A' es (stepG.apply P' true fr cs none s B):=by
    intro g h1 h2 h3 h4 h5 he hgo;obtain⟨rfl,rfl,rfl⟩:=he;refine .inr (.inr λhv=>?_);have ha:=run hv;refine⟨ha.drawn,ha.tape,ha.size,h1,h2,h3,λag=>?_⟩;obtain⟨b,B',new,y1,y2,⟨rfl,_⟩,y3,y4,y5,y7,y6⟩:=ha.alike ag
    have en:new=es0:=by rw[y2];simp
    subst en;refine⟨g.frame,B',.inl ⟨h5,.inl ⟨rfl,h4⟩⟩,?_,y3,y4,y5,by rw[aa];grind,λe he=>y6 e (wE e (by simpa using he))⟩;rw[hgo B' (by rw[y1];simp),wF a6 aq a' ay λe he=>wH (y6 e he)];simp
   cases n<;>first|exact hq.elim|skip
   .rename_i v;simp only[GStep.after,GStep.go.injEq] at hg
    refine fin _ ?_ ?_ ?_ ?_ ?_ hg λB' hb=>?_
    all_goals first|rfl|exact hf.finish v|exact .inl ⟨rfl,wG fr _⟩|skip
    unfold stepG.apply;simp[-Sem.runT_eq,hb,h8,GStep.after]
   .simp only[GStep.after,GStep.go.injEq] at hg
    refine fin _ ?_ ?_ ?_ ?_ ?_ hg λB' hb=>?_
    all_goals first|rfl|exact hf.finish _|exact .inl ⟨rfl,wG fr _⟩|skip
    unfold stepG.apply;simp[-Sem.runT_eq,hb,h8,GStep.after]
   .rename_i f args
    have b9:GStep.go { frame:=Frame.enter P f args .normal,callers:=fr::cs,status:=.running,dying:=none } A1 (seen P fr.fn es0++#[])=.go g' A' es:=by
     rw[<-hg]
     rcases ht:fr.todo with _|⟨it,k⟩
     .rfl
     .cases it<;>first|exact absurd ht (h' _ _ _ _ _)|rfl
    by_cases hx:Xf.xf f
    .rw[GStep.go.injEq] at b9;obtain⟨rfl,rfl,rfl⟩:=b9;refine .inr (.inr λhv=>?_);have ha:=run hv;refine⟨ha.drawn,ha.tape,ha.size,rfl,rfl,rfl,λag=>?_⟩;obtain⟨b,B',new,y1,y2,⟨rfl,_⟩,y3,y4,y5,y7,y6⟩:=ha.alike ag
     have en:new=es0:=by rw[y2];simp
     subst en;refine⟨Frame.enter P' f args .normal,B',.inl ⟨.inr ⟨fr,hf,rfl,.inr hx,rfl⟩,.inr ⟨f,args,hx,rfl,rfl⟩⟩,?_,y3,y4,y5,by rw[aa];simpa using y7,λe he=>y6 e (wE e (by simpa using he))⟩;unfold stepG.apply;rw[show s.runT P' B #[]=(.ok (.enter f args) B',new) from by rw[y1];simp];simp only[cD,h8,dC,cP,GStep.after];rw[wF a6 aq a' ay λe he=>wH (y6 e he)]
     rcases ht:fr.todo with _|⟨it,k⟩
     .rfl
     .cases it<;>first|exact absurd ht (h' _ _ _ _ _)|rfl
    obtain⟨fn2,c2,q1,q2,q3,q5⟩:=hq.resolve_right hx
    have q4:P'.funcs[f]?=some fn2:=by
     rcases hk.funcs f with ⟨e1,_⟩|⟨c8,_⟩|⟨hb,_⟩|⟨fn3,c3,e1,e2,_⟩
     .rw[q1] at e1;cases e1
     .exact absurd c8 hx
     .exact absurd hb hd
     .rw[q1] at e1;obtain rfl:=fO e1;exact e2
    rw[GStep.go.injEq] at b9
    refine fin _ ?_ ?_ ?_ ?_ ?_ b9 λB' hb=>?_
    all_goals first|rfl|exact dG.enter q1 q4 q2 q3 q5 args|exact .inr ⟨fr,hf,rfl,.inl q5,rfl⟩|skip
    unfold stepG.apply;simp only[cD,hb,h8,dC,cP,GStep.after];rw[Mq q1 q4];simp_all
   .rename_i l f tmps a b;obtain⟨q1,q2,q3⟩:=hq;simp only[GStep.after,GStep.go.injEq] at hg
    refine fin _ ?_ ?_ ?_ ?_ ?_ hg λB' hb=>?_
    all_goals first|rfl|exact .inr ⟨fr,hf,rfl,.inl q3,rfl⟩|skip
    .refine⟨λit hy=>?_,by simp[Frame.round],.inl ⟨rfl,λd hd=>aE,q3⟩,λch=>by simp[Frame.round],q3.1.imp λfn h=>⟨fn,h.1,h.2.1,h.2.2,h.2.2⟩⟩;simp only[Frame.round,ew,mX,or_false] at hy
     rcases hy with rfl|rfl|rfl
     .exact q1
     .trivial
     .exact q2
    .unfold stepG.apply;simp[-Sem.runT_eq,hb,h8,GStep.after]
end
end Go.Fc
namespace Go.Fc
open Go Go.Conc
variable[Xf]
section
variable{P P':Program}{bad:Nat->Prop}{S:Sh}
theorem mB.stay{A B:World}{fr0 fr:Frame}{cs:List Frame}(hf:dG P P' fr)(ao:fr.fn=fr0.fn)(hl:Lk (Cc P P') S A B):mB P P' bad S fr0 cs A B { frame:=fr,callers:=cs,status:=.running,dying:=none } A #[] (.go { frame:=fr,callers:=cs,status:=.running,dying:=none } B #[]):=
 .inr (.inr λ_=>⟨bV _,rfl,bV _,rfl,rfl,rfl,λ_=>⟨fr,B,.inl ⟨.inl ⟨rfl,ao⟩,.inl ⟨rfl,hf⟩⟩,rfl,hl,rfl,ae,.refl _ _,ae⟩⟩)
theorem dG.Cl{fr:Frame}(h:dG P P' fr){todo:List Item}(ht:∀it∈todo,qE P it):dG P P' { fr with todo }:=⟨ht,h.kind,h.calm,h.mode,h.fn⟩
theorem AK(id:Nat):∀(k k':List Item),exitTo id k=some k'->∀it∈k',it∈k
 |[],_,h=>by trivial
 |x::k,k',h=>by
  intro it hy
  cases x<;>simp only[exitTo] at h<;>first
   |exact fw _ (AK id k k' h it hy)
   |(split at h
     .simp_all
     .exact fw _ (AK id k k' h it hy))
theorem Mr(h:Kin P P')(d:Departure):P'.follows d=P.follows d:=by obtain⟨fs,rfl⟩:=h.eq;rfl
theorem Ms(h:Kin P P'):P'.inits=P.inits:=by obtain⟨fs,rfl⟩:=h.eq;rfl
theorem Fs{main:Bool}{fr:Frame}{cs:List Frame}{A1:World}{v:Value}(hf:(Cc P P').fn fr.fn)(hn:fr.kind=.normal)(h9:main=true\/cs≠[]){g':Goroutine}{A':World}{b':Array Event}(hg:doReturn P main fr cs none v A1=.go g' A' b'):∃caller rest,cs=caller::rest/\g' = { frame:=caller.finish v,callers:=rest,status:=.running,dying:=none }/\A'=A1/\b'=#[]/\∀(Q:Program)(w:World),doReturn Q main fr cs none v w=.go g' w #[]:=by
 unfold doReturn at hg
 cases cs with
 |nil=>
  exfalso;obtain rfl:=h9.resolve_right ae;simp only[hn,gG,dC,cP,hf.2] at hg;cases hg
 |cons c r=>
  simp only[hn,GStep.go.injEq] at hg;obtain⟨rfl,rfl,rfl⟩:=hg;exact⟨c,r,rfl,rfl,rfl,rfl,λQ w=>by unfold doReturn;grind⟩
theorem wJ{α:Type}{fr:Frame}{cs:List Frame}{A B:World}(hf:dG P P' fr)(hl:Lk (Cc P P') S A B){s:Sem α}(hs:RE P P' (Cc P P') s s){v:α}{A1:World}{es0:Array Event}(hr:s.runT P A #[]=(.ok v A1,es0)){g:Goroutine}(h1:g.status=.running)(h2:g.dying=none)(h3:g.offers=none)(h4:CF P P' fr cs g g.frame){t:GStep}(ht:∀B',s.runT P' B #[]=(.ok v B',es0)->t=.go g B' (seen P' fr.fn es0)):mB P P' bad S fr cs A B g A1 (seen P fr.fn es0) t:=by
 obtain⟨fn,a9,a6,aq,a',ay⟩:=hf.fn
 have aa:seen P fr.fn es0=es0:=tI a6 a' λe he=>((xo hs A B #[] v A1 es0 hl hr).2 e he).resolve_left ae
 refine .inr (.inr λhv=>?_);have ha:=(vc hs A B #[] #[] v A1 es0 hl hr λe he=>hv e (by rw[aa];exact he)).resolve_left id;refine⟨ha.drawn,ha.tape,ha.size,h1,h2,h3,λag=>?_⟩;obtain⟨b,B',new,y1,y2,rfl,y3,y4,y5,y7,y6⟩:=ha.alike ag
 have en:new=es0:=by rw[y2];simp
 subst en;refine⟨g.frame,B',h4,?_,y3,y4,y5,by rw[aa];exact y7,λe he=>y6 e (wE e he)⟩;rw[ht B' (by rw[y1];simp),wF a6 aq a' ay λe he=>wH (y6 e he)]
theorem Mt(l:Nat)(j:Option Code)(hj:∀c,j=some c->Cd P c):RE P P' (Cc P P') (Instr.endRound l j) (Instr.endRound l j):=by
 unfold Instr.endRound Instr.getLoop;refine j4 (M:=λa b=>a=b/\okO (Cc P P') (.loop a)) ?_ (λa b a5=>?_)
 .refine nW l (λo ho=>?_) (λo ho=>?_)
  .cases o<;>first|exact cz _ _|exact .pure _ _ ⟨rfl,ho⟩
  .cases o<;>first|exact cz _ _|exact absurd trivial ho
 .obtain⟨rfl,hl⟩:=a5
  exact b7 (oT l ⟨hl.1,hl.2.1,hl.2.2.1,λc e=>hj c e⟩) λ_=>bY _
theorem wK(l:Nat):RT P P' (Cc P P') (λ_=>False) (λa b=>a=b/\okO (Cc P P') (.loop a)) (Instr.getLoop l) (Instr.getLoop l):=by
 unfold Instr.getLoop;refine nW l (λo ho=>?_) (λo ho=>?_)
 .cases o<;>first|exact cz _ _|exact .pure _ _ ⟨rfl,ho⟩
 .cases o<;>first|exact cz _ _|exact absurd trivial ho
theorem Mu(hk:kE P P' (Cc P P') bad)(o:Option Nat):RN P P' (Cc P P') bad (do o.elim (stuck "beginRound: no round") Instr.beginRound;pure .skip) (do o.elim (stuck "beginRound: no round") Instr.beginRound;pure .skip):=by
 refine AF ?_
 cases o with
 |none=>exact cz _ _
 |some l=>
  simp only[Option.elim];unfold Instr.beginRound
  refine j4 (wK l) λa b a5=>?_
  obtain⟨rfl,hl⟩:=a5
  refine b7 (oT l hl) λ_=>?_
  split
  .exact bY _
  all_goals exact gU hk.kin _
theorem Ft(hk:kE P P' (Cc P P') bad)(l:Nat):RT P P' (Cc P P') (λ_=>False) (λa b=>a=b/\∀c,a=some c->Cd P c) (Instr.endLoop l) (Instr.endLoop l):=by
 unfold Instr.endLoop
 refine j4 (wK l) λa b a5=>?_
 obtain⟨rfl,hl⟩:=a5
 have tail:RT P P' (Cc P P') (λ_=>False) (λa b=>a=b/\∀c,a=some c->Cd P c) (do setObj l (.loop { a with state:=.exhausted });pure a.pending) (do setObj l (.loop { a with state:=.exhausted });pure a.pending):=
  b7 (oT l hl) λ_=>.pure _ _ ⟨rfl,hl.2.2.2⟩
 dsimp only;split
 .exact j4 (M:=λ_ _=>False) (gU hk.kin _) λa b e=>e.elim
 .exact tail
theorem Mv{fn:FuncId}(ao:(Cc P P').fn fn)(T:Array Value)(ps:Array Tmp){a b:Code}(ha:Cd P a)(hb:Cd P b)(o:Option Nat):RT P P' (Cc P P') (λ_=>False) (λx y=>x=y/\∀d∈x.2,∃r,d = { target:=.collected r,args:=#[] }) (Instr.enterLoop fn T ps a b o) (Instr.enterLoop fn T ps a b o):=by
 have tail:∀(ds:Nat)(m:List Deferred),(∀d∈m,∃r,d = { target:=.collected r,args:=#[] })->RT P P' (Cc P P') (λ_=>False) (λx y=>x=y/\∀d∈x.2,∃r,d = { target:=.collected r,args:=#[] })
  (do pure (<-newObj (.loop { state:=.ready,pending:=none,fn,tmps:=T,params:=ps,assign:=a,body:=b,defers:=ds }),m)) (do pure (<-newObj (.loop { state:=.ready,pending:=none,fn,tmps:=T,params:=ps,assign:=a,body:=b,defers:=ds }),m)):=λds m hm=>
  b7 (rl (o:=.loop { state:=.ready,pending:=none,fn,tmps:=T,params:=ps,assign:=a,body:=b,defers:=ds }) ⟨ha,hb,ao,λc e=>by cases e⟩) λr=>.pure _ _ ⟨rfl,hm⟩
 unfold Instr.enterLoop
 cases o with
 |some l=>
  dsimp only
  first
   |exact j4 (M:=λx y=>x=y/\∀d∈x.2,∃r,d = { target:=.collected r,args:=#[] }) (j4 (wK l) λx y b4=>aE) (λx y b4=>by obtain⟨rfl,hm⟩:=b4;exact tail _ _ hm)
   |exact j4 (wK l) λx y b4=>by
     simp_all
 |none=>
  dsimp only
  first
   |exact j4 (M:=λx y=>x=y/\∀d∈x.2,∃r,d = { target:=.collected r,args:=#[] }) (b7 (rl (o:=.deferred (some [])) trivial) λr=>.pure _ _ ⟨rfl,ae⟩) (λx y b4=>by obtain⟨rfl,hm⟩:=b4;exact tail _ _ hm)
   |exact b7 (rl (o:=.deferred (some [])) trivial) λr=>j4 (M:=λx y=>x=y/\∀d∈x.2,∃r,d = { target:=.collected r,args:=#[] }) (.pure _ _ ⟨rfl,ae⟩) (λx y b4=>al)
theorem AL{α:Type}{Q:α->α->Prop}{A B:World}(hl:Lk (Cc P P') S A B){s:Sem α}(hs:RT P P' (Cc P P') (λ_=>False) Q s s){v:α}{A1:World}{es0:Array Event}(hr:s.runT P A #[]=(.ok v A1,es0)):∃b,Q v b:=by
 exact (xo hs A B #[] v A1 es0 hl hr).1.resolve_left id
theorem Mw{main:Bool}(hk:kE P P' (Cc P P') bad){fr:Frame}{cs:List Frame}{A B:World}(hf:dG P P' fr)(c6:fr.mode=.run)(h9:main=true\/cs≠[])(hl:Lk (Cc P P') S A B){g':Goroutine}{A':World}{es:Array Event}(hg:stepG.exec P main true fr cs none A=.go g' A' es):mB P P' bad S fr cs A B g' A' es (stepG.exec P' main true fr cs none B):=by
 have bf:=hf.todo
 have bd:(fr.kind=.normal/\(∀d∈fr.defers,∃b,d = { target:=.collected b,args:=#[] })/\(Cc P P').fn fr.fn)->dG P P' { fr with mode:=.returning }:=λh=>⟨hf.todo,hf.kind,.inl h,λch=>ae,hf.fn⟩
 have leave_:∀(h0:fr.roundOf=none),(∀(Q:Program)(w:World),stepG.exec Q main true fr cs none w=.go { frame:={ fr with mode:=.returning },callers:=cs,status:=.running,dying:=none } w #[]) ->
  mB P P' bad S fr cs A B g' A' es (stepG.exec P' main true fr cs none B):=λh0 e2=>by
  rw[e2,GStep.go.injEq] at hg;obtain⟨rfl,rfl,rfl⟩:=hg;rw[e2]
  rcases hf.calm with h|⟨h,_,_,_,bq⟩
  .exact .stay (bd h) rfl hl
  .exact .inr (.inr λ_=>⟨bV _,rfl,bV _,rfl,rfl,rfl,λ_=>⟨_,B,.inr (.inr ⟨rfl,rfl,rfl,h,rfl,bq⟩),rfl,hl,rfl,ae,.refl _ _,ae⟩⟩)
 have leaveR:∀(l:Nat)(j:Option Code),fr.roundOf=some l->(∀c,j=some c->Cd P c)->(∀(Q:Program)(w:World),stepG.exec Q main true fr cs none w=GStep.after (seen Q fr.fn ((Instr.endRound l j).runT Q w #[]).2) (match ((Instr.endRound l j).runT Q w #[]).1 with
  |.ok v w=>doReturn Q main fr cs none v w
  |.halt _ w=>.ended (.stuck "range over a function: no such loop" (fr.pos Q)) w))->mB P P' bad S fr cs A B g' A' es (stepG.exec P' main true fr cs none B):=λl j bj hj e2=>by
  have hh:=hf.calm.resolve_right (λh=>by rw[h.2.2.1] at bj;cases bj);have hn:fr.kind=.normal:=hh.1;rw[e2] at hg
  rcases hr:(Instr.endRound l j).runT P A #[] with ⟨r,es0⟩
  rw[hr] at hg
  cases r with
  |halt x w=>trivial
  |ok v A1=>
   dsimp only at hg
   cases hd:doReturn P main fr cs none v A1 with
   |go g1 w1 es1=>
    rw[hd] at hg;simp only[GStep.after] at hg;obtain⟨caller,rest,rfl,rfl,rfl,rfl,hQ⟩:=Fs hh.2.2 hn h9 hd;rw[GStep.go.injEq] at hg;obtain⟨rfl,rfl,rfl⟩:=hg;rw[mU]
    refine wJ hf hl (Mt l j hj) hr rfl rfl rfl (.inr (.inl ⟨rfl,caller,v,rfl,rfl,hh.2.2⟩)) λB' hb=>?_
    rw[e2,hb];dsimp only;rw[hQ];rfl
   |_=>rw[hd] at hg;simp only[GStep.after] at hg;cases hg
 rcases ht:fr.todo with _|⟨it,k⟩
 .rcases h0:fr.roundOf with _|l
  .exact leave_ h0 λQ w=>by simp only[stepG.exec,ht,h0];rfl
  .exact leaveR l none h0 (λc e=>by cases e) λQ w=>by simp only[stepG.exec,ht,h0];rfl
 .rw[ht] at bf;have ax:=bf it jB
  have a4:∀x∈k,qE P x:=λx hx=>bf x (fw _ hx)
  have cons_:∀{a:Item}{l:List Item},qE P a->(∀x∈l,qE P x)->∀x∈a::l,qE P x:=λha hl x hx=>(ew.1 hx).elim (λe=>e▸ha) (hl x)
  have move:∀(todo:List Item),(∀x∈todo,qE P x)->stepG.exec P main true fr cs none A=.go { frame:={ fr with todo },callers:=cs,status:=.running,dying:=none } A #[] ->
   stepG.exec P' main true fr cs none B=.go { frame:={ fr with todo },callers:=cs,status:=.running,dying:=none } B #[]->mB P P' bad S fr cs A B g' A' es (stepG.exec P' main true fr cs none B):=λtodo h1 h2 h3=>by
   rw[h2,GStep.go.injEq] at hg;obtain⟨rfl,rfl,rfl⟩:=hg;rw[h3];exact .stay (hf.Cl h1) rfl hl
  cases it with
  |inBlock id=>exact move k a4 az az
  |inScope c=>exact move k a4 az az
  |inLoop c=>exact move _ (cons_ (a:=.code c) ax (cons_ (a:=.inLoop c) ax a4)) az az
  |inRangeFunc l=>simp only[stepG.exec,ht] at hg;cases hg
  |endRangeFunc l=>
   have e2:∀(Q:Program)(w:World),stepG.exec Q main true fr cs none w=GStep.after (seen Q fr.fn ((Instr.endLoop l).runT Q w #[]).2) (match ((Instr.endLoop l).runT Q w #[]).1 with
    |.ok jump w=>.go { frame:={ fr with todo:=(jump.map Item.code).toList++k },callers:=cs,status:=.running,dying:=none } w
    |.halt (.panic v) w=>.go { frame:=fr.raise [{ v,recovered:=false }],callers:=cs,status:=.running,dying:=none } w
    |.halt _ w=>.ended (.stuck "range over a function: no such loop" (fr.pos Q)) w):=λQ w=>by simp only[stepG.exec,ht];rfl
   rw[e2] at hg
   rcases hr:(Instr.endLoop l).runT P A #[] with ⟨r,es0⟩
   rw[hr] at hg
   cases r with
   |halt x w=>
    cases x<;>simp only[GStep.after] at hg<;>first|(cases hg;done)|skip
    rw[GStep.go.injEq] at hg;obtain⟨rfl,_,_⟩:=hg;exact .inr (.inl (.inl (Fq fr _)))
   |ok jump A1=>
    simp only[GStep.after] at hg;rw[GStep.go.injEq] at hg;obtain⟨rfl,rfl,rfl⟩:=hg;rw[mU];obtain⟨_,rfl,hj⟩:=AL hl (Ft hk l) hr
    refine wJ hf hl ((Ft hk l).mono (λ_ h=>h) λ_ _ h=>h.1) hr rfl rfl rfl (.inl ⟨.inl ⟨rfl,rfl⟩,.inl ⟨rfl,hf.Cl λx hx=>?_⟩⟩) λB' hb=>?_
    .rcases jC.1 hx with hx|hx
     .cases jump with
      |none=>simp at hx
      |some c=>
       obtain rfl:x=.code c:=by simpa using hx
       exact hj c rfl
     simp_all
    .rw[e2,hb];rfl
  |beginRound=>
   have e2:∀(Q:Program)(w:World),stepG.exec Q main true fr cs none w=stepG.apply Q true fr cs none (do fr.roundOf.elim (stuck "beginRound: no round") Instr.beginRound;pure .skip) w:=λQ w=>by simp only[stepG.exec,ht]
   rw[e2] at hg ⊢;exact wI hk hf (Mu hk _) hl hg
  |call d w r s=>exact ax.elim
  |extern r a=>exact ax.elim
  |inRegion ops todo=>
   cases todo with
   |nil=>exact move k a4 az az
   |cons i rest=>
    have bi:∀o,ops[i]?=some o->kI P o=true:=λo ho=>by
     have hm:o∈ops.toList:=by
      rw[<-jA] at ho
      grind
     exact gz.1 ax o hm
    by_cases hw:((ops[i]?).map (Region.wanted · (yielded ops fr.tmps))).getD false=true
    .rcases ho:ops[i]? with _|o
     .rw[ho] at hw;cases hw
     have b6:fr.oper?=some o:=by simp[Frame.oper?,ht,ho]
     have ee:∀(Q:Program)(w:World),stepG.exec Q main true fr cs none w=(match fr.roundOf,o.op with
      |some l,.defer c=>stepG.apply Q true fr cs none (do Instr.deferInRound l (<-resolve fr.eval c o.type);pure .skip) w
      |_,_=>stepG.apply Q true fr cs none (execOp fr.eval o) w):=λQ w=>by
      simp only[stepG.exec,ht,hw,cD,stepG.oper,b6];rfl
     have bw:∀c,o.op≠.defer c:=λc e=>by have:=bi o ho;unfold kI at this;rw[e] at this;cases this
     have e2:∀(Q:Program)(w:World),stepG.exec Q main true fr cs none w=stepG.apply Q true fr cs none (execOp fr.eval o) w:=λQ w=>by
      rw[ee];simp_all
     rw[e2] at hg ⊢;exact wI hk hf (Fp hk (bi o ho) fr.eval) hl hg
    .have e2:∀(Q:Program)(w:World),stepG.exec Q main true fr cs none w=.go { frame:=fr.finish undef,callers:=cs,status:=.running,dying:=none } w #[]:=λQ w=>by
      simp only[stepG.exec,ht,hw];rfl
     rw[e2,GStep.go.injEq] at hg;obtain⟨rfl,rfl,rfl⟩:=hg;rw[e2];exact .stay (hf.finish _) (wG fr _) hl
  |code c=>
   have hc:Cd P c:=ax
   cases c with
   |skip=>exact move k a4 az az
   |label l=>exact move k a4 az az
   |seq a b=>
    have a5:codeOk P a=true/\codeOk P b=true:=by simpa[Cd,codeOk] using hc
    exact move _ (cons_ (a:=.code a) a5.1 (cons_ (a:=.code b) a5.2 a4)) az az
   |block id c=>exact move _ (cons_ (a:=.code c) hc (cons_ (a:=.inBlock id) trivial a4)) az az
   |loop c=>exact move _ (cons_ (a:=.code c) hc (cons_ (a:=.inLoop c) hc a4)) az az
   |scope c=>exact move _ (cons_ (a:=.code c) hc (cons_ (a:=.inScope c) hc a4)) az az
   |goto l=>cases hc
   |refuse w=>simp only[stepG.exec,ht] at hg;cases hg
   |cond c a b=>
    have a5:codeOk P a=true/\codeOk P b=true:=by simpa[Cd,codeOk] using hc
    cases hv:fr.eval c with
    |bool t=>
     cases t
     .exact move _ (cons_ (a:=.code b) a5.2 a4) aL aL
     .exact move _ (cons_ (a:=.code a) a5.1 a4) aL aL
    |_=>simp only[stepG.exec,ht,hv] at hg;cases hg
   |exit id=>
    rcases he:exitTo id k with _|k'
    .rcases h0:fr.roundOf with _|l
     .exfalso;simp[stepG.exec,ht,he,h0] at hg
     .exact leaveR l (some (.exit id)) h0 (λc e=>by cases e;rfl) λQ w=>by simp only[stepG.exec,ht,h0,he,Option.elim];rfl
    .exact move k' (λx hx=>a4 x (AK id k k' he x hx)) (by simp only[stepG.exec,ht,he,Option.elim]) (by simp only[stepG.exec,ht,he,Option.elim])
   |ret=>
    rcases h0:fr.roundOf with _|l
    .exact leave_ h0 λQ w=>by simp only[stepG.exec,ht,h0];rfl
    .exact leaveR l (some .ret) h0 (λc e=>by cases e;rfl) λQ w=>by simp only[stepG.exec,ht,h0];rfl
   |rangeFunc f ps a b=>
    have aw:Xf.rng=true/\codeOk P a=true/\codeOk P b=true:=by simpa[Cd,codeOk] using hc
    have a5:=aw.2;have hh:=hf.calm.resolve_right (λh=>by rw[h.2.2.2.1] at aw;cases aw.1)
    let call:Call:={ callee:=.value f,args:=#[],argTypes:=#[] }
    have rnC:∀l:Nat,RN P P' (Cc P P') bad (do let d <-resolve fr.eval { callee:=.value f,args:=#[.const (.func (.yield l) #[] #[])],argTypes:=#[] } 0;invoke d.target d.args) (do let d <-resolve fr.eval { callee:=.value f,args:=#[.const (.func (.yield l) #[] #[])],argTypes:=#[] } 0;invoke d.target d.args):=λl=>
     Fp hk (o:={ (default:Oper) with op:=.call { callee:=.value f,args:=#[.const (.func (.yield l) #[] #[])],argTypes:=#[] },type:=0 }) rfl fr.eval
    have e2:∀(Q:Program)(w:World),stepG.exec Q main true fr cs none w=GStep.after (seen Q fr.fn ((Instr.enterLoop fr.fn fr.tmps ps a b fr.roundOf).runT Q w #[]).2) (match ((Instr.enterLoop fr.fn fr.tmps ps a b fr.roundOf).runT Q w #[]).1 with
     |.ok (l,mark) w=>stepG.apply Q true { fr with todo:=.inRangeFunc l::k,defers:=mark++fr.defers } cs none (do let d <-resolve fr.eval { callee:=.value f,args:=#[.const (.func (.yield l) #[] #[])],argTypes:=#[] } 0;invoke d.target d.args) w
     |.halt _ w=>.ended (.stuck "range over a function: no such loop" (fr.pos Q)) w):=λQ w=>by simp only[stepG.exec,ht];rfl
    have bk:=Mv (P:=P) (P':=P') hh.2.2 fr.tmps ps a5.1 a5.2 fr.roundOf;have hreE:=bk.mono (λ_ h=>h) (λ_ _ h=>h.1);rw[e2] at hg ⊢
    rcases hr:(Instr.enterLoop fr.fn fr.tmps ps a b fr.roundOf).runT P A #[] with ⟨r,es0⟩
    rw[hr] at hg
    cases r with
    |halt x w=>trivial
    |ok lm A1=>
     obtain⟨l,mark⟩:=lm;dsimp only at hg;obtain⟨_,rfl,b5⟩:=AL hl bk hr;have bg:dG P P' { fr with todo:=.inRangeFunc l::k,defers:=mark++fr.defers }:=⟨cons_ (a:=.inRangeFunc l) trivial a4,hf.kind,.inl ⟨hh.1,λd hd=>(jC.1 hd).elim (b5 d) (hh.2.1 d),hh.2.2⟩,hf.mode,hf.fn⟩
     cases b8:stepG.apply P true { fr with todo:=.inRangeFunc l::k,defers:=mark++fr.defers } cs none (do let d <-resolve fr.eval { callee:=.value f,args:=#[.const (.func (.yield l) #[] #[])],argTypes:=#[] } 0;invoke d.target d.args) A1 with
     |go g1 w1 es1=>
      rw[b8] at hg;simp only[GStep.after] at hg;rw[GStep.go.injEq] at hg;obtain⟨rfl,rfl,rfl⟩:=hg;obtain⟨fn,a9,a6,aq,a',ay⟩:=hf.fn;by_cases bb:∃f args cs,bad f/\g1.frame=Frame.enter P f args .normal/\g1.callers=cs
      .exact .inl bb
      by_cases bc:(∃ch,g1.frame.mode=.panicking ch)\/g1.dying≠none
      .exact .inr (.inl bc)
      have bt:Lk (Cc P P') S A { B with tape:=A.tape,drawn:=A.drawn }:=⟨hl.size,hl.low,hl.same,hl.dead,hl.os,hl.output⟩
      have aa:seen P fr.fn es0=es0:=tI a6 a' λe he=>((xo hreE A B #[] _ A1 es0 hl hr).2 e he).resolve_left ae
      refine .inr (.inr λhv=>?_)
      have bl:∀e∈es0,S.eU e:=λe he=>hv e (IQ _ (by rw[aa];exact he))
      have bm:∀e∈es1,S.eU e:=λe he=>hv e (IS _ he)
      obtain⟨b0,B0,new0,y1,y2,rfl,y3,y4,y5,_,y6⟩:=((vc hreE A _ #[] #[] _ A1 es0 bt hr bl).resolve_left id).alike λj _=>rfl
      have ha:=(vc hreE A B #[] #[] _ A1 es0 hl hr bl).resolve_left id;obtain⟨z1,z2,z3,z4,z5,z6,_⟩:=((wI hk bg (rnC l) y3 b8).resolve_left bb).resolve_left bc bm;have d1:=ha.drawn;have d2:=ha.size;refine⟨ab,z2.trans ha.tape,ab,z4,z5,z6,λag=>?_⟩
      obtain⟨b,B1,new,x1,x2,rfl,x3,x4,x5,x7,x6⟩:=ha.alike λj hj=>ag j ab
      have en:new=es0:=by rw[x2];simp
      subst en;obtain⟨_,_,_,_,_,_,q⟩:=((wI hk bg (rnC l) x3 b8).resolve_left bb).resolve_left bc bm
      obtain⟨fr2,B2,zf,c9,w2,w3,w4,w6,w5⟩:=q λj hj=>by
       have:=ag (A1.drawn-A.drawn+j) ab;rw[x4,ha.tape,x5]
       have e3:A1.drawn+j=A.drawn+(A1.drawn-A.drawn+j):=ab
       have e4:B.drawn+(A1.drawn-A.drawn)+j=B.drawn+(A1.drawn-A.drawn+j):=ab
       rw[e3,e4];exact this
      refine⟨fr2,B2,zf,?_,w2,w3.trans x4,by rw[w4,x5];omega,by rw[aa];exact x7.trans w6,λe he=>?_⟩
      .rw[x1];simp only[Array.empty_append];rw[c9,wF a6 aq a' ay λe he=>wH (x6 e he)];rfl
      .rcases xX.1 he with he|he
       .exact (x6 e (wE e he)).mono w6
       grind
     |_=>rw[b8] at hg;simp only[GStep.after] at hg;cases hg
   |region id ops draw=>
    cases draw with
    |false=>exact move _ (cons_ (a:=.inRegion ops (List.range ops.size)) hc a4) (by simp[stepG.exec,ht]) (by simp[stepG.exec,ht])
    |true=>
     have e2:∀(Q:Program)(w:World),stepG.exec Q main true fr cs none w=.go { frame:={ fr with todo:=.inRegion ops (Region.schedule (Q.follows .mixedOrders) ops (w.tape w.drawn (.order fr.fn id)))::k },callers:=cs,status:=.running,dying:=none } { w with drawn:=w.drawn+1 } #[]:=λQ w=>by
      simp[stepG.exec,ht,choose,Sem.run,Question.forced,Question.cut]
     rw[e2,GStep.go.injEq] at hg;obtain⟨rfl,rfl,rfl⟩:=hg;rw[e2,Mr hk.kin];refine .inr (.inr λ_=>⟨Nat.le_succ _,rfl,bV _,rfl,rfl,rfl,λag=>⟨_,{ B with drawn:=B.drawn+1 },.inl ⟨.inl ⟨rfl,rfl⟩,.inl ⟨rfl,hf.Cl (cons_ (a:=.inRegion ops _) hc a4)⟩⟩,?_,⟨hl.size,hl.low,hl.same,hl.dead,hl.os,hl.output⟩,rfl,ae,.draw _ _,ae⟩⟩);have:=ag 0 ae;simp_all
end
section
variable{P P':Program}{bad:Nat->Prop}{S:Sh}
theorem Fu(b:Nat):RT P P' (Cc P P') (λ_=>False) (λx y=>x=y/\x=[]) (Instr.takeDeferred b) (Instr.takeDeferred b):=by
 unfold Instr.takeDeferred;refine nW b (λo ho=>?_) (λo ho=>?_)
 .cases o<;>first|exact cz _ _|skip
  rename_i c
  rcases c with _|_|⟨d,ds⟩
  .exact cz _ _
  .exact b7 (oT b trivial) λ_=>.pure _ _ ⟨rfl,rfl⟩
  trivial
 .cases o<;>exact cz _ _
theorem Mx(hk:kE P P' (Cc P P') bad)(fn:Func)(T:Array Value):RE P P' (Cc P P') (results fn T) (results fn T):=by
 unfold results
 refine b7 (E7 _ (λr=>?_) _) λvs=>bY _
 cases r with
 |tmp t=>exact bY _
 |cell a t=>exact b7 (wC hk.kin _) λx=>wy hk.kin t x
theorem My{main:Bool}(hk:kE P P' (Cc P P') bad){fr:Frame}{cs:List Frame}{A B:World}(hf:dG P P' fr)(bu:fr.mode=.returning)(h9:main=true\/cs≠[])(hl:Lk (Cc P P') S A B){g':Goroutine}{A':World}{es:Array Event}(hg:unwind P main fr cs none A=.go g' A' es):mB P P' bad S fr cs A B g' A' es (unwind P' main fr cs none B):=by
 obtain⟨hn,bh,ao⟩:=hf.calm.resolve_right (λh=>by rw[bu] at h;cases h.2.1)
 rcases hd:fr.defers with _|⟨d,ds⟩
 .cases hm:fr.mode with
  |run=>simp_all
  |panicking ch=>simp_all
  |returning=>
   obtain⟨⟨fn,a6,aq,a'⟩,_⟩:=id ao
   have e2:∀(Q:Program)(w:World),Q.funcs[fr.fn]?=some fn->unwind Q main fr cs none w=GStep.after (seen Q fr.fn ((results fn fr.tmps).runT Q w #[]).2) (match ((results fn fr.tmps).runT Q w #[]).1 with
    |.ok v w=>doReturn Q main fr cs none v w
    |.halt (.stuck s) w=>.ended (.stuck s (fr.pos Q)) w
    |.halt _ w=>.ended (.stuck "return: the result variables cannot be read" (fr.pos Q)) w):=λQ w hq=>by simp only[unwind,hd,hm,hq];rfl
   rw[e2 P A a6] at hg
   rcases hr:(results fn fr.tmps).runT P A #[] with ⟨r,es0⟩
   rw[hr] at hg
   cases r with
   |halt x w=>cases x<;>simp[GStep.after] at hg
   |ok v A1=>
    dsimp only at hg
    cases ba:doReturn P main fr cs none v A1 with
    |go g1 w1 es1=>
     rw[ba] at hg;simp only[GStep.after] at hg;obtain⟨caller,rest,rfl,rfl,rfl,rfl,hQ⟩:=Fs ao hn h9 ba;rw[GStep.go.injEq] at hg;obtain⟨rfl,rfl,rfl⟩:=hg;rw[mU]
     refine wJ hf hl (Mx hk fn fr.tmps) hr rfl rfl rfl (.inr (.inl ⟨rfl,caller,v,rfl,rfl,ao⟩)) λB' hb=>?_
     rw[e2 P' B aq,hb];dsimp only;rw[hQ];rfl
    |_=>rw[ba] at hg;simp only[GStep.after] at hg;cases hg
 .rw[hd] at bh;obtain⟨b,rfl⟩:=bh d jB
  have e2:∀(Q:Program)(w:World),unwind Q main fr cs none w=GStep.after (seen Q fr.fn ((Instr.takeDeferred b).runT Q w #[]).2) (match ((Instr.takeDeferred b).runT Q w #[]).1 with
   |.ok calls w=>.go { frame:={ fr with defers:=calls++ds },callers:=cs,status:=.running,dying:=none } w
   |.halt _ w=>.ended (.stuck "the deferred calls of a range-over-func loop have been taken" (fr.pos Q)) w):=λQ w=>by simp only[unwind,hd];rfl
  rw[e2] at hg
  rcases hr:(Instr.takeDeferred b).runT P A #[] with ⟨r,es0⟩
  rw[hr] at hg
  cases r with
  |halt x w=>trivial
  |ok calls A1=>
   simp only[GStep.after] at hg;rw[GStep.go.injEq] at hg;obtain⟨rfl,rfl,rfl⟩:=hg;rw[mU];obtain⟨_,_,hc⟩:=AL hl (Fu b) hr;subst hc
   refine wJ hf hl ((Fu b).mono (λ_ h=>h) λ_ _ h=>h.1) hr rfl rfl rfl (.inl ⟨.inl ⟨rfl,rfl⟩,.inl ⟨rfl,hf.todo,hf.kind,.inl ⟨hn,λd bo=>bh d (fw _ (by simpa using bo)),ao⟩,hf.mode,hf.fn⟩⟩) λB' hb=>?_
   rw[e2,hb];rfl
theorem Fv{main:Bool}(hk:kE P P' (Cc P P') bad){fr:Frame}{cs:List Frame}{A B:World}(hf:dG P P' fr)(h9:main=true\/cs≠[])(hl:Lk (Cc P P') S A B){g':Goroutine}{A':World}{es:Array Event}(hg:stepG P main (G fr cs) A=.go g' A' es):mB P P' bad S fr cs A B g' A' es (stepG P' main (G fr cs) B):=by
 cases hm:fr.mode with
 |run=>
  have e:∀(Q:Program)(w:World),stepG Q main (G fr cs) w=stepG.exec Q main true fr cs none w:=λQ w=>by simp only[stepG,G,hm]
  rw[e] at hg ⊢;exact Mw hk hf hm h9 hl hg
 |returning=>
  have e:∀(Q:Program)(w:World),stepG Q main (G fr cs) w=unwind Q main fr cs none w:=λQ w=>by simp only[stepG,G,hm]
  rw[e] at hg ⊢;exact My hk hf hm h9 hl hg
 |panicking ch=>exact absurd hm (hf.mode ch)
end
end Go.Fc
