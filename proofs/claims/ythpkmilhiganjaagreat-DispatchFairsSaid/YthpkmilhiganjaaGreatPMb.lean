/- Lemmas. -/
import Derived.Test.YthpkmilhiganjaaGreatPMa
set_option linter.all false
set_option maxHeartbeats 32000000
set_option maxRecDepth 100000
namespace Go.Fc
open Go
def Calm(P:Program){α:Type}(s:Sem α):Prop:=∀w es,∃b,s.runT P w es=(.ok b w,es)
section
variable{P P':Program}{C:Cx}(h:Kin P P')
include h
theorem E6(b:Bool)(d:Nat):∀(t:TypeId),gR P d t=true->∀(n:Nat)(x:Value),RE P P' C (Instr.checkKey b n t x) (Instr.checkKey b n t x):=by
 induction d with
 |zero=>intro t ht;cases ht
 |succ d ih=>
  intro t ht n x
  cases n with
  |zero=>exact dG _ _
  |succ n=>
   unfold gR at ht;unfold Instr.checkKey
   rcases hu:P.underlying t with _|td
   .rw[hu] at ht;cases ht
   rw[hu] at ht;refine jZ h hu ?_
   cases td with
   |int k=>cases x<;>exact bQ _
   |string=>cases x<;>exact bQ _
   |bool=>cases x<;>exact bQ _
   |slice e=>cases x<;>exact bQ _
   |array len e=>
    have hx:=ih e ht n
    cases x<;>first|exact b8 _ _|skip
    dsimp only
    repeat' first|exact bQ _|exact hx _|exact gJ h _|exact nO h _ _ _|refine bS ?_ λ_=>?_|refine Al _ _ (λ_ _=>?_) _ _|split|dsimp only
   |_=>cases ht
theorem E7{d:Nat}{t:TypeId}(ht:gR P d t=true)(k:Value):∀(es:List MapEntry)(i:Nat),RE P P' C (Instr.findAsking t k es i) (Instr.findAsking t k es i)
 |[],_=>bQ _
 |e::es,i=>by
  unfold Instr.findAsking
  refine bS (Am h d t ht _ _ _) λb=>?_
  split
  .exact bQ _
  .exact E7 ht k es _
theorem E8{d:Nat}{t:TypeId}(ht:gR P d t=true)(k:Value)(es:List MapEntry):RE P P' C (Instr.findKey t k es) (Instr.findKey t k es):=by
 unfold Instr.findKey
 refine bS (fp h t) λtd=>?_
 split
 .exact bQ _
 .exact E7 h ht _ _ _
omit h in
theorem Mo(r:Nat){α:Type}(m:String){f g:Array MapEntry->Nat->Sem α}{D:α->Prop}{Q:α->α->Prop}(hf:∀es c,RT P P' C D Q (f es c) (g es c)):RT P P' C D Q (getObj r >>= λo=>match o with | .map es c=>f es c|_=>stuck m) (getObj r >>= λo=>match o with | .map es c=>g es c|_=>stuck m):=by
 refine nP r (λo ho=>?_) (λo ho=>?_)
 .cases o<;>first|exact hf _ _|exact b8 _ _
 .cases o<;>first|exact absurd trivial ho|exact b8 _ _
theorem Mp{d:Nat}{t key elem:TypeId}(hm:P.underlying t=some (.map key elem))(hk:gR P d key=true)(x i:Value)(ok:Bool):RE P P' C (Instr.lookup t x i ok) (Instr.lookup t x i ok):=by
 unfold Instr.lookup;refine jZ h hm ?_;dsimp only
 have tail:∀es:Array MapEntry,RE P P' C (do
  Instr.checkKey es.isEmpty 10000 key i
  let (v,b) <-match <-Instr.findKey key i es.toList with
   |some (_,v)=>pure (v,true)
   |none=>pure (<-zeroValue elem,false)
  pure (if ok then Value.tuple #[v,.bool b] else v)) (do
  Instr.checkKey es.isEmpty 10000 key i
  let (v,b) <-match <-Instr.findKey key i es.toList with
   |some (_,v)=>pure (v,true)
   |none=>pure (<-zeroValue elem,false)
  pure (if ok then Value.tuple #[v,.bool b] else v)):=λes=>by
  repeat' first|exact bQ _|exact E6 h _ d _ hk _ _|exact E8 h hk _ _|exact oR h _|refine bS ?_ λ_=>?_|split|dsimp only
 cases x with
 |map r=>
  cases r with
  |none=>grind
  |some r=>
   refine nP r (λo ho=>?_) (λo ho=>?_)
   .cases o<;>first|exact tail _|exact bS (bQ _) tail|exact b8 _ _|exact bS (b8 _ _) tail
   .cases o<;>first|exact absurd trivial ho|exact b8 _ _|exact bS (b8 _ _) tail
 |_=>exact bS (b8 _ _) λes=>tail es
theorem Mq{d:Nat}{t key elem:TypeId}(hm:P.underlying t=some (.map key elem))(hk:gR P d key=true)(x i v:Value):RE P P' C (Instr.mapUpdate t x i v) (Instr.mapUpdate t x i v):=by
 unfold Instr.mapUpdate;refine jZ h hm ?_;dsimp only
 cases x with
 |map r=>
  cases r with
  |none=>exact gK h _
  |some r=>
   dsimp only
   refine Mo r _ λes c=>?_
   refine bS (E6 h _ d _ hk _ _) λ_=>bS (E8 h hk _ _) λo=>?_
   cases o with
   |none=>exact oQ _ trivial
   |some o=>
    unfold Instr.keyThatStays
    repeat' first|exact bQ _|exact oQ _ trivial|exact jX _|refine bS ?_ λ_=>?_|split|dsimp only
 |_=>exact b8 _ _
omit h in
theorem Mr(s:FloatKind)(b:Nat)(k:IntKind):RE P P' C (Conv.floatToInt s b k) (Conv.floatToInt s b k):=by
 unfold Conv.floatToInt
 repeat' first|exact bQ _|exact b8 _ _|exact dG _ _|exact jX _|refine bS ?_ λ_=>?_|split|dsimp only
omit h in
theorem Ms(e:TypeId)(x:ByteArray):RE P P' C (Conv.stringToBytes e x) (Conv.stringToBytes e x):=by
 unfold Conv.stringToBytes
 refine bS (jX _) λcap=>?_
 dsimp only;generalize (Array.map (λb:UInt8=>Value.int IntKind.u8 ↑b.toNat) x.data)++Array.replicate (cap-x.size) (Value.int .u8 0)=c
 have key:∀(p:Program)(w:World)(es:Array Event),(do
  let a <-newRow e c
  markStringish a
  pure (Value.slice (some a) x.size cap):Sem Value).runT p w es=(Sem.pure (Value.slice (some ⟨w.heap.size,0,none⟩) x.size cap)).runT p { w with heap:=w.heap.push (.cells c e (c.size,c.size+1))} es:=by
  intro p w es
  have hm:(w.heap.push (.cells c e)).modify w.heap.size (fun | .cells c' elem (lo,hi)=>.cells c' elem (if lo==hi then (c.size,c.size+1) else (min lo c.size,max hi (c.size+1)))|o=>o)=w.heap.push (.cells c e (c.size,c.size+1)):=by
   apply Jy;intro i;rw[fB,pL,pL];by_cases hi:i=w.heap.size
   .subst hi;simp
   .rw[bN hi,bN hi,bN (gH hi)]
  have c8:World.shape? { w with heap:=w.heap.push (.cells c e)} w.heap.size=some (e,c.size):=by simp[World.shape?]
  have bt:World.freeze { w with heap:=w.heap.push (.cells c e)} ⟨w.heap.size,c.size,none⟩ 1 = { w with heap:=w.heap.push (.cells c e (c.size,c.size+1))} :=
   congrArg (λh=>({ w with heap:=h }:World)) hm
  have h1:(newRow e c).runT p w es=(.ok ⟨w.heap.size,0,none⟩ { w with heap:=w.heap.push (.cells c e)},es):=rfl
  have h2:(markStringish ⟨w.heap.size,0,none⟩).runT p { w with heap:=w.heap.push (.cells c e)} es=(.ok () { w with heap:=w.heap.push (.cells c e (c.size,c.size+1))},es):=by
   unfold markStringish;show (Sem.shape _ _:Sem Unit).runT _ _ _=_;simp only[Sem.runT];rw[c8,<-bt];rfl
  simp_all
 exact .oY (.cells c e (c.size,c.size+1)) _ _ (λr=>.pure (.slice (some ⟨r,0,none⟩) x.size cap)) (λr=>.pure (.slice (some ⟨r,0,none⟩) x.size cap)) trivial key key λr=>.pure _ _ rfl
theorem Mt{src dst e:TypeId}(hs:P.underlying src=some .string)(hd:P.underlying dst=some (.slice e))(he:P.underlying e=some (.int .u8))(x:Value):RE P P' C (convert src dst x) (convert src dst x):=by
 unfold convert;refine jZ h hs (jZ h hd ?_)
 cases x<;>(try dsimp only)<;>first|exact jZ h he (Ms _ _)|(repeat' first|contradiction|exact dG _ _|exact b8 _ _|split)
theorem Mu{src dst:TypeId}{k k':IntKind}(hs:P.underlying src=some (.int k'))(hd:P.underlying dst=some (.int k))(x:Value):RE P P' C (convert src dst x) (convert src dst x):=by
 unfold convert;refine jZ h hs (jZ h hd ?_)
 cases x<;>(try dsimp only)<;>repeat' first|contradiction|exact bQ _|exact Mr _ _ _|exact dG _ _|exact b8 _ _|split
omit h in
theorem Aq(v:Value):RE P P' C (Builtin.lenOf v) (Builtin.lenOf v):=by
 unfold Builtin.lenOf
 repeat' first|exact bQ _|exact b8 _ _|split
omit h in
theorem Ar(s n:Nat)(v:Value):RE P P' C (Builtin.firstCells s n v) (Builtin.firstCells s n v):=by
 unfold Builtin.firstCells
 repeat' first|exact bQ _|exact b8 _ _|exact EE _ _|split
omit h in
theorem Calm.pure{α:Type}(a:α):Calm P (Pure.pure a:Sem α):=λw es=>⟨a,rfl⟩
omit h in
theorem Calm.shape(r:Nat):Calm P (Go.shape r):=λw es=>⟨_,rfl⟩
omit h in
theorem Calm.frozen(a:Addr):Calm P (Go.frozen a):=λw es=>⟨_,rfl⟩
omit h in
theorem Calm.bind{α β:Type}{s:Sem α}{f:α->Sem β}(hs:Calm P s)(hf:∀a,Calm P (f a)):Calm P (s >>= f):=λw es=>by
 obtain⟨a,ha⟩:=hs w es;obtain⟨b,hb⟩:=hf a w es;simp_all
omit h in
theorem Mv{α β:Type}{s:Sem α}{f:α->Sem β}{t:Sem β}{D:β->Prop}{Q:β->β->Prop}(hs:Calm P s)(hf:∀a w es,NP w->oX w ((f a).runT P w es).1):RT P P' C D Q (s >>= f) t:=by
 refine .bad _ _ λw es hn=>?_
 have e2:(s >>= f).runT P w es=(s.bind f).runT P w es:=rfl;rw[e2,Sem.runT_bind'];obtain⟨b,hb⟩:=hs w es;rw[hb];simp_all
omit h in
theorem E9{β:Type}{x n m:Nat}{o:Option Addr}{v:Value}{f:Bool->Sem β}{t:Sem β}(hf:∀a w es,NP w->oX w ((f a).runT P w es).1):RE P P' C (Builtin.mayShare x n m o v >>= f) t:=by
 have key:Calm P (Builtin.mayShare x n m o v):=by
  unfold Builtin.mayShare Builtin.holdsCells
  repeat' first|exact Calm.pure _|exact Calm.shape _|exact Calm.frozen _|refine Calm.bind ?_ λ_=>?_|split|dsimp only
 exact Mv key hf
theorem Mw(ts:Array TypeId)(t:TypeId)(args:Array Value):RE P P' C (Builtin.append_ ts t args) (Builtin.append_ ts t args):=by
 unfold Builtin.append_;split
 .refine bS (fp h _) λtd=>?_
  split
  .split
   .refine bS (gJ h _) λn=>?_
    have z:∀(f:Bool->Sem Value),(∀b,RE P P' C (f b) (f b))->RE P P' C (do
     let zeros <-match ts[1]? with
      |some xType=>do pure ((<-Go.underlying xType) matches .int _)
      |none=>pure false
     f zeros) (do
     let zeros <-match ts[1]? with
      |some xType=>do pure ((<-Go.underlying xType) matches .int _)
      |none=>pure false
     f zeros):=λf hf=>by
     split
     .exact bS (fp h _) λ_=>bS (bQ _) hf
     simp_all
    refine z _ λb=>?_
    cases b
    .simp only[dB,cP,ju,cz]
     repeat' first|contradiction|exact bQ _|exact b8 _ _|exact dG _ _|exact gK h _|exact jX _|exact fp h _|exact gJ h _|exact oR h _|exact mW h _|exact tI _|exact Aq _|exact Ar _ _ _|exact qd _ _ _|exact Ae _|exact tH _ _|(refine E9 ?_;intro a w es hn;cases a<;>exact⟨trivial,id⟩)|refine bS ?_ λ_=>?_|split|dsimp only
    .simp only[Bool.true_eq_false,cz,ig,dB,cP]
     repeat' first|contradiction|exact bQ _|exact b8 _ _|exact dG _ _|exact gK h _|exact jX _|exact fp h _|exact gJ h _|exact oR h _|exact mW h _|exact tI _|exact Aq _|exact Ar _ _ _|exact qd _ _ _|exact Ae _|exact tH _ _|(refine E9 ?_;intro a w es hn;cases a<;>exact⟨trivial,id⟩)|refine bS ?_ λ_=>?_|split|dsimp only
   .exact b8 _ _
  .exact b8 _ _
 .exact b8 _ _
theorem Mx(ts:Array TypeId)(t:TypeId)(args:Array Value):RE P P' C (Builtin.copy_ ts t args) (Builtin.copy_ ts t args):=by
 unfold Builtin.copy_
 repeat' first|exact bQ _|exact b8 _ _|exact fp h _|exact gJ h _|exact Aq _|exact Ar _ _ _|exact qd _ _ _|refine bS ?_ λ_=>?_|split|dsimp only
theorem My(ts:Array TypeId)(t:TypeId)(args:Array Value):RE P P' C (Builtin.clear_ ts t args) (Builtin.clear_ ts t args):=by
 unfold Builtin.clear_
 repeat' first|exact bQ _|exact b8 _ _|exact fp h _|exact oR h _|exact qd _ _ _|exact oQ _ trivial|(refine nP _ (λo ho=>?_) (λo ho=>?_)<;>cases o<;>first|exact absurd trivial ho|exact b8 _ _|exact bS (oQ _ trivial) λ_=>bQ _|exact bS (b8 _ _) λ_=>bQ _)|refine bS ?_ λ_=>?_|split|dsimp only
theorem Mz{ts:Array TypeId}{t0:TypeId}{td:TypeDesc}(ht:ts[0]?=some t0)(hu:P.underlying t0=some td)(hd:(∃e,td=.slice e)\/td=.string)(t:TypeId)(args:Array Value):RE P P' C (Builtin.len_ ts t args) (Builtin.len_ ts t args):=by
 unfold Builtin.len_;rw[ht]
 cases args[0]? with
 |none=>exact b8 _ _
 |some x=>
  refine jZ h hu ?_
  rcases hd with ⟨e,rfl⟩|rfl<;>cases x<;>first|exact bQ _|exact b8 _ _
omit h in
theorem MA(a b:Value):RE P P' C (Builtin.max2 a b) (Builtin.max2 a b):=by
 unfold Builtin.max2
 repeat' first|exact bQ _|exact b8 _ _|exact dG _ _|exact jX _|exact Ag _ _ _|exact wq _|refine bS ?_ λ_=>?_|split|dsimp only
omit h in
theorem MB(a b:Value):RE P P' C (Builtin.min2 a b) (Builtin.min2 a b):=by
 unfold Builtin.min2
 repeat' first|exact bQ _|exact b8 _ _|exact dG _ _|exact jX _|exact Ag _ _ _|exact wq _|refine bS ?_ λ_=>?_|split|dsimp only
omit h in
theorem As(f:Value->Value->Sem Value)(hf:∀a b,RE P P' C (f a b) (f a b)):∀(l:List Value)(a:Value),RE P P' C (l.foldlM f a) (l.foldlM f a)
 |[],a=>by rw[List.foldlM_nil];exact bQ _
 |b::l,a=>by rw[List.foldlM_cons];exact bS (hf a b) λc=>As f hf l c
omit h in
theorem MD(ts:Array TypeId)(t:TypeId)(args:Array Value):RE P P' C (Builtin.max_ ts t args) (Builtin.max_ ts t args):=by
 unfold Builtin.max_;split
 .exact b8 _ _
 .exact As _ MA _ _
omit h in
theorem ME(ts:Array TypeId)(t:TypeId)(args:Array Value):RE P P' C (Builtin.min_ ts t args) (Builtin.min_ ts t args):=by
 unfold Builtin.min_;split
 .exact b8 _ _
 .exact As _ MB _ _
end
structure j7(P P':Program)(C:Cx)(bad:Nat->Prop):Prop where
 kin:Kin P P'
 funcs:∀f,(P.funcs[f]?=none/\P'.funcs[f]?=none)\/(C.xf f/\∃fn c a9 c',P.funcs[f]?=some fn/\(fn.name == "runtime.NumGoroutine")=false/\fn.body=some c/\P'.funcs[f]?=some a9/\(a9.name == "runtime.NumGoroutine")=false/\a9.body=some c')\/(bad f/\∃fn c,P.funcs[f]?=some fn/\(fn.name == "runtime.NumGoroutine")=false/\fn.body=some c) \/
  ∃fn c,P.funcs[f]?=some fn/\P'.funcs[f]?=some fn/\(fn.name == "runtime.NumGoroutine")=false/\fn.body=some c/\C.code c/\C.fn f
def okN(C:Cx)(P:Program):Next->Prop
 |.value _ | .skip=>True
 |.enter f _=>(∃fn c,P.funcs[f]?=some fn/\fn.body=some c/\C.code c/\C.fn f)\/C.xf f
 |.round _ f _ a b=>C.code a/\C.code b/\C.fn f
 |_=>False
def dmN(bad:Nat->Prop):Next->Prop
 |.enter f _=>bad f
 |.spawn _=>True
 |_=>False
section
variable{P P':Program}{C:Cx}{bad:Nat->Prop}
abbrev RN(P P':Program)(C:Cx)(bad:Nat->Prop)(s t:Sem Next):Prop:=RT P P' C (dmN bad) (λa b=>a=b/\okN C P a) s t
theorem fG{s t:Sem Value}(h:RE P P' C s t):RN P P' C bad (s >>= λx=>pure (.value x)) (t >>= λx=>pure (.value x)):=bS h λv=>.pure _ _ ⟨rfl,trivial⟩
theorem At{s t:Sem Unit}(h:RE P P' C s t):RN P P' C bad (s >>= λ_=>pure .skip) (t >>= λ_=>pure .skip):=bS h λv=>.pure _ _ ⟨rfl,trivial⟩
theorem qe(v:Value):RN P P' C bad (pure (.value v)) (pure (.value v)):=.pure _ _ ⟨rfl,trivial⟩
variable(h:j7 P P' C bad)
include h
theorem Ax(f:FuncId)(args:Array Value):RN P P' C bad (callFunc f args) (callFunc f args):=by
 unfold callFunc;refine iL ?_
 rcases h.funcs f with ⟨e1,e2⟩|⟨hx,fn,c,a9,c',e1,hn,hc,e2,bw,bo⟩|⟨hb,fn,c,e1,hn,hc⟩|⟨fn,c,e1,e2,hn,hc,hC⟩
 .rw[e1,e2];exact b8 _ _
 .rw[e1,e2];simp only[hn,hc,bw,bo,Jz,dB,cP];exact .pure _ _ ⟨rfl,.inr hx⟩
 .rw[e1];simp only[hn,hc,Jz,dB,cP];exact .nS _ _ hb
 .rw[e1,e2];simp only[hn,hc,Jz,dB,cP];exact .pure _ _ ⟨rfl,.inl ⟨fn,c,e1,hc,hC⟩⟩
theorem Ay(t:TypeId)(x:Place):RE P P' C (x.get t) (x.get t):=by
 cases x with
 |val v=>exact bQ _
 |var a=>exact wj h.kin t a
theorem Az:∀(l:List FieldStep)(t:TypeId)(x:Place),RE P P' C (follow l t x) (follow l t x)
 |[],t,x=>bQ _
 |s::r,t,x=>by
  unfold follow
  repeat' first|exact bQ _|exact b8 _ _|exact fp h.kin _|exact wx h.kin _|exact Ay h _ _|exact ET h.kin _ _|exact nO h.kin _ _ _|exact Az r _ _|refine bS ?_ λ_=>?_|split|dsimp only
theorem MF(ts:Array TypeId)(t:TypeId)(a b c:Value):RE P P' C (Builtin.ssaWrapNilChk_ ts t #[a,b,c]) (Builtin.ssaWrapNilChk_ ts t #[a,b,c]):=by
 cases b<;>first|exact b8 _ _|skip
 cases c<;>first|exact b8 _ _|skip
 cases a<;>first|exact b8 _ _|skip
 rename_i p
 cases p with
 |some x=>exact bQ _
 |none=>
  unfold Builtin.ssaWrapNilChk_;dsimp only
  repeat' first|exact bQ _|exact b8 _ _|exact dG _ _|exact gK h.kin _|exact jX _|exact fp h.kin _|exact mW h.kin _|refine bS ?_ λ_=>?_|split|dsimp only
theorem Fa(t:TypeId)(x:Place)(b:Bool)(o:Option String):RE P P' C (receiverAt t x b o) (receiverAt t x b o):=by
 unfold receiverAt
 repeat' first|exact bQ _|exact b8 _ _|exact fp h.kin _|exact wx h.kin _|exact Ay h _ _|exact wj h.kin _ _|exact MF h _ _ _ _ _|refine bS ?_ λ_=>?_|split|dsimp only
theorem MG(t:TypeId)(v:Value)(l:Array FieldStep)(b:Bool):RE P P' C (receiverVia t v l b) (receiverVia t v l b):=by
 unfold receiverVia
 exact bS (Az h _ _ _) λx=>Fa h _ _ _ _
theorem Fb:∀(n:Nat)(t:TypeId)(v:Value)(m:String),RE P P' C (method n t v m) (method n t v m)
 |0,_,_,_=>dG _ _
 |n+1,t,v,m=>by
  unfold method
  repeat' first|exact bQ _|exact b8 _ _|exact gK h.kin _|exact mW h.kin _|exact Az h _ _ _|exact Ay h _ _|exact Fa h _ _ _ _|exact Fb n _ _ _|refine bS ?_ λ_=>?_|split|dsimp only
theorem Fe(x:Value)(m:String)(args:Array Value):RN P P' C bad (callMethod x m args) (callMethod x m args):=by
 have kt:P'.types=P.types:=by obtain⟨fs,rfl⟩:=h.kin.eq;rfl
 unfold callMethod;split
 .refine iL ?_;rw[kt]
  exact bS (Fb h _ _ _ _) λy=>Ax h _ _
 .exact gK h.kin _
 .exact b8 _ _
end
def j8(P:Program)(o:Oper):Bool:=match o.op with
 |.move _ | .assign _ | .pick .. | .alloc .. | .box .. | .build .. | .buildSlice .. | .load .. | .store .. | .nilCheck _ | .unOp .. | .makeInterface .. | .makeFunc .. | .makeMap .. | .makeSlice .. | .slice .. | .fieldAddr .. | .field .. | .indexAddr .. | .index .. | .extract .. | .panic _=>true
 |.binOp op t ..=>!(op == .eql || op == .neq) || nk P t
 |.convert s d _=>match P.underlying s,P.underlying d with|some (.int _),some (.int _)=>true|some .string,some (.slice e)=>(match P.underlying e with|some (.int .u8)=>true|_=>false)|_,_=>false
 |.lookup t .. | .mapUpdate t ..=>match P.underlying t with|some (.map k _)=>gR P 10 k|_=>false
 |.call c=>match c.callee with
  |.builtin .append | .builtin .copy | .builtin .clear | .builtin .max | .builtin .min=>true
  |.builtin .len=>match c.argTypes[0]? with
   |some t=>match P.underlying t with|some (.slice _)|some .string=>true|_=>false
   |none=>false
  |.value _=>true
  |_=>false
 |.go c=>match c.callee with
  |.value _=>true
  |_=>false
 |_=>false
section
variable{P P':Program}{C:Cx}{bad:Nat->Prop}(h:j7 P P' C bad)
theorem MH{w:World}(h:ND w)(c:Array Value)(e:TypeId):ND { w with heap:=w.heap.push (.cells c e)}:=by
 intro b ds hb;simp only[pL] at hb;split at hb
 .cases hb
 .exact h b ds hb
theorem MJ{α:Type}(w:World)(es:Array Event):oX w ((runtimePanic .panicNil:Sem α).runT P w es).1:=by
 unfold runtimePanic elemOf newVar newRow Go.underlying newObj;simp only[bind,Sem.bind,program,Sem.runT]
 rcases P.underlying P.rt.panicNilError with _|td
 .exact⟨trivial,id⟩
 .cases td<;>first|exact⟨trivial,id⟩|exact⟨trivial,λh=>MH h _ _⟩
theorem MK(w:World)(c:Sys):(w.sys c).2.heap=w.heap:=by
 have ask:∀{α:Type}(a:Ask α)(w:World),(w.ask a).2.heap=w.heap:=by
  intro α a
  induction a with
  |done x=>intro w;rfl
  |ask what range k ih=>
   intro w;unfold World.ask;dsimp only;split
   .exact ih _ w
   .exact ih _ _
 unfold World.sys;have:=ask (Kernel.perform c w.os) w
 grind
theorem Ff{w:World}(h:ND w)(c:Sys):ND (w.sys c).2:=λb ds hb=>h b ds (by rw[MK] at hb;exact hb)
theorem ML{β:Type}{w w1:World}{r:Result β}(h:ND w->ND w1)(q:oX w1 r):oX w r:=by
 cases r with
 |ok a b=>exact q
 |halt a b=>exact⟨q.1,λx=>q.2 (h x)⟩
theorem MM{β:Type}(f:Int->Sem β)(hf:∀a w es,oX w ((f a).runT P w es).1)(w:World)(es:Array Event):oX w ((Instr.panicnil >>= f).runT P w es).1:=by
 have e2:(Instr.panicnil >>= f).runT P w es=(Instr.panicnil.bind f).runT P w es:=rfl;rw[e2,Sem.runT_bind']
 rcases hr:Instr.panicnil.runT P w es with ⟨r,b'⟩
 unfold Instr.panicnil at hr;simp only[bind,Sem.bind,program,sys,Sem.runT,pure] at hr
 rcases hx:(w.sys .env).1<;>rw[hx] at hr<;>simp only[stuck,Sem.bind,Sem.runT,dz] at hr<;>obtain⟨rfl,rfl⟩:=hr<;>first
  |exact⟨trivial,λh=>Ff h _⟩
  |exact ML (λh=>Ff h _) (hf _ _ _)
theorem MN(v:Value)(t:Sem Value){D:Value->Prop}{Q:Value->Value->Prop}:RT P P' C D Q (Instr.panic v) t:=by
 unfold Instr.panic;split
 .exact oP _ _
 .refine .bad _ _ λw es hn=>MM _ (λn w es=>?_) w es
  split
  .exact⟨trivial,id⟩
  .exact MJ w es
 .exact b8 _ _
include h
theorem Fg:∀(l:List FieldStep)(t:TypeId)(x:Option Value),RE P P' C (followBlind l t x) (followBlind l t x)
 |[],t,x=>bQ _
 |s::r,t,x=>by
  unfold followBlind
  repeat' first|exact bQ _|exact b8 _ _|exact fp h.kin _|exact nO h.kin _ _ _|exact Fg r _ _|refine bS ?_ λ_=>?_|split|dsimp only
theorem Fh:∀(n:Nat)(t:TypeId)(v:Value)(m:String),RE P P' C (nilAhead n t v m) (nilAhead n t v m)
 |0,_,_,_=>bQ _
 |n+1,t,v,m=>by
  unfold nilAhead
  repeat' first|exact bQ _|exact b8 _ _|exact mW h.kin _|exact Fg h _ _ _|exact fp h.kin _|exact Fh n _ _ _|refine bS ?_ λ_=>?_|split|dsimp only
omit h in
theorem MP(l:Nat)(args:Array Value):RN P P' C bad (Instr.yield l args) (Instr.yield l args):=by
 unfold Instr.yield Instr.getLoop
 have key:∀r:Loop,C.code r.assign->C.code r.body->C.fn r.fn->RN P P' C bad (do
  if args.size≠r.params.size then stuck "yield: the wrong number of arguments"
  pure (Next.round l r.fn ((r.params.zip args).foldl (λtmps (t,a)=>tmps.setIfInBounds t a) r.tmps) r.assign r.body)) (do
  if args.size≠r.params.size then stuck "yield: the wrong number of arguments"
  pure (Next.round l r.fn ((r.params.zip args).foldl (λtmps (t,a)=>tmps.setIfInBounds t a) r.tmps) r.assign r.body)):=λr h1 h2 h3=>by
  dsimp only;split
  .exact bS (b8 _ _) λ_=>.pure _ _ ⟨rfl,h1,h2,h3⟩
  .exact .pure _ _ ⟨rfl,h1,h2,h3⟩
 refine jW (M:=λa b=>a=b/\C.code a.assign/\C.code a.body/\C.fn a.fn) ?_ (λa b a5=>ak);refine nP l (λo ho=>?_) (λo ho=>?_)
 .cases o<;>first|exact b8 _ _|exact .pure _ _ ⟨rfl,ho.1,ho.2.1,ho.2.2.1⟩
 .cases o<;>first|exact b8 _ _|exact absurd trivial ho
theorem MQ(f:Fn)(cap args:Array Value):RN P P' C bad (invoke (.fn f cap) args) (invoke (.fn f cap) args):=by
 unfold invoke
 cases f with
 |func f=>exact Ax h _ _
 |method m=>
  dsimp only;split
  .exact Fe h _ _ _
  .exact b8 _ _
 |methodOf t m=>
  dsimp only;split
  .exact bS (fp h.kin _) λd=>Fe h _ _ _
  .exact b8 _ _
 |via t p f b=>
  dsimp only;split
  .exact bS (MG h _ _ _ _) λr=>Ax h _ _
  .exact b8 _ _
 |yield l=>exact MP _ _
theorem MR{b:Builtin}{c:Call}{o:Oper}(hc:c.callee=.builtin b)(he:o.op=.call c)(hk:j8 P o=true)(t:TypeId)(cs:Array Bool)(args:Array Value):RN P P' C bad (builtin b c.argTypes t cs args) (builtin b c.argTypes t cs args):=by
 unfold j8 at hk;rw[he] at hk;simp only[hc] at hk;unfold builtin
 cases b<;>first|cases hk|skip
 .exact fG (Mw h.kin _ _ _)
 .exact fG (My h.kin _ _ _)
 .exact fG (Mx h.kin _ _ _)
 .revert hk
  rcases hx:c.argTypes[0]? with _|t0
  .simp
  .rcases hu:P.underlying t0 with _|td
   .simp_all
   .intro hk;simp only[hu] at hk;refine fG (Mz h.kin hx hu ?_ _ _)
    cases td<;>first|exact .inl ⟨_,rfl⟩|exact .inr rfl|(cases hk;done)
 .exact fG (MD _ _ _)
 .exact fG (ME _ _ _)
theorem Fj{o:Oper}(ho:j8 P o=true)(ρ:Operand->Value):RN P P' C bad (execOp ρ o) (execOp ρ o):=by
 have kt:P'.types=P.types:=by obtain⟨fs,rfl⟩:=h.kin.eq;rfl
 have hk:=ho;unfold j8 at hk;unfold execOp
 split at hk<;>rename_i hx<;>(try rw[hx])<;>dsimp only
 .exact qe _
 .exact qe _
 .exact bS (wq _) λb=>qe _
 .exact fG (L4 h.kin _ _)
 .exact fG (L5 _ _)
 .exact fG (L6 h.kin _ _)
 .exact fG (L8 h.kin _ _ _)
 .exact fG (L9 h.kin _ _)
 .exact At (Ma h.kin _ _ _)
 .rename_i x;split
  .exact gK h.kin _
  .exact gK h.kin _
  .exact gK h.kin _
  .split
   .exact gK h.kin _
   .refine iL ?_;rw[kt]
    refine bS (Fh h _ _ _ _) λb=>?_
    split
    .exact bS (dG _ _) λ_=>qe _
    .exact qe _
   .exact qe _
  .exact qe _
 .exact fG (Lw _ _)
 .exact fG (Mg h.kin _ _)
 .exact fG (bQ _)
 .exact fG (Mh h.kin _ _)
 .exact fG (Mi h.kin _ _ _)
 .exact fG (Mn h.kin _ _ _ _ _)
 .exact fG (Mb h.kin _ _ _)
 .exact fG (Mf h.kin _ _ _)
 .exact fG (Mc h.kin _ _ _)
 .exact fG (Md h.kin _ _ _)
 .exact fG (Me _ _)
 .exact RT.bind (M:=λ_ _=>False) (MN _ _) λa b e=>e.elim
 .rename_i op t x y r
  have hp:op=.eql\/op=.neq->nk P t=true:=λe=>by
   rcases e with rfl|rfl<;>simpa using hk
  exact fG (bS (LY h.kin _ _ _ _ hp) λ_=>L3 h.kin _ _ hp)
 .rename_i s d x;split at hk
  .rename_i h1 h2;exact fG (Mu h.kin h1 h2 _)
  .rename_i h1 h2;split at hk
   .rename_i h3;exact fG (Mt h.kin h1 h2 h3 _)
   .cases hk
  .cases hk
 .split at hk
  .rename_i h1;exact fG (Mp h.kin h1 hk _ _ _)
  .cases hk
 .split at hk
  .rename_i h1;exact At (Mq h.kin h1 hk _ _ _)
  .cases hk
 .rename_i c;unfold resolve
  rcases hc:c.callee with f|⟨r,m⟩|b
  .unfold Deferred.ofValue;dsimp only;split
   .rename_i fn first cap hf
    change RT P P' C (dmN bad) _ (invoke (.fn fn cap) (first++c.args.map ρ)) (invoke (.fn fn cap) (first++c.args.map ρ))
    exact MQ h _ _ _
   .change RT P P' C (dmN bad) _ (runtimePanic .nilDeref) (runtimePanic .nilDeref)
    exact gK h.kin _
   .exact RT.bind (M:=λ_ _=>False) (b8 _ _) λa b e=>e.elim
  .simp_all
  .refine RT.bind (M:=λd e=>d=e/\∃cs args,d = { target:=.builtin b c.argTypes o.type cs,args:=args }) (.pure _ _ ⟨rfl,_,_,rfl⟩) λd e bq=>?_
   obtain⟨rfl,cs,args,rfl⟩:=bq;exact MR h hc hx ho _ cs args
 .rename_i c;unfold resolve
  rcases hc:c.callee with f|⟨r,m⟩|b<;>simp only[hc] at hk<;>first|cases hk|skip
  unfold Deferred.ofValue;dsimp only;split
  .exact RT.nS (Next.spawn _) _ (show dmN bad (Next.spawn _) from trivial)
  .exact RT.nS (Next.spawn _) _ (show dmN bad (Next.spawn _) from trivial)
  .exact RT.bind (M:=λ_ _=>False) (b8 _ _) λa b e=>e.elim
 .cases hk
end
end Go.Fc
namespace Go.Fc
open Go Go.Conc
class Xf where
 xf:Nat->Prop
 bot:Nat->Prop
 ds:Nat->List Deferred->Prop
 rng:Bool
variable[Xf]
def codeOk(P:Program):Code->Bool
 |.skip | .ret | .exit _ | .label _ | .refuse _=>true
 |.seq a b | .cond _ a b=>codeOk P a&&codeOk P b
 |.rangeFunc _ _ a b=>Xf.rng&&(codeOk P a&&codeOk P b)
 |.block _ c | .loop c | .scope c=>codeOk P c
 |.region _ ops _=>ops.toList.all (j8 P)
 |.goto _=>false
abbrev Cd(P:Program)(c:Code):Prop:=codeOk P c=true
def Cc(P P':Program):Cx:=⟨Cd P,λf=>(∃fn,P.funcs[f]?=some fn/\P'.funcs[f]?=some fn/\fn.norace=false)/\P.inits.idxOf? f=none,Xf.xf⟩
def qC(P:Program):Item->Prop
 |.code c | .inLoop c | .inScope c=>Cd P c
 |.inRegion ops _=>ops.toList.all (j8 P)=true
 |.inBlock _ | .inRangeFunc _ | .endRangeFunc _ | .beginRound=>True
 |.call .. | .extern ..=>False
structure dw(P P':Program)(fr:Frame):Prop where
 todo:∀it∈fr.todo,qC P it
 kind:fr.kind≠.early
 calm:(fr.kind=.normal/\(∀d∈fr.defers,∃b,d = { target:=.collected b,args:=#[] })/\(Cc P P').fn fr.fn)\/(Xf.bot fr.fn/\fr.mode=.run/\fr.roundOf=none/\Xf.rng=false/\Xf.ds fr.fn fr.defers)
 mode:∀ch,fr.mode≠.panicking ch
 fn:∃fn a9,P.funcs[fr.fn]?=some fn/\P'.funcs[fr.fn]?=some a9/\fn.norace=false/\a9.norace=false
section
variable{P P':Program}{bad:Nat->Prop}{S:Sh}
theorem wz{p:Program}{fn:FuncId}{es:Array Event}:∀e∈seen p fn es,e∈es:=by
 unfold seen;obtain⟨l⟩:=es;simp only[List.foldl_toArray']
 have key:∀(l:List Event)(q:Bool)(kept:Array Event),∀e∈(l.foldl (init:=(q,kept)) λ(q,kept) e=>
  match e.loc with
  |.mark (.extern f)=>(((p.funcs[f]?).any (·.norace)),kept)
  |_=>(q,if q && !e.sync then kept else kept.push e)).2,e∈kept\/e∈l:=by
  intro l
  induction l with
  |nil=>intro q kept e he;exact .inl he
  |cons x l ih=>
   intro q kept e he;simp only[CX] at he;split at he
   .rcases ih _ _ e he with h|h
    .exact .inl h
    .exact .inr (eY _ h)
   .rcases ih _ _ e he with h|h
    .split at h
     .exact .inl h
     .rcases Array.mem_push.1 h with h|h
      .exact .inl h
      .exact .inr (h▸iZ)
    .exact .inr (eY _ h)
 intro e he
 rcases key l _ _ e he with h|h
 .simp at h
 simp_all
theorem tL{p:Program}{fn:FuncId}{f:Func}(hf:p.funcs[fn]?=some f)(hq:f.norace=false){es:Array Event}(he:∀e∈es,∀g,e.loc≠.mark (.extern g)):seen p fn es=es:=by
 unfold seen;dsimp only;rw[hf];simp only[Option.any_some,hq];obtain⟨l⟩:=es;simp only[List.foldl_toArray']
 have key:∀(l:List Event)(kept:Array Event),(∀e∈l,∀g,e.loc≠.mark (.extern g)) ->
  (l.foldl (init:=(false,kept)) λ(q,kept) e=>match e.loc with
  |.mark (.extern f)=>(((p.funcs[f]?).any (·.norace)),kept)
  |_=>(q,if q && !e.sync then kept else kept.push e)).2=kept++l.toArray:=by
  intro l
  induction l with
  |nil=>simp
  |cons x l ih=>
   simp_all
 exact (key l #[] ak).trans ae
theorem wA{fn:FuncId}{f f':Func}(h1:P.funcs[fn]?=some f)(h2:P'.funcs[fn]?=some f')(h3:f.norace=false)(h4:f'.norace=false){es:Array Event}(he:∀e∈es,∀g,e.loc≠.mark (.extern g)):seen P' fn es=seen P fn es:=by
 rw[tL h1 h3 he,tL h2 h4 he]
def Fok(P P':Program)(fr fr':Frame):Prop:=(fr'=fr/\dw P P' fr)\/∃f args,Xf.xf f/\fr=Frame.enter P f args .normal/\fr'=Frame.enter P' f args .normal
def CF(P P':Program)(fr0:Frame)(cs:List Frame)(g':Goroutine)(fr':Frame):Prop:=
 ((g'.callers=cs/\g'.frame.fn=fr0.fn\/∃f1,dw P P' f1/\f1.fn=fr0.fn/\((Cc P P').fn g'.frame.fn\/Xf.xf g'.frame.fn)/\g'.callers=f1::cs)/\Fok P P' g'.frame fr')\/(fr'=g'.frame/\∃(c:Frame)(v:Value),cs=c::g'.callers/\g'.frame=c.finish v/\(Cc P P').fn fr0.fn) \/
 (fr'=g'.frame/\g'.callers=cs/\g'.frame.fn=fr0.fn/\Xf.bot g'.frame.fn/\g'.frame.mode=.returning/\Xf.ds g'.frame.fn g'.frame.defers)
def mh(P P':Program)(bad:Nat->Prop)(S:Sh)(fr0:Frame)(cs:List Frame)(A B:World)(g':Goroutine)(A':World)(es:Array Event)(t:GStep):Prop:=
 (∃f args cs,bad f/\g'.frame=Frame.enter P f args .normal/\g'.callers=cs)\/((∃ch,g'.frame.mode=.panicking ch)\/g'.dying≠none) \/
 ((∀e∈es,S.fj e)->A.drawn<=A'.drawn/\A'.tape=A.tape/\A.heap.size<=A'.heap.size/\g'.status=.running/\g'.dying=none/\g'.offers=none /\
   ((∀j,A.drawn+j<A'.drawn->B.tape (B.drawn+j)=A.tape (A.drawn+j)) ->
     ∃fr2 B',CF P P' fr0 cs g' fr2/\t=.go { g' with frame:=fr2 } B' es/\Lk (Cc P P') S A' B'/\B'.tape=B.tape/\B'.drawn=B.drawn+(A'.drawn-A.drawn)/\Kept es B B'/\∀e∈es,EvT S B' e))
omit [Xf] in
theorem wB(fr:Frame)(v:Value):(fr.finish v).fn=fr.fn:=by unfold Frame.finish;split<;>rfl
theorem dw.finish{fr:Frame}(h:dw P P' fr)(v:Value):dw P P' (fr.finish v):=by
 have ht:=h.todo;unfold Frame.finish;split
 .rename_i ops i rest k e;rw[e] at ht
  exact⟨λit hy=>by
   rcases dU.1 hy with rfl|hy
   .exact ht (.inRegion ops (i::rest)) iZ
   simp_all,h.kind,h.calm,h.mode,h.fn⟩
 .rename_i l k e;rw[e] at ht
  exact⟨λit hy=>by
   rcases dU.1 hy with rfl|hy
   .trivial
   simp_all,h.kind,h.calm,h.mode,h.fn⟩
 .rename_i k e;rw[e] at ht;exact⟨λit hy=>ht it (eY _ hy),h.kind,h.calm,h.mode,h.fn⟩
 .rename_i k e;rw[e] at ht;exact (ht _ iZ).elim
 .rename_i k e;rw[e] at ht;exact (ht _ iZ).elim
 .exact h
theorem wC{S:Sh}{n:World}{e:Event}(h:EvT S n e)(g:FuncId):e.loc≠.mark (.extern g):=by
 rcases h with ⟨a,wr,rfl,_,_⟩|⟨r,wr,sy,rfl,_,_⟩|rfl<;>simp
theorem dw.enter{f:FuncId}{fn:Func}{c:Code}(h1:P.funcs[f]?=some fn)(h2:P'.funcs[f]?=some fn)(hb:fn.body=some c)(hc:Cd P c)(hi:(Cc P P').fn f)(args:Array Value):dw P P' (Frame.enter P f args .normal):=by
 refine⟨λit hy=>?_,by simp[Frame.enter],.inl ⟨rfl,λd hd=>aE,hi⟩,λch=>by simp[Frame.enter],hi.1.imp λfn h=>⟨fn,h.1,h.2.1,h.2.2,h.2.2⟩⟩;simp only[Frame.enter,h1,jk,hb,pP,sV] at hy;subst hy;exact hc
theorem MU{f:FuncId}{fn:Func}(h1:P.funcs[f]?=some fn)(h2:P'.funcs[f]?=some fn)(args:Array Value)(k:CallKind):Frame.enter P' f args k=Frame.enter P f args k:=by
 unfold Frame.enter;rw[h1,h2]
theorem Fl(fr:Frame)(vs:List PanicEntry):∃ch,(fr.raise vs).mode=.panicking ch:=by
 unfold Frame.raise
 split<;>exact⟨_,rfl⟩
theorem wD(hk:j7 P P' (Cc P P') bad){fr:Frame}{cs:List Frame}{A B:World}(hf:dw P P' fr){s:Sem Next}(hs:RN P P' (Cc P P') bad s s)(hl:Lk (Cc P P') S A B){g':Goroutine}{A':World}{es:Array Event}(hg:stepG.apply P true fr cs none s A=.go g' A' es):mh P P' bad S fr cs A B g' A' es (stepG.apply P' true fr cs none s B):=by
 have h8:(fr.kind == .early)=false:=by have:=hf.kind;cases hk:fr.kind<;>first|rfl|trivial
 obtain⟨fn,a9,a6,aq,a',ay⟩:=hf.fn;unfold stepG.apply at hg;simp only[cz,h8,dB,cP] at hg
 rcases hr:s.runT P A #[] with ⟨r,es0⟩
 rw[hr] at hg
 cases r with
 |halt x A1=>
  obtain⟨hc,c4⟩:=JL hs A B #[] x A1 es0 hl hr
  cases x<;>first|exact hc.elim|skip
  .simp only[GStep.after,GStep.go.injEq] at hg;obtain⟨rfl,_,_⟩:=hg;exact .inr (.inl (.inl (Fl fr _)))
  .rename_i u
   cases u<;>first|exact hc.elim|(simp[GStep.after] at hg;done)
  trivial
 |ok n A1=>
  have h':∀d w rs sv k,fr.todo≠.call d w rs sv::k:=λd w rs sv k e=>by
   have:=hf.todo (.call d w rs sv) (by rw[e];simp);exact this
  by_cases hd:dmN bad n
  .cases n<;>first|exact hd.elim|skip
   rotate_left
   .dsimp only at hg
    repeat' split at hg
    all_goals first|(simp[GStep.after] at hg;done)|skip
    all_goals
     simp only[GStep.after,endThrow,dieOf,GStep.go.injEq] at hg;obtain⟨rfl,_,_⟩:=hg;exact .inr (.inl (.inr ae))
   rename_i f args;refine .inl ⟨f,args,fr::cs,hd,?_⟩
   rcases ht:fr.todo with _|⟨it,k⟩
   .simp only[ht,GStep.after,GStep.go.injEq] at hg
    grind
   .cases it<;>first|exact absurd ht (h' _ _ _ _ _)|(simp only[ht,GStep.after,GStep.go.injEq] at hg;obtain⟨rfl,_,_⟩:=hg;exact⟨rfl,rfl⟩)
  .obtain⟨c5,c6⟩:=xk hs A B #[] n A1 es0 hl hr
   have hq:okN (Cc P P') P n:=let ⟨_,h⟩:=c5.resolve_left hd;h.2
   have aa:seen P fr.fn es0=es0:=tL a6 a' λe he=>(c6 e he).resolve_left ae
   have run:(∀e∈seen P fr.fn es0++#[],S.fj e)->Alike P' (Cc P P') S s (λa b=>a=b/\okN (Cc P P') P a) A B #[] #[] n A1 es0:=λhv=>(uZ hs A B #[] #[] n A1 es0 hl hr λe he=>hv e (by rw[aa];grind)).resolve_left hd
   have fin:∀(g:Goroutine),g.status=.running->g.dying=none->g.offers=none->dw P P' g.frame->(g.callers=cs/\g.frame.fn=fr.fn\/∃f1,dw P P' f1/\f1.fn=fr.fn/\((Cc P P').fn g.frame.fn\/Xf.xf g.frame.fn)/\g.callers=f1::cs) ->
    g=g'/\A1=A'/\seen P fr.fn es0++#[]=es ->
    (∀B',s.runT P' B #[]=(.ok n B',es0)->stepG.apply P' true fr cs none s B=.go g B' (seen P' fr.fn es0)) ->
    mh P P' bad S fr cs A B g' A' es (stepG.apply P' true fr cs none s B):=by
    intro g h1 h2 h3 h4 h5 he hgo;obtain⟨rfl,rfl,rfl⟩:=he;refine .inr (.inr λhv=>?_);have ha:=run hv;refine⟨ha.drawn,ha.tape,ha.size,h1,h2,h3,λag=>?_⟩;obtain⟨b,B',new,y1,y2,⟨rfl,_⟩,y3,y4,y5,y7,y6⟩:=ha.alike ag
    have en:new=es0:=by rw[y2];simp
    subst en;refine⟨g.frame,B',.inl ⟨h5,.inl ⟨rfl,h4⟩⟩,?_,y3,y4,y5,by rw[aa];grind,λe he=>y6 e (wz e (by simpa using he))⟩;rw[hgo B' (by rw[y1];simp),wA a6 aq a' ay λe he=>wC (y6 e he)];simp
   cases n<;>first|exact hq.elim|skip
   .rename_i v;simp only[GStep.after,GStep.go.injEq] at hg
    refine fin _ ?_ ?_ ?_ ?_ ?_ hg λB' hb=>?_
    all_goals first|rfl|exact hf.finish v|exact .inl ⟨rfl,wB fr _⟩|skip
    unfold stepG.apply;simp[-Sem.runT_eq,hb,h8,GStep.after]
   .simp only[GStep.after,GStep.go.injEq] at hg
    refine fin _ ?_ ?_ ?_ ?_ ?_ hg λB' hb=>?_
    all_goals first|rfl|exact hf.finish _|exact .inl ⟨rfl,wB fr _⟩|skip
    unfold stepG.apply;simp[-Sem.runT_eq,hb,h8,GStep.after]
   .rename_i f args
    have b9:GStep.go { frame:=Frame.enter P f args .normal,callers:=fr::cs,status:=.running,dying:=none } A1 (seen P fr.fn es0++#[])=.go g' A' es:=by
     rw[<-hg]
     rcases ht:fr.todo with _|⟨it,k⟩
     .rfl
     .cases it<;>first|exact absurd ht (h' _ _ _ _ _)|rfl
    by_cases hx:Xf.xf f
    .rw[GStep.go.injEq] at b9;obtain⟨rfl,rfl,rfl⟩:=b9;refine .inr (.inr λhv=>?_);have ha:=run hv;refine⟨ha.drawn,ha.tape,ha.size,rfl,rfl,rfl,λag=>?_⟩;obtain⟨b,B',new,y1,y2,⟨rfl,_⟩,y3,y4,y5,y7,y6⟩:=ha.alike ag
     have en:new=es0:=by rw[y2];simp
     subst en;refine⟨Frame.enter P' f args .normal,B',.inl ⟨.inr ⟨fr,hf,rfl,.inr hx,rfl⟩,.inr ⟨f,args,hx,rfl,rfl⟩⟩,?_,y3,y4,y5,by rw[aa];simpa using y7,λe he=>y6 e (wz e (by simpa using he))⟩;unfold stepG.apply;rw[show s.runT P' B #[]=(.ok (.enter f args) B',new) from by rw[y1];simp];simp only[cz,h8,dB,cP,GStep.after];rw[wA a6 aq a' ay λe he=>wC (y6 e he)]
     rcases ht:fr.todo with _|⟨it,k⟩
     .rfl
     .cases it<;>first|exact absurd ht (h' _ _ _ _ _)|rfl
    obtain⟨fn2,c2,q1,q2,q3,q5⟩:=hq.resolve_right hx
    have q4:P'.funcs[f]?=some fn2:=by
     rcases hk.funcs f with ⟨e1,_⟩|⟨c9,_⟩|⟨hb,_⟩|⟨fn3,c3,e1,e2,_⟩
     .rw[q1] at e1;cases e1
     .exact absurd c9 hx
     .exact absurd hb hd
     .rw[q1] at e1;obtain rfl:=fK e1;exact e2
    rw[GStep.go.injEq] at b9
    refine fin _ ?_ ?_ ?_ ?_ ?_ b9 λB' hb=>?_
    all_goals first|rfl|exact dw.enter q1 q4 q2 q3 q5 args|exact .inr ⟨fr,hf,rfl,.inl q5,rfl⟩|skip
    unfold stepG.apply;simp only[cz,hb,h8,dB,cP,GStep.after];rw[MU q1 q4];simp_all
   .rename_i l f tmps a b;obtain⟨q1,q2,q3⟩:=hq;simp only[GStep.after,GStep.go.injEq] at hg
    refine fin _ ?_ ?_ ?_ ?_ ?_ hg λB' hb=>?_
    all_goals first|rfl|exact .inr ⟨fr,hf,rfl,.inl q3,rfl⟩|skip
    .refine⟨λit hy=>?_,by simp[Frame.round],.inl ⟨rfl,λd hd=>aE,q3⟩,λch=>by simp[Frame.round],q3.1.imp λfn h=>⟨fn,h.1,h.2.1,h.2.2,h.2.2⟩⟩;simp only[Frame.round,dU,mQ,or_false] at hy
     rcases hy with rfl|rfl|rfl
     .exact q1
     .trivial
     .exact q2
    .unfold stepG.apply;simp[-Sem.runT_eq,hb,h8,GStep.after]
end
end Go.Fc
namespace Go.Fc
open Go Go.Conc
variable[Xf]
section
variable{P P':Program}{bad:Nat->Prop}{S:Sh}
theorem mh.stay{A B:World}{fr0 fr:Frame}{cs:List Frame}(hf:dw P P' fr)(ao:fr.fn=fr0.fn)(hl:Lk (Cc P P') S A B):mh P P' bad S fr0 cs A B { frame:=fr,callers:=cs,status:=.running,dying:=none } A #[] (.go { frame:=fr,callers:=cs,status:=.running,dying:=none } B #[]):=
 .inr (.inr λ_=>⟨bU _,rfl,bU _,rfl,rfl,rfl,λ_=>⟨fr,B,.inl ⟨.inl ⟨rfl,ao⟩,.inl ⟨rfl,hf⟩⟩,rfl,hl,rfl,ae,.refl _ _,ae⟩⟩)
theorem dw.Cb{fr:Frame}(h:dw P P' fr){todo:List Item}(ht:∀it∈todo,qC P it):dw P P' { fr with todo }:=⟨ht,h.kind,h.calm,h.mode,h.fn⟩
theorem AA(id:Nat):∀(k k':List Item),exitTo id k=some k'->∀it∈k',it∈k
 |[],_,h=>by trivial
 |x::k,k',h=>by
  intro it hy
  cases x<;>simp only[exitTo] at h<;>first
   |exact eY _ (AA id k k' h it hy)
   |(split at h
     .simp_all
     .exact eY _ (AA id k k' h it hy))
theorem MV(h:Kin P P')(d:Departure):P'.follows d=P.follows d:=by obtain⟨fs,rfl⟩:=h.eq;rfl
theorem MW(h:Kin P P'):P'.inits=P.inits:=by obtain⟨fs,rfl⟩:=h.eq;rfl
theorem Fo{main:Bool}{fr:Frame}{cs:List Frame}{A1:World}{v:Value}(hf:(Cc P P').fn fr.fn)(hn:fr.kind=.normal)(h9:main=true\/cs≠[]){g':Goroutine}{A':World}{b':Array Event}(hg:doReturn P main fr cs none v A1=.go g' A' b'):∃caller rest,cs=caller::rest/\g' = { frame:=caller.finish v,callers:=rest,status:=.running,dying:=none }/\A'=A1/\b'=#[]/\∀(Q:Program)(w:World),doReturn Q main fr cs none v w=.go g' w #[]:=by
 unfold doReturn at hg
 cases cs with
 |nil=>
  exfalso;obtain rfl:=h9.resolve_right ae;simp only[hn,ig,dB,cP,hf.2] at hg;cases hg
 |cons c r=>
  simp only[hn,GStep.go.injEq] at hg;obtain⟨rfl,rfl,rfl⟩:=hg;exact⟨c,r,rfl,rfl,rfl,rfl,λQ w=>by unfold doReturn;grind⟩
theorem wE{α:Type}{fr:Frame}{cs:List Frame}{A B:World}(hf:dw P P' fr)(hl:Lk (Cc P P') S A B){s:Sem α}(hs:RE P P' (Cc P P') s s){v:α}{A1:World}{es0:Array Event}(hr:s.runT P A #[]=(.ok v A1,es0)){g:Goroutine}(h1:g.status=.running)(h2:g.dying=none)(h3:g.offers=none)(h4:CF P P' fr cs g g.frame){t:GStep}(ht:∀B',s.runT P' B #[]=(.ok v B',es0)->t=.go g B' (seen P' fr.fn es0)):mh P P' bad S fr cs A B g A1 (seen P fr.fn es0) t:=by
 obtain⟨fn,a9,a6,aq,a',ay⟩:=hf.fn
 have aa:seen P fr.fn es0=es0:=tL a6 a' λe he=>((xk hs A B #[] v A1 es0 hl hr).2 e he).resolve_left ae
 refine .inr (.inr λhv=>?_);have ha:=(uZ hs A B #[] #[] v A1 es0 hl hr λe he=>hv e (by rw[aa];exact he)).resolve_left id;refine⟨ha.drawn,ha.tape,ha.size,h1,h2,h3,λag=>?_⟩;obtain⟨b,B',new,y1,y2,rfl,y3,y4,y5,y7,y6⟩:=ha.alike ag
 have en:new=es0:=by rw[y2];simp
 subst en;refine⟨g.frame,B',h4,?_,y3,y4,y5,by rw[aa];exact y7,λe he=>y6 e (wz e he)⟩;rw[ht B' (by rw[y1];simp),wA a6 aq a' ay λe he=>wC (y6 e he)]
theorem MX(l:Nat)(j:Option Code)(hj:∀c,j=some c->Cd P c):RE P P' (Cc P P') (Instr.endRound l j) (Instr.endRound l j):=by
 unfold Instr.endRound Instr.getLoop;refine jW (M:=λa b=>a=b/\okO (Cc P P') (.loop a)) ?_ (λa b a5=>?_)
 .refine nP l (λo ho=>?_) (λo ho=>?_)
  .cases o<;>first|exact b8 _ _|exact .pure _ _ ⟨rfl,ho⟩
  .cases o<;>first|exact b8 _ _|exact absurd trivial ho
 .obtain⟨rfl,hl⟩:=a5
  exact bS (oQ l ⟨hl.1,hl.2.1,hl.2.2.1,λc e=>hj c e⟩) λ_=>bQ _
theorem wF(l:Nat):RT P P' (Cc P P') (λ_=>False) (λa b=>a=b/\okO (Cc P P') (.loop a)) (Instr.getLoop l) (Instr.getLoop l):=by
 unfold Instr.getLoop;refine nP l (λo ho=>?_) (λo ho=>?_)
 .cases o<;>first|exact b8 _ _|exact .pure _ _ ⟨rfl,ho⟩
 .cases o<;>first|exact b8 _ _|exact absurd trivial ho
theorem MY(hk:j7 P P' (Cc P P') bad)(o:Option Nat):RN P P' (Cc P P') bad (do o.elim (stuck "beginRound: no round") Instr.beginRound;pure .skip) (do o.elim (stuck "beginRound: no round") Instr.beginRound;pure .skip):=by
 refine At ?_
 cases o with
 |none=>exact b8 _ _
 |some l=>
  simp only[Option.elim];unfold Instr.beginRound
  refine jW (wF l) λa b a5=>?_
  obtain⟨rfl,hl⟩:=a5
  refine bS (oQ l hl) λ_=>?_
  split
  .exact bQ _
  all_goals exact gK hk.kin _
theorem Fp(hk:j7 P P' (Cc P P') bad)(l:Nat):RT P P' (Cc P P') (λ_=>False) (λa b=>a=b/\∀c,a=some c->Cd P c) (Instr.endLoop l) (Instr.endLoop l):=by
 unfold Instr.endLoop
 refine jW (wF l) λa b a5=>?_
 obtain⟨rfl,hl⟩:=a5
 have tail:RT P P' (Cc P P') (λ_=>False) (λa b=>a=b/\∀c,a=some c->Cd P c) (do setObj l (.loop { a with state:=.exhausted });pure a.pending) (do setObj l (.loop { a with state:=.exhausted });pure a.pending):=
  bS (oQ l hl) λ_=>.pure _ _ ⟨rfl,hl.2.2.2⟩
 dsimp only;split
 .exact jW (M:=λ_ _=>False) (gK hk.kin _) λa b e=>e.elim
 .exact tail
theorem MZ{fn:FuncId}(ao:(Cc P P').fn fn)(T:Array Value)(ps:Array Tmp){a b:Code}(ha:Cd P a)(hb:Cd P b)(o:Option Nat):RT P P' (Cc P P') (λ_=>False) (λx y=>x=y/\∀d∈x.2,∃r,d = { target:=.collected r,args:=#[] }) (Instr.enterLoop fn T ps a b o) (Instr.enterLoop fn T ps a b o):=by
 have tail:∀(ds:Nat)(m:List Deferred),(∀d∈m,∃r,d = { target:=.collected r,args:=#[] })->RT P P' (Cc P P') (λ_=>False) (λx y=>x=y/\∀d∈x.2,∃r,d = { target:=.collected r,args:=#[] })
  (do pure (<-newObj (.loop { state:=.ready,pending:=none,fn,tmps:=T,params:=ps,assign:=a,body:=b,defers:=ds }),m)) (do pure (<-newObj (.loop { state:=.ready,pending:=none,fn,tmps:=T,params:=ps,assign:=a,body:=b,defers:=ds }),m)):=λds m hm=>
  bS (rl (o:=.loop { state:=.ready,pending:=none,fn,tmps:=T,params:=ps,assign:=a,body:=b,defers:=ds }) ⟨ha,hb,ao,λc e=>by cases e⟩) λr=>.pure _ _ ⟨rfl,hm⟩
 unfold Instr.enterLoop
 cases o with
 |some l=>
  dsimp only
  first
   |exact jW (M:=λx y=>x=y/\∀d∈x.2,∃r,d = { target:=.collected r,args:=#[] }) (jW (wF l) λx y b4=>aE) (λx y b4=>by obtain⟨rfl,hm⟩:=b4;exact tail _ _ hm)
   |exact jW (wF l) λx y b4=>by
     simp_all
 |none=>
  dsimp only
  first
   |exact jW (M:=λx y=>x=y/\∀d∈x.2,∃r,d = { target:=.collected r,args:=#[] }) (bS (rl (o:=.deferred (some [])) trivial) λr=>.pure _ _ ⟨rfl,ae⟩) (λx y b4=>by obtain⟨rfl,hm⟩:=b4;exact tail _ _ hm)
   |exact bS (rl (o:=.deferred (some [])) trivial) λr=>jW (M:=λx y=>x=y/\∀d∈x.2,∃r,d = { target:=.collected r,args:=#[] }) (.pure _ _ ⟨rfl,ae⟩) (λx y b4=>al)
theorem AB{α:Type}{Q:α->α->Prop}{A B:World}(hl:Lk (Cc P P') S A B){s:Sem α}(hs:RT P P' (Cc P P') (λ_=>False) Q s s){v:α}{A1:World}{es0:Array Event}(hr:s.runT P A #[]=(.ok v A1,es0)):∃b,Q v b:=by
 exact (xk hs A B #[] v A1 es0 hl hr).1.resolve_left id
theorem M3{main:Bool}(hk:j7 P P' (Cc P P') bad){fr:Frame}{cs:List Frame}{A B:World}(hf:dw P P' fr)(c7:fr.mode=.run)(h9:main=true\/cs≠[])(hl:Lk (Cc P P') S A B){g':Goroutine}{A':World}{es:Array Event}(hg:stepG.exec P main true fr cs none A=.go g' A' es):mh P P' bad S fr cs A B g' A' es (stepG.exec P' main true fr cs none B):=by
 have bg:=hf.todo
 have bf:(fr.kind=.normal/\(∀d∈fr.defers,∃b,d = { target:=.collected b,args:=#[] })/\(Cc P P').fn fr.fn)->dw P P' { fr with mode:=.returning }:=λh=>⟨hf.todo,hf.kind,.inl h,λch=>ae,hf.fn⟩
 have leave_:∀(h0:fr.roundOf=none),(∀(Q:Program)(w:World),stepG.exec Q main true fr cs none w=.go { frame:={ fr with mode:=.returning },callers:=cs,status:=.running,dying:=none } w #[]) ->
  mh P P' bad S fr cs A B g' A' es (stepG.exec P' main true fr cs none B):=λh0 e2=>by
  rw[e2,GStep.go.injEq] at hg;obtain⟨rfl,rfl,rfl⟩:=hg;rw[e2]
  rcases hf.calm with h|⟨h,_,_,_,br⟩
  .exact .stay (bf h) rfl hl
  .exact .inr (.inr λ_=>⟨bU _,rfl,bU _,rfl,rfl,rfl,λ_=>⟨_,B,.inr (.inr ⟨rfl,rfl,rfl,h,rfl,br⟩),rfl,hl,rfl,ae,.refl _ _,ae⟩⟩)
 have leaveR:∀(l:Nat)(j:Option Code),fr.roundOf=some l->(∀c,j=some c->Cd P c)->(∀(Q:Program)(w:World),stepG.exec Q main true fr cs none w=GStep.after (seen Q fr.fn ((Instr.endRound l j).runT Q w #[]).2) (match ((Instr.endRound l j).runT Q w #[]).1 with
  |.ok v w=>doReturn Q main fr cs none v w
  |.halt _ w=>.ended (.stuck "range over a function: no such loop" (fr.pos Q)) w))->mh P P' bad S fr cs A B g' A' es (stepG.exec P' main true fr cs none B):=λl j bk hj e2=>by
  have hh:=hf.calm.resolve_right (λh=>by rw[h.2.2.1] at bk;cases bk);have hn:fr.kind=.normal:=hh.1;rw[e2] at hg
  rcases hr:(Instr.endRound l j).runT P A #[] with ⟨r,es0⟩
  rw[hr] at hg
  cases r with
  |halt x w=>trivial
  |ok v A1=>
   dsimp only at hg
   cases hd:doReturn P main fr cs none v A1 with
   |go g1 w1 es1=>
    rw[hd] at hg;simp only[GStep.after] at hg;obtain⟨caller,rest,rfl,rfl,rfl,rfl,hQ⟩:=Fo hh.2.2 hn h9 hd;rw[GStep.go.injEq] at hg;obtain⟨rfl,rfl,rfl⟩:=hg;rw[mN]
    refine wE hf hl (MX l j hj) hr rfl rfl rfl (.inr (.inl ⟨rfl,caller,v,rfl,rfl,hh.2.2⟩)) λB' hb=>?_
    rw[e2,hb];dsimp only;rw[hQ];rfl
   |_=>rw[hd] at hg;simp only[GStep.after] at hg;cases hg
 rcases ht:fr.todo with _|⟨it,k⟩
 .rcases h0:fr.roundOf with _|l
  .exact leave_ h0 λQ w=>by simp only[stepG.exec,ht,h0];rfl
  .exact leaveR l none h0 (λc e=>by cases e) λQ w=>by simp only[stepG.exec,ht,h0];rfl
 .rw[ht] at bg;have ax:=bg it iZ
  have a4:∀x∈k,qC P x:=λx hx=>bg x (eY _ hx)
  have cons_:∀{a:Item}{l:List Item},qC P a->(∀x∈l,qC P x)->∀x∈a::l,qC P x:=λha hl x hx=>(dU.1 hx).elim (λe=>e▸ha) (hl x)
  have move:∀(todo:List Item),(∀x∈todo,qC P x)->stepG.exec P main true fr cs none A=.go { frame:={ fr with todo },callers:=cs,status:=.running,dying:=none } A #[] ->
   stepG.exec P' main true fr cs none B=.go { frame:={ fr with todo },callers:=cs,status:=.running,dying:=none } B #[]->mh P P' bad S fr cs A B g' A' es (stepG.exec P' main true fr cs none B):=λtodo h1 h2 h3=>by
   rw[h2,GStep.go.injEq] at hg;obtain⟨rfl,rfl,rfl⟩:=hg;rw[h3];exact .stay (hf.Cb h1) rfl hl
  cases it with
  |inBlock id=>exact move k a4 az az
  |inScope c=>exact move k a4 az az
  |inLoop c=>exact move _ (cons_ (a:=.code c) ax (cons_ (a:=.inLoop c) ax a4)) az az
  |inRangeFunc l=>simp only[stepG.exec,ht] at hg;cases hg
  |endRangeFunc l=>
   have e2:∀(Q:Program)(w:World),stepG.exec Q main true fr cs none w=GStep.after (seen Q fr.fn ((Instr.endLoop l).runT Q w #[]).2) (match ((Instr.endLoop l).runT Q w #[]).1 with
    |.ok jump w=>.go { frame:={ fr with todo:=(jump.map Item.code).toList++k },callers:=cs,status:=.running,dying:=none } w
    |.halt (.panic v) w=>.go { frame:=fr.raise [{ v,recovered:=false }],callers:=cs,status:=.running,dying:=none } w
    |.halt _ w=>.ended (.stuck "range over a function: no such loop" (fr.pos Q)) w):=λQ w=>by simp only[stepG.exec,ht];rfl
   rw[e2] at hg
   rcases hr:(Instr.endLoop l).runT P A #[] with ⟨r,es0⟩
   rw[hr] at hg
   cases r with
   |halt x w=>
    cases x<;>simp only[GStep.after] at hg<;>first|(cases hg;done)|skip
    rw[GStep.go.injEq] at hg;obtain⟨rfl,_,_⟩:=hg;exact .inr (.inl (.inl (Fl fr _)))
   |ok jump A1=>
    simp only[GStep.after] at hg;rw[GStep.go.injEq] at hg;obtain⟨rfl,rfl,rfl⟩:=hg;rw[mN];obtain⟨_,rfl,hj⟩:=AB hl (Fp hk l) hr
    refine wE hf hl ((Fp hk l).mono (λ_ h=>h) λ_ _ h=>h.1) hr rfl rfl rfl (.inl ⟨.inl ⟨rfl,rfl⟩,.inl ⟨rfl,hf.Cb λx hx=>?_⟩⟩) λB' hb=>?_
    .rcases js.1 hx with hx|hx
     .cases jump with
      |none=>simp at hx
      |some c=>
       obtain rfl:x=.code c:=by simpa using hx
       exact hj c rfl
     simp_all
    .rw[e2,hb];rfl
  |beginRound=>
   have e2:∀(Q:Program)(w:World),stepG.exec Q main true fr cs none w=stepG.apply Q true fr cs none (do fr.roundOf.elim (stuck "beginRound: no round") Instr.beginRound;pure .skip) w:=λQ w=>by simp only[stepG.exec,ht]
   rw[e2] at hg ⊢;exact wD hk hf (MY hk _) hl hg
  |call d w r s=>exact ax.elim
  |extern r a=>exact ax.elim
  |inRegion ops todo=>
   cases todo with
   |nil=>exact move k a4 az az
   |cons i rest=>
    have bj:∀o,ops[i]?=some o->j8 P o=true:=λo ho=>by
     have hm:o∈ops.toList:=by
      rw[<-jo] at ho
      grind
     exact gm.1 ax o hm
    by_cases hw:((ops[i]?).map (Region.wanted · (yielded ops fr.tmps))).getD false=true
    .rcases ho:ops[i]? with _|o
     .rw[ho] at hw;cases hw
     have b6:fr.oper?=some o:=by simp[Frame.oper?,ht,ho]
     have ee:∀(Q:Program)(w:World),stepG.exec Q main true fr cs none w=(match fr.roundOf,o.op with
      |some l,.defer c=>stepG.apply Q true fr cs none (do Instr.deferInRound l (<-resolve fr.eval c o.type);pure .skip) w
      |_,_=>stepG.apply Q true fr cs none (execOp fr.eval o) w):=λQ w=>by
      simp only[stepG.exec,ht,hw,cz,stepG.oper,b6];rfl
     have c4:∀c,o.op≠.defer c:=λc e=>by have:=bj o ho;unfold j8 at this;rw[e] at this;cases this
     have e2:∀(Q:Program)(w:World),stepG.exec Q main true fr cs none w=stepG.apply Q true fr cs none (execOp fr.eval o) w:=λQ w=>by
      rw[ee];simp_all
     rw[e2] at hg ⊢;exact wD hk hf (Fj hk (bj o ho) fr.eval) hl hg
    .have e2:∀(Q:Program)(w:World),stepG.exec Q main true fr cs none w=.go { frame:=fr.finish undef,callers:=cs,status:=.running,dying:=none } w #[]:=λQ w=>by
      simp only[stepG.exec,ht,hw];rfl
     rw[e2,GStep.go.injEq] at hg;obtain⟨rfl,rfl,rfl⟩:=hg;rw[e2];exact .stay (hf.finish _) (wB fr _) hl
  |code c=>
   have hc:Cd P c:=ax
   cases c with
   |skip=>exact move k a4 az az
   |label l=>exact move k a4 az az
   |seq a b=>
    have a5:codeOk P a=true/\codeOk P b=true:=by simpa[Cd,codeOk] using hc
    exact move _ (cons_ (a:=.code a) a5.1 (cons_ (a:=.code b) a5.2 a4)) az az
   |block id c=>exact move _ (cons_ (a:=.code c) hc (cons_ (a:=.inBlock id) trivial a4)) az az
   |loop c=>exact move _ (cons_ (a:=.code c) hc (cons_ (a:=.inLoop c) hc a4)) az az
   |scope c=>exact move _ (cons_ (a:=.code c) hc (cons_ (a:=.inScope c) hc a4)) az az
   |goto l=>cases hc
   |refuse w=>simp only[stepG.exec,ht] at hg;cases hg
   |cond c a b=>
    have a5:codeOk P a=true/\codeOk P b=true:=by simpa[Cd,codeOk] using hc
    cases hv:fr.eval c with
    |bool t=>
     cases t
     .exact move _ (cons_ (a:=.code b) a5.2 a4) aL aL
     .exact move _ (cons_ (a:=.code a) a5.1 a4) aL aL
    |_=>simp only[stepG.exec,ht,hv] at hg;cases hg
   |exit id=>
    rcases he:exitTo id k with _|k'
    .rcases h0:fr.roundOf with _|l
     .exfalso;simp[stepG.exec,ht,he,h0] at hg
     .exact leaveR l (some (.exit id)) h0 (λc e=>by cases e;rfl) λQ w=>by simp only[stepG.exec,ht,h0,he,Option.elim];rfl
    .exact move k' (λx hx=>a4 x (AA id k k' he x hx)) (by simp only[stepG.exec,ht,he,Option.elim]) (by simp only[stepG.exec,ht,he,Option.elim])
   |ret=>
    rcases h0:fr.roundOf with _|l
    .exact leave_ h0 λQ w=>by simp only[stepG.exec,ht,h0];rfl
    .exact leaveR l (some .ret) h0 (λc e=>by cases e;rfl) λQ w=>by simp only[stepG.exec,ht,h0];rfl
   |rangeFunc f ps a b=>
    have aw:Xf.rng=true/\codeOk P a=true/\codeOk P b=true:=by simpa[Cd,codeOk] using hc
    have a5:=aw.2;have hh:=hf.calm.resolve_right (λh=>by rw[h.2.2.2.1] at aw;cases aw.1)
    let call:Call:={ callee:=.value f,args:=#[],argTypes:=#[] }
    have rnC:∀l:Nat,RN P P' (Cc P P') bad (do let d <-resolve fr.eval { callee:=.value f,args:=#[.const (.func (.yield l) #[] #[])],argTypes:=#[] } 0;invoke d.target d.args) (do let d <-resolve fr.eval { callee:=.value f,args:=#[.const (.func (.yield l) #[] #[])],argTypes:=#[] } 0;invoke d.target d.args):=λl=>
     Fj hk (o:={ (default:Oper) with op:=.call { callee:=.value f,args:=#[.const (.func (.yield l) #[] #[])],argTypes:=#[] },type:=0 }) rfl fr.eval
    have e2:∀(Q:Program)(w:World),stepG.exec Q main true fr cs none w=GStep.after (seen Q fr.fn ((Instr.enterLoop fr.fn fr.tmps ps a b fr.roundOf).runT Q w #[]).2) (match ((Instr.enterLoop fr.fn fr.tmps ps a b fr.roundOf).runT Q w #[]).1 with
     |.ok (l,mark) w=>stepG.apply Q true { fr with todo:=.inRangeFunc l::k,defers:=mark++fr.defers } cs none (do let d <-resolve fr.eval { callee:=.value f,args:=#[.const (.func (.yield l) #[] #[])],argTypes:=#[] } 0;invoke d.target d.args) w
     |.halt _ w=>.ended (.stuck "range over a function: no such loop" (fr.pos Q)) w):=λQ w=>by simp only[stepG.exec,ht];rfl
    have bl:=MZ (P:=P) (P':=P') hh.2.2 fr.tmps ps a5.1 a5.2 fr.roundOf;have hreE:=bl.mono (λ_ h=>h) (λ_ _ h=>h.1);rw[e2] at hg ⊢
    rcases hr:(Instr.enterLoop fr.fn fr.tmps ps a b fr.roundOf).runT P A #[] with ⟨r,es0⟩
    rw[hr] at hg
    cases r with
    |halt x w=>trivial
    |ok lm A1=>
     obtain⟨l,mark⟩:=lm;dsimp only at hg;obtain⟨_,rfl,b5⟩:=AB hl bl hr;have bi:dw P P' { fr with todo:=.inRangeFunc l::k,defers:=mark++fr.defers }:=⟨cons_ (a:=.inRangeFunc l) trivial a4,hf.kind,.inl ⟨hh.1,λd hd=>(js.1 hd).elim (b5 d) (hh.2.1 d),hh.2.2⟩,hf.mode,hf.fn⟩
     cases b7:stepG.apply P true { fr with todo:=.inRangeFunc l::k,defers:=mark++fr.defers } cs none (do let d <-resolve fr.eval { callee:=.value f,args:=#[.const (.func (.yield l) #[] #[])],argTypes:=#[] } 0;invoke d.target d.args) A1 with
     |go g1 w1 es1=>
      rw[b7] at hg;simp only[GStep.after] at hg;rw[GStep.go.injEq] at hg;obtain⟨rfl,rfl,rfl⟩:=hg;obtain⟨fn,a9,a6,aq,a',ay⟩:=hf.fn;by_cases bb:∃f args cs,bad f/\g1.frame=Frame.enter P f args .normal/\g1.callers=cs
      .exact .inl bb
      by_cases bc:(∃ch,g1.frame.mode=.panicking ch)\/g1.dying≠none
      .exact .inr (.inl bc)
      have bu:Lk (Cc P P') S A { B with tape:=A.tape,drawn:=A.drawn }:=⟨hl.size,hl.low,hl.same,hl.dead,hl.os,hl.output⟩
      have aa:seen P fr.fn es0=es0:=tL a6 a' λe he=>((xk hreE A B #[] _ A1 es0 hl hr).2 e he).resolve_left ae
      refine .inr (.inr λhv=>?_)
      have bm:∀e∈es0,S.fj e:=λe he=>hv e (Jj _ (by rw[aa];exact he))
      have bn:∀e∈es1,S.fj e:=λe he=>hv e (Jk _ he)
      obtain⟨b0,B0,new0,y1,y2,rfl,y3,y4,y5,_,y6⟩:=((uZ hreE A _ #[] #[] _ A1 es0 bu hr bm).resolve_left id).alike λj _=>rfl
      have ha:=(uZ hreE A B #[] #[] _ A1 es0 hl hr bm).resolve_left id;obtain⟨z1,z2,z3,z4,z5,z6,_⟩:=((wD hk bi (rnC l) y3 b7).resolve_left bb).resolve_left bc bn;have d1:=ha.drawn;have d2:=ha.size;refine⟨ab,z2.trans ha.tape,ab,z4,z5,z6,λag=>?_⟩
      obtain⟨b,B1,new,x1,x2,rfl,x3,x4,x5,x7,x6⟩:=ha.alike λj hj=>ag j ab
      have en:new=es0:=by rw[x2];simp
      subst en;obtain⟨_,_,_,_,_,_,q⟩:=((wD hk bi (rnC l) x3 b7).resolve_left bb).resolve_left bc bn
      obtain⟨fr2,B2,zf,cf,w2,w3,w4,w6,w5⟩:=q λj hj=>by
       have:=ag (A1.drawn-A.drawn+j) ab;rw[x4,ha.tape,x5]
       have e3:A1.drawn+j=A.drawn+(A1.drawn-A.drawn+j):=ab
       have e4:B.drawn+(A1.drawn-A.drawn)+j=B.drawn+(A1.drawn-A.drawn+j):=ab
       rw[e3,e4];exact this
      refine⟨fr2,B2,zf,?_,w2,w3.trans x4,by rw[w4,x5];omega,by rw[aa];exact x7.trans w6,λe he=>?_⟩
      .rw[x1];simp only[Array.empty_append];rw[cf,wA a6 aq a' ay λe he=>wC (x6 e he)];rfl
      .rcases xT.1 he with he|he
       .exact (x6 e (wz e he)).mono w6
       grind
     |_=>rw[b7] at hg;simp only[GStep.after] at hg;cases hg
   |region id ops draw=>
    cases draw with
    |false=>exact move _ (cons_ (a:=.inRegion ops (List.range ops.size)) hc a4) (by simp[stepG.exec,ht]) (by simp[stepG.exec,ht])
    |true=>
     have e2:∀(Q:Program)(w:World),stepG.exec Q main true fr cs none w=.go { frame:={ fr with todo:=.inRegion ops (Region.schedule (Q.follows .mixedOrders) ops (w.tape w.drawn (.order fr.fn id)))::k },callers:=cs,status:=.running,dying:=none } { w with drawn:=w.drawn+1 } #[]:=λQ w=>by
      simp[stepG.exec,ht,choose,Sem.run,Question.forced,Question.cut]
     rw[e2,GStep.go.injEq] at hg;obtain⟨rfl,rfl,rfl⟩:=hg;rw[e2,MV hk.kin];refine .inr (.inr λ_=>⟨Nat.le_succ _,rfl,bU _,rfl,rfl,rfl,λag=>⟨_,{ B with drawn:=B.drawn+1 },.inl ⟨.inl ⟨rfl,rfl⟩,.inl ⟨rfl,hf.Cb (cons_ (a:=.inRegion ops _) hc a4)⟩⟩,?_,⟨hl.size,hl.low,hl.same,hl.dead,hl.os,hl.output⟩,rfl,ae,.draw _ _,ae⟩⟩);have:=ag 0 ae;simp_all
end
section
variable{P P':Program}{bad:Nat->Prop}{S:Sh}
theorem Fq(b:Nat):RT P P' (Cc P P') (λ_=>False) (λx y=>x=y/\x=[]) (Instr.takeDeferred b) (Instr.takeDeferred b):=by
 unfold Instr.takeDeferred;refine nP b (λo ho=>?_) (λo ho=>?_)
 .cases o<;>first|exact b8 _ _|skip
  rename_i c
  rcases c with _|_|⟨d,ds⟩
  .exact b8 _ _
  .exact bS (oQ b trivial) λ_=>.pure _ _ ⟨rfl,rfl⟩
  trivial
 .cases o<;>exact b8 _ _
theorem M4(hk:j7 P P' (Cc P P') bad)(fn:Func)(T:Array Value):RE P P' (Cc P P') (results fn T) (results fn T):=by
 unfold results
 refine bS (E4 _ (λr=>?_) _) λvs=>bQ _
 cases r with
 |tmp t=>exact bQ _
 |cell a t=>exact bS (wx hk.kin _) λx=>wj hk.kin t x
theorem M5{main:Bool}(hk:j7 P P' (Cc P P') bad){fr:Frame}{cs:List Frame}{A B:World}(hf:dw P P' fr)(bv:fr.mode=.returning)(h9:main=true\/cs≠[])(hl:Lk (Cc P P') S A B){g':Goroutine}{A':World}{es:Array Event}(hg:unwind P main fr cs none A=.go g' A' es):mh P P' bad S fr cs A B g' A' es (unwind P' main fr cs none B):=by
 obtain⟨hn,bh,ao⟩:=hf.calm.resolve_right (λh=>by rw[bv] at h;cases h.2.1)
 rcases hd:fr.defers with _|⟨d,ds⟩
 .cases hm:fr.mode with
  |run=>simp_all
  |panicking ch=>simp_all
  |returning=>
   obtain⟨⟨fn,a6,aq,a'⟩,_⟩:=id ao
   have e2:∀(Q:Program)(w:World),Q.funcs[fr.fn]?=some fn->unwind Q main fr cs none w=GStep.after (seen Q fr.fn ((results fn fr.tmps).runT Q w #[]).2) (match ((results fn fr.tmps).runT Q w #[]).1 with
    |.ok v w=>doReturn Q main fr cs none v w
    |.halt (.stuck s) w=>.ended (.stuck s (fr.pos Q)) w
    |.halt _ w=>.ended (.stuck "return: the result variables cannot be read" (fr.pos Q)) w):=λQ w hq=>by simp only[unwind,hd,hm,hq];rfl
   rw[e2 P A a6] at hg
   rcases hr:(results fn fr.tmps).runT P A #[] with ⟨r,es0⟩
   rw[hr] at hg
   cases r with
   |halt x w=>cases x<;>simp[GStep.after] at hg
   |ok v A1=>
    dsimp only at hg
    cases ba:doReturn P main fr cs none v A1 with
    |go g1 w1 es1=>
     rw[ba] at hg;simp only[GStep.after] at hg;obtain⟨caller,rest,rfl,rfl,rfl,rfl,hQ⟩:=Fo ao hn h9 ba;rw[GStep.go.injEq] at hg;obtain⟨rfl,rfl,rfl⟩:=hg;rw[mN]
     refine wE hf hl (M4 hk fn fr.tmps) hr rfl rfl rfl (.inr (.inl ⟨rfl,caller,v,rfl,rfl,ao⟩)) λB' hb=>?_
     rw[e2 P' B aq,hb];dsimp only;rw[hQ];rfl
    |_=>rw[ba] at hg;simp only[GStep.after] at hg;cases hg
 .rw[hd] at bh;obtain⟨b,rfl⟩:=bh d iZ
  have e2:∀(Q:Program)(w:World),unwind Q main fr cs none w=GStep.after (seen Q fr.fn ((Instr.takeDeferred b).runT Q w #[]).2) (match ((Instr.takeDeferred b).runT Q w #[]).1 with
   |.ok calls w=>.go { frame:={ fr with defers:=calls++ds },callers:=cs,status:=.running,dying:=none } w
   |.halt _ w=>.ended (.stuck "the deferred calls of a range-over-func loop have been taken" (fr.pos Q)) w):=λQ w=>by simp only[unwind,hd];rfl
  rw[e2] at hg
  rcases hr:(Instr.takeDeferred b).runT P A #[] with ⟨r,es0⟩
  rw[hr] at hg
  cases r with
  |halt x w=>trivial
  |ok calls A1=>
   simp only[GStep.after] at hg;rw[GStep.go.injEq] at hg;obtain⟨rfl,rfl,rfl⟩:=hg;rw[mN];obtain⟨_,_,hc⟩:=AB hl (Fq b) hr;subst hc
   refine wE hf hl ((Fq b).mono (λ_ h=>h) λ_ _ h=>h.1) hr rfl rfl rfl (.inl ⟨.inl ⟨rfl,rfl⟩,.inl ⟨rfl,hf.todo,hf.kind,.inl ⟨hn,λd bp=>bh d (eY _ (by simpa using bp)),ao⟩,hf.mode,hf.fn⟩⟩) λB' hb=>?_
   rw[e2,hb];rfl
theorem Fs{main:Bool}(hk:j7 P P' (Cc P P') bad){fr:Frame}{cs:List Frame}{A B:World}(hf:dw P P' fr)(h9:main=true\/cs≠[])(hl:Lk (Cc P P') S A B){g':Goroutine}{A':World}{es:Array Event}(hg:stepG P main (G fr cs) A=.go g' A' es):mh P P' bad S fr cs A B g' A' es (stepG P' main (G fr cs) B):=by
 cases hm:fr.mode with
 |run=>
  have e:∀(Q:Program)(w:World),stepG Q main (G fr cs) w=stepG.exec Q main true fr cs none w:=λQ w=>by simp only[stepG,G,hm]
  rw[e] at hg ⊢;exact M3 hk hf hm h9 hl hg
 |returning=>
  have e:∀(Q:Program)(w:World),stepG Q main (G fr cs) w=unwind Q main fr cs none w:=λQ w=>by simp only[stepG,G,hm]
  rw[e] at hg ⊢;exact M5 hk hf hm h9 hl hg
 |panicking ch=>exact absurd hm (hf.mode ch)
end
end Go.Fc
