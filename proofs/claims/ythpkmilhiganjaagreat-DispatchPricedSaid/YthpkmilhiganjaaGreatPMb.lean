/- Lemmas. -/
import Derived.Test.YthpkmilhiganjaaGreatPMa
set_option linter.unusedSimpArgs false
set_option linter.unusedVariables false
set_option linter.unusedSectionVars false
set_option maxHeartbeats 32000000
set_option maxRecDepth 100000
namespace Go.Fc
open Go
def Calm(P:Program){α:Type}(s:Sem α):Prop:=∀w es,∃b,s.runT P w es=(.ok b w,es)
section
variable{P P':Program}{C:Cx}(h:Kin P P')
include h
theorem Bu(b:Bool)(d:Nat):∀(t:TypeId),ea P d t=true→∀(n:Nat)(x:Value),RE P P' C (Instr.checkKey b n t x) (Instr.checkKey b n t x):=by
 induction d with
 |zero=>intro t ht;cases ht
 |succ d ih=>
  intro t ht n x
  cases n with
  |zero=>exact bJ _ _
  |succ n=>
   unfold ea at ht;unfold Instr.checkKey
   rcases hu:P.underlying t with _|td
   ·rw[hu] at ht;cases ht
   rw[hu] at ht;refine gC h hu ?_
   cases td with
   |int k=>cases x<;>exact aC _
   |string=>cases x<;>exact aC _
   |bool=>cases x<;>exact aC _
   |slice e=>cases x<;>exact aC _
   |array len e=>
    have hx:=ih e ht n
    cases x<;>first|exact aN _ _|skip
    dsimp only
    repeat' (first|exact aC _|exact hx _|exact dW h _|exact jT h _ _ _|refine aG ?_ fun _=>?_|refine xm _ _ (fun _ _=>?_) _ _|split|dsimp only)
   |_=>cases ht
theorem Bv{d:Nat}{t:TypeId}(ht:ea P d t=true)(k:Value):∀(es:List MapEntry)(i:Nat),RE P P' C (Instr.findAsking t k es i) (Instr.findAsking t k es i)
 |[],_=>aC _
 |e::es,i=>by
  unfold Instr.findAsking
  refine aG (xn h d t ht _ _ _) fun b=>?_
  split
  ·exact aC _
  ·exact Bv ht k es _
theorem Bw{d:Nat}{t:TypeId}(ht:ea P d t=true)(k:Value)(es:List MapEntry):RE P P' C (Instr.findKey t k es) (Instr.findKey t k es):=by
 unfold Instr.findKey
 refine aG (cY h t) fun td=>?_
 split
 ·exact aC _
 ·exact Bv h ht _ _ _
omit h in
theorem Ih(r:Nat){α:Type}(m:String){f g:Array MapEntry→Nat→Sem α}{D:α→Prop}{Q:α→α→Prop}(hf:∀es c,RT P P' C D Q (f es c) (g es c)):RT P P' C D Q (getObj r >>= fun o=>match o with | .map es c=>f es c|_=>stuck m) (getObj r >>= fun o=>match o with | .map es c=>g es c|_=>stuck m):=by
 refine jU r (fun o ho=>?_) (fun o ho=>?_)
 ·cases o<;>first|exact hf _ _|exact aN _ _
 ·cases o<;>first|exact absurd trivial ho|exact aN _ _
theorem Ii{d:Nat}{t key elem:TypeId}(hm:P.underlying t=some (.map key elem))(hk:ea P d key=true)(x i:Value)(ok:Bool):RE P P' C (Instr.lookup t x i ok) (Instr.lookup t x i ok):=by
 unfold Instr.lookup;refine gC h hm ?_;dsimp only
 have tail:∀es:Array MapEntry,RE P P' C (do
  Instr.checkKey es.isEmpty 10000 key i
  let (v,b) ←match ←Instr.findKey key i es.toList with
   |some (_,v)=>pure (v,true)
   |none=>pure (←zeroValue elem,false)
  pure (if ok then Value.tuple #[v,.bool b] else v)) (do
  Instr.checkKey es.isEmpty 10000 key i
  let (v,b) ←match ←Instr.findKey key i es.toList with
   |some (_,v)=>pure (v,true)
   |none=>pure (←zeroValue elem,false)
  pure (if ok then Value.tuple #[v,.bool b] else v)):=fun es=>by
  repeat' (first|exact aC _|exact Bu h _ d _ hk _ _|exact Bw h hk _ _|exact lE h _|refine aG ?_ fun _=>?_|split|dsimp only)
 cases x with
 |map r=>
  cases r with
  |none=>exact aG (aC _) fun es=>tail es
  |some r=>
   refine jU r (fun o ho=>?_) (fun o ho=>?_)
   ·cases o<;>first|exact tail _|exact aG (aC _) tail|exact aN _ _|exact aG (aN _ _) tail
   ·cases o<;>first|exact absurd trivial ho|exact aN _ _|exact aG (aN _ _) tail
 |_=>exact aG (aN _ _) fun es=>tail es
theorem Ij{d:Nat}{t key elem:TypeId}(hm:P.underlying t=some (.map key elem))(hk:ea P d key=true)(x i v:Value):RE P P' C (Instr.mapUpdate t x i v) (Instr.mapUpdate t x i v):=by
 unfold Instr.mapUpdate;refine gC h hm ?_;dsimp only
 cases x with
 |map r=>
  cases r with
  |none=>exact dX h _
  |some r=>
   dsimp only
   refine Ih r _ fun es c=>?_
   refine aG (Bu h _ d _ hk _ _) fun _=>aG (Bw h hk _ _) fun o=>?_
   cases o with
   |none=>exact lD _ trivial
   |some o=>
    unfold Instr.keyThatStays
    repeat' (first|exact aC _|exact lD _ trivial|exact gA _|refine aG ?_ fun _=>?_|split|dsimp only)
 |_=>exact aN _ _
omit h in
theorem Ik(s:FloatKind)(b:Nat)(k:IntKind):RE P P' C (Conv.floatToInt s b k) (Conv.floatToInt s b k):=by
 unfold Conv.floatToInt
 repeat' (first|exact aC _|exact aN _ _|exact bJ _ _|exact gA _|refine aG ?_ fun _=>?_|split|dsimp only)
omit h in
theorem Il(e:TypeId)(x:ByteArray):RE P P' C (Conv.stringToBytes e x) (Conv.stringToBytes e x):=by
 unfold Conv.stringToBytes
 refine aG (gA _) fun cap=>?_
 dsimp only;generalize (Array.map (fun b:UInt8=>Value.int IntKind.u8 ↑b.toNat) x.data)++Array.replicate (cap-x.size) (Value.int .u8 0)=c
 have key:∀(p:Program)(w:World)(es:Array Event),(do
  let a ←newRow e c
  markStringish a
  pure (Value.slice (some a) x.size cap):Sem Value).runT p w es=(Sem.pure (Value.slice (some ⟨w.heap.size,0,none⟩) x.size cap)).runT p { w with heap:=w.heap.push (.cells c e (c.size,c.size+1))} es:=by
  intro p w es
  have hm:(w.heap.push (.cells c e)).modify w.heap.size (fun | .cells c' elem (lo,hi)=>.cells c' elem (if lo==hi then (c.size,c.size+1) else (min lo c.size,max hi (c.size+1)))|o=>o)=w.heap.push (.cells c e (c.size,c.size+1)):=by
   apply Array.ext_getElem?;intro i;rw[Array.getElem?_modify,Array.getElem?_push,Array.getElem?_push];by_cases hi:i=w.heap.size
   ·subst hi;simp
   ·rw[if_neg hi,if_neg hi,if_neg (Ne.symm hi)]
  have hsh:World.shape? { w with heap:=w.heap.push (.cells c e)} w.heap.size=some (e,c.size):=by simp[World.shape?]
  have hfz:World.freeze { w with heap:=w.heap.push (.cells c e)} ⟨w.heap.size,c.size,none⟩ 1 = { w with heap:=w.heap.push (.cells c e (c.size,c.size+1))} :=
   congrArg (fun h=>({ w with heap:=h }:World)) hm
  have h1:(newRow e c).runT p w es=(.ok ⟨w.heap.size,0,none⟩ { w with heap:=w.heap.push (.cells c e)},es):=rfl
  have h2:(markStringish ⟨w.heap.size,0,none⟩).runT p { w with heap:=w.heap.push (.cells c e)} es=(.ok () { w with heap:=w.heap.push (.cells c e (c.size,c.size+1))},es):=by
   unfold markStringish;show (Sem.shape _ _:Sem Unit).runT _ _ _=_;simp only[Sem.runT];rw[hsh,←hfz];rfl
  show ((newRow e c).bind _).runT p w es=_;rw[Sem.runT_bind',h1];show ((markStringish ⟨w.heap.size,0,none⟩).bind _).runT p _ es=_;rw[Sem.runT_bind',h2];rfl
 exact .l8 (.cells c e (c.size,c.size+1)) _ _ (fun r=>.pure (.slice (some ⟨r,0,none⟩) x.size cap)) (fun r=>.pure (.slice (some ⟨r,0,none⟩) x.size cap)) trivial key key fun r=>.pure _ _ rfl
theorem Im{src dst e:TypeId}(hs:P.underlying src=some .string)(hd:P.underlying dst=some (.slice e))(he:P.underlying e=some (.int .u8))(x:Value):RE P P' C (convert src dst x) (convert src dst x):=by
 unfold convert;refine gC h hs (gC h hd ?_)
 cases x<;>(try dsimp only)<;>first|exact gC h he (Il _ _)|(repeat' (first|contradiction|exact bJ _ _|exact aN _ _|split))
theorem Io{src dst:TypeId}{k k':IntKind}(hs:P.underlying src=some (.int k'))(hd:P.underlying dst=some (.int k))(x:Value):RE P P' C (convert src dst x) (convert src dst x):=by
 unfold convert;refine gC h hs (gC h hd ?_)
 cases x<;>(try dsimp only)<;>repeat' (first|contradiction|exact aC _|exact Ik _ _ _|exact bJ _ _|exact aN _ _|split)
omit h in
theorem xp(v:Value):RE P P' C (Builtin.lenOf v) (Builtin.lenOf v):=by
 unfold Builtin.lenOf
 repeat' (first|exact aC _|exact aN _ _|split)
omit h in
theorem xq(s n:Nat)(v:Value):RE P P' C (Builtin.firstCells s n v) (Builtin.firstCells s n v):=by
 unfold Builtin.firstCells
 repeat' (first|exact aC _|exact aN _ _|exact A8 _ _|split)
omit h in
theorem Calm.pure{α:Type}(a:α):Calm P (Pure.pure a:Sem α):=fun w es=>⟨a,rfl⟩
omit h in
theorem Calm.shape(r:Nat):Calm P (Go.shape r):=fun w es=>⟨_,rfl⟩
omit h in
theorem Calm.frozen(a:Addr):Calm P (Go.frozen a):=fun w es=>⟨_,rfl⟩
omit h in
theorem Calm.bind{α β:Type}{s:Sem α}{f:α→Sem β}(hs:Calm P s)(hf:∀a,Calm P (f a)):Calm P (s >>= f):=fun w es=>by
 obtain⟨a,ha⟩:=hs w es;obtain⟨b,hb⟩:=hf a w es;refine⟨b,?_⟩;have e2:(s >>= f).runT P w es=(s.bind f).runT P w es:=rfl;rw[e2,Sem.runT_bind',ha];exact hb
omit h in
theorem Ip{α β:Type}{s:Sem α}{f:α→Sem β}{t:Sem β}{D:β→Prop}{Q:β→β→Prop}(hs:Calm P s)(hf:∀a w es,NP w→lZ w ((f a).runT P w es).1):RT P P' C D Q (s >>= f) t:=by
 refine .bad _ _ fun w es hn=>?_
 have e2:(s >>= f).runT P w es=(s.bind f).runT P w es:=rfl;rw[e2,Sem.runT_bind'];obtain⟨b,hb⟩:=hs w es;rw[hb];exact hf b w es hn
omit h in
theorem Bx{β:Type}{x n m:Nat}{o:Option Addr}{v:Value}{f:Bool→Sem β}{t:Sem β}(hf:∀a w es,NP w→lZ w ((f a).runT P w es).1):RE P P' C (Builtin.mayShare x n m o v >>= f) t:=by
 have key:Calm P (Builtin.mayShare x n m o v):=by
  unfold Builtin.mayShare Builtin.holdsCells
  repeat' (first|exact Calm.pure _|exact Calm.shape _|exact Calm.frozen _|refine Calm.bind ?_ fun _=>?_|split|dsimp only)
 exact Ip key hf
theorem Iq(ts:Array TypeId)(t:TypeId)(args:Array Value):RE P P' C (Builtin.append_ ts t args) (Builtin.append_ ts t args):=by
 unfold Builtin.append_;split
 ·refine aG (cY h _) fun td=>?_
  split
  ·split
   ·refine aG (dW h _) fun n=>?_
    have z:∀(f:Bool→Sem Value),(∀b,RE P P' C (f b) (f b))→RE P P' C (do
     let zeros ←match ts[1]? with
      |some xType=>do pure ((←Go.underlying xType) matches .int _)
      |none=>pure false
     f zeros) (do
     let zeros ←match ts[1]? with
      |some xType=>do pure ((←Go.underlying xType) matches .int _)
      |none=>pure false
     f zeros):=fun f hf=>by
     split
     ·exact aG (cY h _) fun _=>aG (aC _) hf
     ·exact aG (aC _) hf
    refine z _ fun b=>?_
    cases b
    ·simp only[Bool.false_eq_true,if_false,Bool.not_false,if_true]
     repeat' (first|contradiction|exact aC _|exact aN _ _|exact bJ _ _|exact dX h _|exact gA _|exact cY h _|exact dW h _|exact lE h _|exact jg h _|exact pL _|exact xp _|exact xq _ _ _|exact mT _ _ _|exact xh _|exact pK _ _|(refine Bx ?_;intro a w es hn;cases a<;>exact⟨trivial,id⟩)|refine aG ?_ fun _=>?_|split|dsimp only)
    ·simp only[Bool.true_eq_false,if_true,Bool.not_true,Bool.false_eq_true,if_false]
     repeat' (first|contradiction|exact aC _|exact aN _ _|exact bJ _ _|exact dX h _|exact gA _|exact cY h _|exact dW h _|exact lE h _|exact jg h _|exact pL _|exact xp _|exact xq _ _ _|exact mT _ _ _|exact xh _|exact pK _ _|(refine Bx ?_;intro a w es hn;cases a<;>exact⟨trivial,id⟩)|refine aG ?_ fun _=>?_|split|dsimp only)
   ·exact aN _ _
  ·exact aN _ _
 ·exact aN _ _
theorem Ir(ts:Array TypeId)(t:TypeId)(args:Array Value):RE P P' C (Builtin.copy_ ts t args) (Builtin.copy_ ts t args):=by
 unfold Builtin.copy_
 repeat' (first|exact aC _|exact aN _ _|exact cY h _|exact dW h _|exact xp _|exact xq _ _ _|exact mT _ _ _|refine aG ?_ fun _=>?_|split|dsimp only)
theorem Is(ts:Array TypeId)(t:TypeId)(args:Array Value):RE P P' C (Builtin.clear_ ts t args) (Builtin.clear_ ts t args):=by
 unfold Builtin.clear_
 repeat' (first|exact aC _|exact aN _ _|exact cY h _|exact lE h _|exact mT _ _ _|exact lD _ trivial|(refine jU _ (fun o ho=>?_) (fun o ho=>?_)<;>cases o<;>first|exact absurd trivial ho|exact aN _ _|exact aG (lD _ trivial) fun _=>aC _|exact aG (aN _ _) fun _=>aC _)|refine aG ?_ fun _=>?_|split|dsimp only)
theorem It{ts:Array TypeId}{t0:TypeId}{td:TypeDesc}(ht:ts[0]?=some t0)(hu:P.underlying t0=some td)(hd:(∃e,td=.slice e)∨td=.string)(t:TypeId)(args:Array Value):RE P P' C (Builtin.len_ ts t args) (Builtin.len_ ts t args):=by
 unfold Builtin.len_;rw[ht]
 cases args[0]? with
 |none=>exact aN _ _
 |some x=>
  refine gC h hu ?_
  rcases hd with ⟨e,rfl⟩|rfl<;>cases x<;>first|exact aC _|exact aN _ _
omit h in
theorem Iu(a b:Value):RE P P' C (Builtin.max2 a b) (Builtin.max2 a b):=by
 unfold Builtin.max2
 repeat' (first|exact aC _|exact aN _ _|exact bJ _ _|exact gA _|exact xj _ _ _|exact sE _|refine aG ?_ fun _=>?_|split|dsimp only)
omit h in
theorem Iv(a b:Value):RE P P' C (Builtin.min2 a b) (Builtin.min2 a b):=by
 unfold Builtin.min2
 repeat' (first|exact aC _|exact aN _ _|exact bJ _ _|exact gA _|exact xj _ _ _|exact sE _|refine aG ?_ fun _=>?_|split|dsimp only)
omit h in
theorem xr(f:Value→Value→Sem Value)(hf:∀a b,RE P P' C (f a b) (f a b)):∀(l:List Value)(a:Value),RE P P' C (l.foldlM f a) (l.foldlM f a)
 |[],a=>by rw[List.foldlM_nil];exact aC _
 |b::l,a=>by rw[List.foldlM_cons];exact aG (hf a b) fun c=>xr f hf l c
omit h in
theorem Iw(ts:Array TypeId)(t:TypeId)(args:Array Value):RE P P' C (Builtin.max_ ts t args) (Builtin.max_ ts t args):=by
 unfold Builtin.max_;split
 ·exact aN _ _
 ·exact xr _ Iu _ _
omit h in
theorem Ix(ts:Array TypeId)(t:TypeId)(args:Array Value):RE P P' C (Builtin.min_ ts t args) (Builtin.min_ ts t args):=by
 unfold Builtin.min_;split
 ·exact aN _ _
 ·exact xr _ Iv _ _
end
structure gK(P P':Program)(C:Cx)(bad:Nat→Prop):Prop where
 kin:Kin P P'
 funcs:∀f,(P.funcs[f]?=none∧P'.funcs[f]?=none)∨(C.xf f∧∃fn c fn' c',P.funcs[f]?=some fn∧(fn.name == "runtime.NumGoroutine")=false∧fn.body=some c∧P'.funcs[f]?=some fn'∧(fn'.name == "runtime.NumGoroutine")=false∧fn'.body=some c')∨(bad f∧∃fn c,P.funcs[f]?=some fn∧(fn.name == "runtime.NumGoroutine")=false∧fn.body=some c) ∨
  ∃fn c,P.funcs[f]?=some fn∧P'.funcs[f]?=some fn∧(fn.name == "runtime.NumGoroutine")=false∧fn.body=some c∧C.code c∧C.fn f
def okN(C:Cx)(P:Program):Next→Prop
 |.value _ | .skip=>True
 |.enter f _=>(∃fn c,P.funcs[f]?=some fn∧fn.body=some c∧C.code c∧C.fn f)∨C.xf f
 |.round _ f _ a b=>C.code a∧C.code b∧C.fn f
 |_=>False
def dmN(bad:Nat→Prop):Next→Prop
 |.enter f _=>bad f
 |.spawn _=>True
 |_=>False
section
variable{P P':Program}{C:Cx}{bad:Nat→Prop}
abbrev RN(P P':Program)(C:Cx)(bad:Nat→Prop)(s t:Sem Next):Prop:=RT P P' C (dmN bad) (fun a b=>a=b∧okN C P a) s t
theorem df{s t:Sem Value}(h:RE P P' C s t):RN P P' C bad (s >>= fun x=>pure (.value x)) (t >>= fun x=>pure (.value x)):=aG h fun v=>.pure _ _ ⟨rfl,trivial⟩
theorem xu{s t:Sem Unit}(h:RE P P' C s t):RN P P' C bad (s >>= fun _=>pure .skip) (t >>= fun _=>pure .skip):=aG h fun v=>.pure _ _ ⟨rfl,trivial⟩
theorem mU(v:Value):RN P P' C bad (pure (.value v)) (pure (.value v)):=.pure _ _ ⟨rfl,trivial⟩
variable(h:gK P P' C bad)
include h
theorem xw(f:FuncId)(args:Array Value):RN P P' C bad (callFunc f args) (callFunc f args):=by
 unfold callFunc;refine fK ?_
 rcases h.funcs f with ⟨e1,e2⟩|⟨hx,fn,c,fn',c',e1,hn,hc,e2,hn',hc'⟩|⟨hb,fn,c,e1,hn,hc⟩|⟨fn,c,e1,e2,hn,hc,hC⟩
 ·rw[e1,e2];exact aN _ _
 ·rw[e1,e2];simp only[hn,hc,hn',hc',Option.isNone_some,Bool.false_eq_true,if_false];exact .pure _ _ ⟨rfl,.inr hx⟩
 ·rw[e1];simp only[hn,hc,Option.isNone_some,Bool.false_eq_true,if_false];exact .kD _ _ hb
 ·rw[e1,e2];simp only[hn,hc,Option.isNone_some,Bool.false_eq_true,if_false];exact .pure _ _ ⟨rfl,.inl ⟨fn,c,e1,hc,hC⟩⟩
theorem xx(t:TypeId)(x:Place):RE P P' C (x.get t) (x.get t):=by
 cases x with
 |val v=>exact aC _
 |var a=>exact sA h.kin t a
theorem xy:∀(l:List FieldStep)(t:TypeId)(x:Place),RE P P' C (follow l t x) (follow l t x)
 |[],t,x=>aC _
 |s::r,t,x=>by
  unfold follow
  repeat' (first|exact aC _|exact aN _ _|exact cY h.kin _|exact sG h.kin _|exact xx h _ _|exact Bn h.kin _ _|exact jT h.kin _ _ _|exact xy r _ _|refine aG ?_ fun _=>?_|split|dsimp only)
theorem Iy(ts:Array TypeId)(t:TypeId)(a b c:Value):RE P P' C (Builtin.ssaWrapNilChk_ ts t #[a,b,c]) (Builtin.ssaWrapNilChk_ ts t #[a,b,c]):=by
 cases b<;>first|exact aN _ _|skip
 cases c<;>first|exact aN _ _|skip
 cases a<;>first|exact aN _ _|skip
 rename_i p
 cases p with
 |some x=>exact aC _
 |none=>
  unfold Builtin.ssaWrapNilChk_;dsimp only
  repeat' (first|exact aC _|exact aN _ _|exact bJ _ _|exact dX h.kin _|exact gA _|exact cY h.kin _|exact jg h.kin _|refine aG ?_ fun _=>?_|split|dsimp only)
theorem By(t:TypeId)(x:Place)(b:Bool)(o:Option String):RE P P' C (receiverAt t x b o) (receiverAt t x b o):=by
 unfold receiverAt
 repeat' (first|exact aC _|exact aN _ _|exact cY h.kin _|exact sG h.kin _|exact xx h _ _|exact sA h.kin _ _|exact Iy h _ _ _ _ _|refine aG ?_ fun _=>?_|split|dsimp only)
theorem Iz(t:TypeId)(v:Value)(l:Array FieldStep)(b:Bool):RE P P' C (receiverVia t v l b) (receiverVia t v l b):=by
 unfold receiverVia
 exact aG (xy h _ _ _) fun x=>By h _ _ _ _
theorem Bz:∀(n:Nat)(t:TypeId)(v:Value)(m:String),RE P P' C (method n t v m) (method n t v m)
 |0,_,_,_=>bJ _ _
 |n+1,t,v,m=>by
  unfold method
  repeat' (first|exact aC _|exact aN _ _|exact dX h.kin _|exact jg h.kin _|exact xy h _ _ _|exact xx h _ _|exact By h _ _ _ _|exact Bz n _ _ _|refine aG ?_ fun _=>?_|split|dsimp only)
theorem BA(x:Value)(m:String)(args:Array Value):RN P P' C bad (callMethod x m args) (callMethod x m args):=by
 have kt:P'.types=P.types:=by obtain⟨fs,rfl⟩:=h.kin.eq;rfl
 unfold callMethod;split
 ·refine fK ?_;rw[kt]
  exact aG (Bz h _ _ _ _) fun y=>xw h _ _
 ·exact dX h.kin _
 ·exact aN _ _
end
def gL(P:Program)(o:Oper):Bool:=match o.op with
 |.move _ | .assign _ | .pick .. | .alloc .. | .box .. | .build .. | .buildSlice .. | .load .. | .store .. | .nilCheck _ | .unOp .. | .makeInterface .. | .makeFunc .. | .makeMap .. | .makeSlice .. | .slice .. | .fieldAddr .. | .field .. | .indexAddr .. | .index .. | .extract .. | .panic _=>true
 |.binOp op t ..=>!(op == .eql || op == .neq) || jy P t
 |.convert s d _=>match P.underlying s,P.underlying d with|some (.int _),some (.int _)=>true|some .string,some (.slice e)=>(match P.underlying e with|some (.int .u8)=>true|_=>false)|_,_=>false
 |.lookup t .. | .mapUpdate t ..=>match P.underlying t with|some (.map k _)=>ea P 10 k|_=>false
 |.call c=>match c.callee with
  |.builtin .append | .builtin .copy | .builtin .clear | .builtin .max | .builtin .min=>true
  |.builtin .len=>match c.argTypes[0]? with
   |some t=>match P.underlying t with|some (.slice _)|some .string=>true|_=>false
   |none=>false
  |.value _=>true
  |_=>false
 |.go c=>match c.callee with
  |.value _=>true
  |_=>false
 |_=>false
section
variable{P P':Program}{C:Cx}{bad:Nat→Prop}(h:gK P P' C bad)
theorem IA{w:World}(h:ND w)(c:Array Value)(e:TypeId):ND { w with heap:=w.heap.push (.cells c e)}:=by
 intro b ds hb;simp only[Array.getElem?_push] at hb;split at hb
 ·cases hb
 ·exact h b ds hb
theorem IB{α:Type}(w:World)(es:Array Event):lZ w ((runtimePanic .panicNil:Sem α).runT P w es).1:=by
 unfold runtimePanic elemOf newVar newRow Go.underlying newObj;simp only[bind,Sem.bind,program,Sem.runT]
 rcases P.underlying P.rt.panicNilError with _|td
 ·exact⟨trivial,id⟩
 ·cases td<;>first|exact⟨trivial,id⟩|exact⟨trivial,fun h=>IA h _ _⟩
theorem ID(w:World)(c:Sys):(w.sys c).2.heap=w.heap:=by
 have ask:∀{α:Type}(a:Ask α)(w:World),(w.ask a).2.heap=w.heap:=by
  intro α a
  induction a with
  |done x=>intro w;rfl
  |ask what range k ih=>
   intro w;unfold World.ask;dsimp only;split
   ·exact ih _ w
   ·exact ih _ _
 unfold World.sys;have:=ask (Kernel.perform c w.os) w;split
 ·rfl
 ·rename_i e;rw[e] at this;exact this
theorem BB{w:World}(h:ND w)(c:Sys):ND (w.sys c).2:=fun b ds hb=>h b ds (by rw[ID] at hb;exact hb)
theorem IE{β:Type}{w w1:World}{r:Result β}(h:ND w→ND w1)(q:lZ w1 r):lZ w r:=by
 cases r with
 |ok a b=>exact q
 |halt a b=>exact⟨q.1,fun x=>q.2 (h x)⟩
theorem IF{β:Type}(f:Int→Sem β)(hf:∀a w es,lZ w ((f a).runT P w es).1)(w:World)(es:Array Event):lZ w ((Instr.panicnil >>= f).runT P w es).1:=by
 have e2:(Instr.panicnil >>= f).runT P w es=(Instr.panicnil.bind f).runT P w es:=rfl;rw[e2,Sem.runT_bind']
 rcases hr:Instr.panicnil.runT P w es with ⟨r,es'⟩
 unfold Instr.panicnil at hr;simp only[bind,Sem.bind,program,sys,Sem.runT,pure] at hr
 rcases hx:(w.sys .env).1<;>rw[hx] at hr<;>simp only[stuck,Sem.bind,Sem.runT,Prod.mk.injEq] at hr<;>obtain⟨rfl,rfl⟩:=hr<;>first
  |exact⟨trivial,fun h=>BB h _⟩
  |exact IE (fun h=>BB h _) (hf _ _ _)
theorem IG(v:Value)(t:Sem Value){D:Value→Prop}{Q:Value→Value→Prop}:RT P P' C D Q (Instr.panic v) t:=by
 unfold Instr.panic;split
 ·exact lC _ _
 ·refine .bad _ _ fun w es hn=>IF _ (fun n w es=>?_) w es
  split
  ·exact⟨trivial,id⟩
  ·exact IB w es
 ·exact aN _ _
include h
theorem BD:∀(l:List FieldStep)(t:TypeId)(x:Option Value),RE P P' C (followBlind l t x) (followBlind l t x)
 |[],t,x=>aC _
 |s::r,t,x=>by
  unfold followBlind
  repeat' (first|exact aC _|exact aN _ _|exact cY h.kin _|exact jT h.kin _ _ _|exact BD r _ _|refine aG ?_ fun _=>?_|split|dsimp only)
theorem BE:∀(n:Nat)(t:TypeId)(v:Value)(m:String),RE P P' C (nilAhead n t v m) (nilAhead n t v m)
 |0,_,_,_=>aC _
 |n+1,t,v,m=>by
  unfold nilAhead
  repeat' (first|exact aC _|exact aN _ _|exact jg h.kin _|exact BD h _ _ _|exact cY h.kin _|exact BE n _ _ _|refine aG ?_ fun _=>?_|split|dsimp only)
omit h in
theorem IH(l:Nat)(args:Array Value):RN P P' C bad (Instr.yield l args) (Instr.yield l args):=by
 unfold Instr.yield Instr.getLoop
 have key:∀r:Loop,C.code r.assign→C.code r.body→C.fn r.fn→RN P P' C bad (do
  if args.size≠r.params.size then stuck "yield: the wrong number of arguments"
  pure (Next.round l r.fn ((r.params.zip args).foldl (fun tmps (t,a)=>tmps.setIfInBounds t a) r.tmps) r.assign r.body)) (do
  if args.size≠r.params.size then stuck "yield: the wrong number of arguments"
  pure (Next.round l r.fn ((r.params.zip args).foldl (fun tmps (t,a)=>tmps.setIfInBounds t a) r.tmps) r.assign r.body)):=fun r h1 h2 h3=>by
  dsimp only;split
  ·exact aG (aN _ _) fun _=>.pure _ _ ⟨rfl,h1,h2,h3⟩
  ·exact .pure _ _ ⟨rfl,h1,h2,h3⟩
 refine gb (M:=fun a b=>a=b∧C.code a.assign∧C.code a.body∧C.fn a.fn) ?_ (fun a b hab=>by obtain⟨rfl,h1,h2,h3⟩:=hab;exact key a h1 h2 h3);refine jU l (fun o ho=>?_) (fun o ho=>?_)
 ·cases o<;>first|exact aN _ _|exact .pure _ _ ⟨rfl,ho.1,ho.2.1,ho.2.2.1⟩
 ·cases o<;>first|exact aN _ _|exact absurd trivial ho
theorem II(f:Fn)(cap args:Array Value):RN P P' C bad (invoke (.fn f cap) args) (invoke (.fn f cap) args):=by
 unfold invoke
 cases f with
 |func f=>exact xw h _ _
 |method m=>
  dsimp only;split
  ·exact BA h _ _ _
  ·exact aN _ _
 |methodOf t m=>
  dsimp only;split
  ·exact aG (cY h.kin _) fun d=>BA h _ _ _
  ·exact aN _ _
 |via t p f b=>
  dsimp only;split
  ·exact aG (Iz h _ _ _ _) fun r=>xw h _ _
  ·exact aN _ _
 |yield l=>exact IH _ _
theorem IJ{b:Builtin}{c:Call}{o:Oper}(hc:c.callee=.builtin b)(he:o.op=.call c)(hk:gL P o=true)(t:TypeId)(cs:Array Bool)(args:Array Value):RN P P' C bad (builtin b c.argTypes t cs args) (builtin b c.argTypes t cs args):=by
 unfold gL at hk;rw[he] at hk;simp only[hc] at hk;unfold builtin
 cases b<;>first|cases hk|skip
 ·exact df (Iq h.kin _ _ _)
 ·exact df (Is h.kin _ _ _)
 ·exact df (Ir h.kin _ _ _)
 ·revert hk
  rcases hx:c.argTypes[0]? with _|t0
  ·intro hk;cases hk
  ·rcases hu:P.underlying t0 with _|td
   ·intro hk;simp only[hu] at hk;cases hk
   ·intro hk;simp only[hu] at hk;refine df (It h.kin hx hu ?_ _ _)
    cases td<;>first|exact .inl ⟨_,rfl⟩|exact .inr rfl|(cases hk;done)
 ·exact df (Iw _ _ _)
 ·exact df (Ix _ _ _)
theorem BG{o:Oper}(ho:gL P o=true)(ρ:Operand→Value):RN P P' C bad (execOp ρ o) (execOp ρ o):=by
 have kt:P'.types=P.types:=by obtain⟨fs,rfl⟩:=h.kin.eq;rfl
 have hk:=ho;unfold gL at hk;unfold execOp
 split at hk<;>rename_i hx<;>(try rw[hx])<;>dsimp only
 ·exact mU _
 ·exact mU _
 ·exact aG (sE _) fun b=>mU _
 ·exact df (HW h.kin _ _)
 ·exact df (HX _ _)
 ·exact df (HY h.kin _ _)
 ·exact df (HZ h.kin _ _ _)
 ·exact df (H0 h.kin _ _)
 ·exact xu (H2 h.kin _ _ _)
 ·rename_i x;split
  ·exact dX h.kin _
  ·exact dX h.kin _
  ·exact dX h.kin _
  ·split
   ·exact dX h.kin _
   ·refine fK ?_;rw[kt]
    refine aG (BE h _ _ _ _) fun b=>?_
    split
    ·exact aG (bJ _ _) fun _=>mU _
    ·exact mU _
   ·exact mU _
  ·exact mU _
 ·exact df (HA _ _)
 ·exact df (H9 h.kin _ _)
 ·exact df (aC _)
 ·exact df (Ia h.kin _ _)
 ·exact df (Ib h.kin _ _ _)
 ·exact df (Ig h.kin _ _ _ _ _)
 ·exact df (H3 h.kin _ _ _)
 ·exact df (H8 h.kin _ _ _)
 ·exact df (H5 h.kin _ _ _)
 ·exact df (H6 h.kin _ _ _)
 ·exact df (H7 _ _)
 ·exact RT.bind (M:=fun _ _=>False) (IG _ _) fun a b e=>e.elim
 ·rename_i op t x y r
  have hp:op=.eql∨op=.neq→jy P t=true:=fun e=>by
   rcases e with rfl|rfl<;>simpa using hk
  exact df (aG (HU h.kin _ _ _ _ hp) fun _=>HV h.kin _ _ hp)
 ·rename_i s d x;split at hk
  ·rename_i h1 h2;exact df (Io h.kin h1 h2 _)
  ·rename_i h1 h2;split at hk
   ·rename_i h3;exact df (Im h.kin h1 h2 h3 _)
   ·cases hk
  ·cases hk
 ·split at hk
  ·rename_i h1;exact df (Ii h.kin h1 hk _ _ _)
  ·cases hk
 ·split at hk
  ·rename_i h1;exact xu (Ij h.kin h1 hk _ _ _)
  ·cases hk
 ·rename_i c;unfold resolve
  rcases hc:c.callee with f|⟨r,m⟩|b
  ·unfold Deferred.ofValue;dsimp only;split
   ·rename_i fn first cap hf
    change RT P P' C (dmN bad) _ (invoke (.fn fn cap) (first++c.args.map ρ)) (invoke (.fn fn cap) (first++c.args.map ρ))
    exact II h _ _ _
   ·change RT P P' C (dmN bad) _ (runtimePanic .nilDeref) (runtimePanic .nilDeref)
    exact dX h.kin _
   ·exact RT.bind (M:=fun _ _=>False) (aN _ _) fun a b e=>e.elim
  ·exfalso;simp only[hc] at hk;cases hk
  ·refine RT.bind (M:=fun d e=>d=e∧∃cs args,d = { target:=.builtin b c.argTypes o.type cs,args:=args }) (.pure _ _ ⟨rfl,_,_,rfl⟩) fun d e hde=>?_
   obtain⟨rfl,cs,args,rfl⟩:=hde;exact IJ h hc hx ho _ cs args
 ·rename_i c;unfold resolve
  rcases hc:c.callee with f|⟨r,m⟩|b<;>simp only[hc] at hk<;>first|cases hk|skip
  unfold Deferred.ofValue;dsimp only;split
  ·exact RT.kD (Next.spawn _) _ (show dmN bad (Next.spawn _) from trivial)
  ·exact RT.kD (Next.spawn _) _ (show dmN bad (Next.spawn _) from trivial)
  ·exact RT.bind (M:=fun _ _=>False) (aN _ _) fun a b e=>e.elim
 ·cases hk
end
end Go.Fc
namespace Go.Fc
open Go Go.Conc
class Xf where
 xf:Nat→Prop
 bot:Nat→Prop
 ds:Nat→List Deferred→Prop
 rng:Bool
variable[Xf]
def codeOk(P:Program):Code→Bool
 |.skip | .ret | .exit _ | .label _ | .refuse _=>true
 |.seq a b | .cond _ a b=>codeOk P a&&codeOk P b
 |.rangeFunc _ _ a b=>Xf.rng&&(codeOk P a&&codeOk P b)
 |.block _ c | .loop c | .scope c=>codeOk P c
 |.region _ ops _=>ops.toList.all (gL P)
 |.goto _=>false
abbrev Cd(P:Program)(c:Code):Prop:=codeOk P c=true
def Cc(P P':Program):Cx:=⟨Cd P,fun f=>(∃fn,P.funcs[f]?=some fn∧P'.funcs[f]?=some fn∧fn.norace=false)∧P.inits.idxOf? f=none,Xf.xf⟩
def nC(P:Program):Item→Prop
 |.code c | .inLoop c | .inScope c=>Cd P c
 |.inRegion ops _=>ops.toList.all (gL P)=true
 |.inBlock _ | .inRangeFunc _ | .endRangeFunc _ | .beginRound=>True
 |.call .. | .extern ..=>False
structure bD(P P':Program)(fr:Frame):Prop where
 todo:∀it∈fr.todo,nC P it
 kind:fr.kind≠.early
 calm:(fr.kind=.normal∧(∀d∈fr.defers,∃b,d = { target:=.collected b,args:=#[] })∧(Cc P P').fn fr.fn)∨(Xf.bot fr.fn∧fr.mode=.run∧fr.roundOf=none∧Xf.rng=false∧Xf.ds fr.fn fr.defers)
 mode:∀ch,fr.mode≠.panicking ch
 fn:∃fn fn',P.funcs[fr.fn]?=some fn∧P'.funcs[fr.fn]?=some fn'∧fn.norace=false∧fn'.norace=false
section
variable{P P':Program}{bad:Nat→Prop}{S:Sh}
theorem sI{p:Program}{fn:FuncId}{es:Array Event}:∀e∈seen p fn es,e∈es:=by
 unfold seen;obtain⟨l⟩:=es;simp only[List.foldl_toArray']
 have key:∀(l:List Event)(q:Bool)(kept:Array Event),∀e∈(l.foldl (init:=(q,kept)) fun (q,kept) e=>
  match e.loc with
  |.mark (.extern f)=>(((p.funcs[f]?).any (·.norace)),kept)
  |_=>(q,if q && !e.sync then kept else kept.push e)).2,e∈kept∨e∈l:=by
  intro l
  induction l with
  |nil=>intro q kept e he;exact .inl he
  |cons x l ih=>
   intro q kept e he;simp only[List.foldl_cons] at he;split at he
   ·rcases ih _ _ e he with h|h
    ·exact .inl h
    ·exact .inr (List.mem_cons_of_mem _ h)
   ·rcases ih _ _ e he with h|h
    ·split at h
     ·exact .inl h
     ·rcases Array.mem_push.1 h with h|h
      ·exact .inl h
      ·exact .inr (h▸List.mem_cons_self)
    ·exact .inr (List.mem_cons_of_mem _ h)
 intro e he
 rcases key l _ _ e he with h|h
 ·simp at h
 ·simpa using h
theorem pP{p:Program}{fn:FuncId}{f:Func}(hf:p.funcs[fn]?=some f)(hq:f.norace=false){es:Array Event}(he:∀e∈es,∀g,e.loc≠.mark (.extern g)):seen p fn es=es:=by
 unfold seen;dsimp only;rw[hf];simp only[Option.any_some,hq];obtain⟨l⟩:=es;simp only[List.foldl_toArray']
 have key:∀(l:List Event)(kept:Array Event),(∀e∈l,∀g,e.loc≠.mark (.extern g)) →
  (l.foldl (init:=(false,kept)) fun (q,kept) e=>match e.loc with
  |.mark (.extern f)=>(((p.funcs[f]?).any (·.norace)),kept)
  |_=>(q,if q && !e.sync then kept else kept.push e)).2=kept++l.toArray:=by
  intro l
  induction l with
  |nil=>intro kept _;simp
  |cons x l ih=>
   intro kept hl;simp only[List.foldl_cons];have hx:=hl x List.mem_cons_self;split
   ·rename_i f hf;exact absurd hf (hx f)
   ·simp only[Bool.false_and,Bool.false_eq_true,if_false];rw[ih _ fun e he=>hl e (List.mem_cons_of_mem _ he)];simp
 exact (key l #[] (by simpa using he)).trans (by simp)
theorem sJ{fn:FuncId}{f f':Func}(h1:P.funcs[fn]?=some f)(h2:P'.funcs[fn]?=some f')(h3:f.norace=false)(h4:f'.norace=false){es:Array Event}(he:∀e∈es,∀g,e.loc≠.mark (.extern g)):seen P' fn es=seen P fn es:=by
 rw[pP h1 h3 he,pP h2 h4 he]
def Fok(P P':Program)(fr fr':Frame):Prop:=(fr'=fr∧bD P P' fr)∨∃f args,Xf.xf f∧fr=Frame.enter P f args .normal∧fr'=Frame.enter P' f args .normal
def CF(P P':Program)(fr0:Frame)(cs:List Frame)(g':Goroutine)(fr':Frame):Prop:=
 ((g'.callers=cs∧g'.frame.fn=fr0.fn∨∃f1,bD P P' f1∧f1.fn=fr0.fn∧((Cc P P').fn g'.frame.fn∨Xf.xf g'.frame.fn)∧g'.callers=f1::cs)∧Fok P P' g'.frame fr')∨(fr'=g'.frame∧∃(c:Frame)(v:Value),cs=c::g'.callers∧g'.frame=c.finish v∧(Cc P P').fn fr0.fn) ∨
 (fr'=g'.frame∧g'.callers=cs∧g'.frame.fn=fr0.fn∧Xf.bot g'.frame.fn∧g'.frame.mode=.returning∧Xf.ds g'.frame.fn g'.frame.defers)
def iQ(P P':Program)(bad:Nat→Prop)(S:Sh)(fr0:Frame)(cs:List Frame)(A B:World)(g':Goroutine)(A':World)(es:Array Event)(t:GStep):Prop:=
 (∃f args cs,bad f∧g'.frame=Frame.enter P f args .normal∧g'.callers=cs)∨((∃ch,g'.frame.mode=.panicking ch)∨g'.dying≠none) ∨
 ((∀e∈es,S.cP e)→A.drawn≤A'.drawn∧A'.tape=A.tape∧A.heap.size≤A'.heap.size∧g'.status=.running∧g'.dying=none∧g'.offers=none ∧
   ((∀j,A.drawn+j<A'.drawn→B.tape (B.drawn+j)=A.tape (A.drawn+j)) →
     ∃fr2 B',CF P P' fr0 cs g' fr2∧t=.go { g' with frame:=fr2 } B' es∧Lk (Cc P P') S A' B'∧B'.tape=B.tape∧B'.drawn=B.drawn+(A'.drawn-A.drawn)∧Kept es B B'∧∀e∈es,EvT S B' e))
omit [Xf] in
theorem sK(fr:Frame)(v:Value):(fr.finish v).fn=fr.fn:=by unfold Frame.finish;split<;>rfl
theorem bD.finish{fr:Frame}(h:bD P P' fr)(v:Value):bD P P' (fr.finish v):=by
 have ht:=h.todo;unfold Frame.finish;split
 ·rename_i ops i rest k e;rw[e] at ht
  exact⟨fun it hit=>by
   rcases List.mem_cons.1 hit with rfl|hit
   ·exact ht (.inRegion ops (i::rest)) List.mem_cons_self
   ·exact ht it (List.mem_cons_of_mem _ hit),h.kind,h.calm,h.mode,h.fn⟩
 ·rename_i l k e;rw[e] at ht
  exact⟨fun it hit=>by
   rcases List.mem_cons.1 hit with rfl|hit
   ·trivial
   ·exact ht it (List.mem_cons_of_mem _ hit),h.kind,h.calm,h.mode,h.fn⟩
 ·rename_i k e;rw[e] at ht;exact⟨fun it hit=>ht it (List.mem_cons_of_mem _ hit),h.kind,h.calm,h.mode,h.fn⟩
 ·rename_i k e;rw[e] at ht;exact (ht _ List.mem_cons_self).elim
 ·rename_i k e;rw[e] at ht;exact (ht _ List.mem_cons_self).elim
 ·exact h
theorem sL{S:Sh}{n:World}{e:Event}(h:EvT S n e)(g:FuncId):e.loc≠.mark (.extern g):=by
 rcases h with ⟨a,wr,rfl,_,_⟩|⟨r,wr,sy,rfl,_,_⟩|rfl<;>simp
theorem bD.enter{f:FuncId}{fn:Func}{c:Code}(h1:P.funcs[f]?=some fn)(h2:P'.funcs[f]?=some fn)(hb:fn.body=some c)(hc:Cd P c)(hi:(Cc P P').fn f)(args:Array Value):bD P P' (Frame.enter P f args .normal):=by
 refine⟨fun it hit=>?_,by simp[Frame.enter],.inl ⟨rfl,fun d hd=>by simp[Frame.enter] at hd,hi⟩,fun ch=>by simp[Frame.enter],hi.1.imp fun fn h=>⟨fn,h.1,h.2.1,h.2.2,h.2.2⟩⟩;simp only[Frame.enter,h1,Option.bind_some,hb,Option.getD_some,List.mem_singleton] at hit;subst hit;exact hc
theorem IK{f:FuncId}{fn:Func}(h1:P.funcs[f]?=some fn)(h2:P'.funcs[f]?=some fn)(args:Array Value)(k:CallKind):Frame.enter P' f args k=Frame.enter P f args k:=by
 unfold Frame.enter;rw[h1,h2]
theorem BH(fr:Frame)(vs:List PanicEntry):∃ch,(fr.raise vs).mode=.panicking ch:=by
 unfold Frame.raise
 split<;>exact⟨_,rfl⟩
theorem sN(hk:gK P P' (Cc P P') bad){fr:Frame}{cs:List Frame}{A B:World}(hf:bD P P' fr){s:Sem Next}(hs:RN P P' (Cc P P') bad s s)(hl:Lk (Cc P P') S A B){g':Goroutine}{A':World}{es:Array Event}(hg:stepG.apply P true fr cs none s A=.go g' A' es):iQ P P' bad S fr cs A B g' A' es (stepG.apply P' true fr cs none s B):=by
 have hearly:(fr.kind == .early)=false:=by have:=hf.kind;cases hk:fr.kind<;>first|rfl|exact absurd hk this
 obtain⟨fn,fn',hn1,hn2,hn3,hn4⟩:=hf.fn;unfold stepG.apply at hg;simp only[if_true,hearly,Bool.false_eq_true,if_false] at hg
 rcases hr:s.runT P A #[] with ⟨r,es0⟩
 rw[hr] at hg
 cases r with
 |halt x A1=>
  obtain⟨hc,hnd⟩:=Hq hs A B #[] x A1 es0 hl hr
  cases x<;>first|exact hc.elim|skip
  ·simp only[GStep.after,GStep.go.injEq] at hg;obtain⟨rfl,_,_⟩:=hg;exact .inr (.inl (.inl (BH fr _)))
  ·rename_i u
   cases u<;>first|exact hc.elim|(simp[GStep.after] at hg;done)
  ·simp[GStep.after] at hg
 |ok n A1=>
  have hnocall:∀d w rs sv k,fr.todo≠.call d w rs sv::k:=fun d w rs sv k e=>by
   have:=hf.todo (.call d w rs sv) (by rw[e];exact List.mem_cons_self);exact this
  by_cases hd:dmN bad n
  ·cases n<;>first|exact hd.elim|skip
   rotate_left
   ·dsimp only at hg
    repeat' split at hg
    all_goals first|(simp[GStep.after] at hg;done)|skip
    all_goals
     simp only[GStep.after,endThrow,dieOf,GStep.go.injEq] at hg;obtain⟨rfl,_,_⟩:=hg;exact .inr (.inl (.inr (by simp)))
   rename_i f args;refine .inl ⟨f,args,fr::cs,hd,?_⟩
   rcases ht:fr.todo with _|⟨it,k⟩
   ·simp only[ht,GStep.after,GStep.go.injEq] at hg;obtain⟨rfl,_,_⟩:=hg;exact⟨rfl,rfl⟩
   ·cases it<;>first|exact absurd ht (hnocall _ _ _ _ _)|(simp only[ht,GStep.after,GStep.go.injEq] at hg;obtain⟨rfl,_,_⟩:=hg;exact⟨rfl,rfl⟩)
  ·obtain⟨ho1,ho2⟩:=uk hs A B #[] n A1 es0 hl hr
   have hq:okN (Cc P P') P n:=let ⟨_,h⟩:=ho1.resolve_left hd;h.2
   have hsn:seen P fr.fn es0=es0:=pP hn1 hn3 fun e he=>(ho2 e he).resolve_left (by simp)
   have run:(∀e∈seen P fr.fn es0++#[],S.cP e)→Alike P' (Cc P P') S s (fun a b=>a=b∧okN (Cc P P') P a) A B #[] #[] n A1 es0:=fun hv=>(sw hs A B #[] #[] n A1 es0 hl hr fun e he=>hv e (by rw[hsn];simpa using he)).resolve_left hd
   have fin:∀(g:Goroutine),g.status=.running→g.dying=none→g.offers=none→bD P P' g.frame→(g.callers=cs∧g.frame.fn=fr.fn∨∃f1,bD P P' f1∧f1.fn=fr.fn∧((Cc P P').fn g.frame.fn∨Xf.xf g.frame.fn)∧g.callers=f1::cs) →
    g=g'∧A1=A'∧seen P fr.fn es0++#[]=es →
    (∀B',s.runT P' B #[]=(.ok n B',es0)→stepG.apply P' true fr cs none s B=.go g B' (seen P' fr.fn es0)) →
    iQ P P' bad S fr cs A B g' A' es (stepG.apply P' true fr cs none s B):=by
    intro g h1 h2 h3 h4 h5 he hgo;obtain⟨rfl,rfl,rfl⟩:=he;refine .inr (.inr fun hv=>?_);have ha:=run hv;refine⟨ha.drawn,ha.tape,ha.size,h1,h2,h3,fun ag=>?_⟩;obtain⟨b,B',new,y1,y2,⟨rfl,_⟩,y3,y4,y5,y7,y6⟩:=ha.alike ag
    have en:new=es0:=by rw[y2];simp
    subst en;refine⟨g.frame,B',.inl ⟨h5,.inl ⟨rfl,h4⟩⟩,?_,y3,y4,y5,by rw[hsn];simpa using y7,fun e he=>y6 e (sI e (by simpa using he))⟩;rw[hgo B' (by rw[y1];simp),sJ hn1 hn2 hn3 hn4 fun e he=>sL (y6 e he)];simp
   cases n<;>first|exact hq.elim|skip
   ·rename_i v;simp only[GStep.after,GStep.go.injEq] at hg
    refine fin _ ?_ ?_ ?_ ?_ ?_ hg fun B' hb=>?_
    all_goals first|rfl|exact hf.finish v|exact .inl ⟨rfl,sK fr _⟩|skip
    unfold stepG.apply;simp[-Sem.runT_eq,hb,hearly,GStep.after]
   ·simp only[GStep.after,GStep.go.injEq] at hg
    refine fin _ ?_ ?_ ?_ ?_ ?_ hg fun B' hb=>?_
    all_goals first|rfl|exact hf.finish _|exact .inl ⟨rfl,sK fr _⟩|skip
    unfold stepG.apply;simp[-Sem.runT_eq,hb,hearly,GStep.after]
   ·rename_i f args
    have hg2:GStep.go { frame:=Frame.enter P f args .normal,callers:=fr::cs,status:=.running,dying:=none } A1 (seen P fr.fn es0++#[])=.go g' A' es:=by
     rw[←hg]
     rcases ht:fr.todo with _|⟨it,k⟩
     ·rfl
     ·cases it<;>first|exact absurd ht (hnocall _ _ _ _ _)|rfl
    by_cases hx:Xf.xf f
    ·rw[GStep.go.injEq] at hg2;obtain⟨rfl,rfl,rfl⟩:=hg2;refine .inr (.inr fun hv=>?_);have ha:=run hv;refine⟨ha.drawn,ha.tape,ha.size,rfl,rfl,rfl,fun ag=>?_⟩;obtain⟨b,B',new,y1,y2,⟨rfl,_⟩,y3,y4,y5,y7,y6⟩:=ha.alike ag
     have en:new=es0:=by rw[y2];simp
     subst en;refine⟨Frame.enter P' f args .normal,B',.inl ⟨.inr ⟨fr,hf,rfl,.inr hx,rfl⟩,.inr ⟨f,args,hx,rfl,rfl⟩⟩,?_,y3,y4,y5,by rw[hsn];simpa using y7,fun e he=>y6 e (sI e (by simpa using he))⟩;unfold stepG.apply;rw[show s.runT P' B #[]=(.ok (.enter f args) B',new) from by rw[y1];simp];simp only[if_true,hearly,Bool.false_eq_true,if_false,GStep.after];rw[sJ hn1 hn2 hn3 hn4 fun e he=>sL (y6 e he)]
     rcases ht:fr.todo with _|⟨it,k⟩
     ·rfl
     ·cases it<;>first|exact absurd ht (hnocall _ _ _ _ _)|rfl
    obtain⟨fn2,c2,q1,q2,q3,q5⟩:=hq.resolve_right hx
    have q4:P'.funcs[f]?=some fn2:=by
     rcases hk.funcs f with ⟨e1,_⟩|⟨hx',_⟩|⟨hb,_⟩|⟨fn3,c3,e1,e2,_⟩
     ·rw[q1] at e1;cases e1
     ·exact absurd hx' hx
     ·exact absurd hb hd
     ·rw[q1] at e1;obtain rfl:=Option.some.inj e1;exact e2
    rw[GStep.go.injEq] at hg2
    refine fin _ ?_ ?_ ?_ ?_ ?_ hg2 fun B' hb=>?_
    all_goals first|rfl|exact bD.enter q1 q4 q2 q3 q5 args|exact .inr ⟨fr,hf,rfl,.inl q5,rfl⟩|skip
    unfold stepG.apply;simp only[if_true,hb,hearly,Bool.false_eq_true,if_false,GStep.after];rw[IK q1 q4]
    rcases ht:fr.todo with _|⟨it,k⟩
    ·simp
    ·cases it<;>first|exact absurd ht (hnocall _ _ _ _ _)|simp
   ·rename_i l f tmps a b;obtain⟨q1,q2,q3⟩:=hq;simp only[GStep.after,GStep.go.injEq] at hg
    refine fin _ ?_ ?_ ?_ ?_ ?_ hg fun B' hb=>?_
    all_goals first|rfl|exact .inr ⟨fr,hf,rfl,.inl q3,rfl⟩|skip
    ·refine⟨fun it hit=>?_,by simp[Frame.round],.inl ⟨rfl,fun d hd=>by simp[Frame.round] at hd,q3⟩,fun ch=>by simp[Frame.round],q3.1.imp fun fn h=>⟨fn,h.1,h.2.1,h.2.2,h.2.2⟩⟩;simp only[Frame.round,List.mem_cons,List.not_mem_nil,or_false] at hit
     rcases hit with rfl|rfl|rfl
     ·exact q1
     ·trivial
     ·exact q2
    ·unfold stepG.apply;simp[-Sem.runT_eq,hb,hearly,GStep.after]
end
end Go.Fc
namespace Go.Fc
open Go Go.Conc
variable[Xf]
section
variable{P P':Program}{bad:Nat→Prop}{S:Sh}
theorem iQ.stay{A B:World}{fr0 fr:Frame}{cs:List Frame}(hf:bD P P' fr)(hfn:fr.fn=fr0.fn)(hl:Lk (Cc P P') S A B):iQ P P' bad S fr0 cs A B { frame:=fr,callers:=cs,status:=.running,dying:=none } A #[] (.go { frame:=fr,callers:=cs,status:=.running,dying:=none } B #[]):=
 .inr (.inr fun _=>⟨Nat.le_refl _,rfl,Nat.le_refl _,rfl,rfl,rfl,fun _=>⟨fr,B,.inl ⟨.inl ⟨rfl,hfn⟩,.inl ⟨rfl,hf⟩⟩,rfl,hl,rfl,by simp,.refl _ _,by simp⟩⟩)
theorem bD.zb{fr:Frame}(h:bD P P' fr){todo:List Item}(ht:∀it∈todo,nC P it):bD P P' { fr with todo }:=⟨ht,h.kind,h.calm,h.mode,h.fn⟩
theorem xz(id:Nat):∀(k k':List Item),exitTo id k=some k'→∀it∈k',it∈k
 |[],_,h=>by simp[exitTo] at h
 |x::k,k',h=>by
  intro it hit
  cases x<;>simp only[exitTo] at h<;>first
   |exact List.mem_cons_of_mem _ (xz id k k' h it hit)
   |(split at h
     ·obtain rfl:=Option.some.inj h;exact List.mem_cons_of_mem _ hit
     ·exact List.mem_cons_of_mem _ (xz id k k' h it hit))
theorem IL(h:Kin P P')(d:Departure):P'.follows d=P.follows d:=by obtain⟨fs,rfl⟩:=h.eq;rfl
theorem IM(h:Kin P P'):P'.inits=P.inits:=by obtain⟨fs,rfl⟩:=h.eq;rfl
theorem BI{main:Bool}{fr:Frame}{cs:List Frame}{A1:World}{v:Value}(hf:(Cc P P').fn fr.fn)(hn:fr.kind=.normal)(hmain:main=true∨cs≠[]){g':Goroutine}{A':World}{es':Array Event}(hg:doReturn P main fr cs none v A1=.go g' A' es'):∃caller rest,cs=caller::rest∧g' = { frame:=caller.finish v,callers:=rest,status:=.running,dying:=none }∧A'=A1∧es'=#[]∧∀(Q:Program)(w:World),doReturn Q main fr cs none v w=.go g' w #[]:=by
 unfold doReturn at hg
 cases cs with
 |nil=>
  exfalso;obtain rfl:=hmain.resolve_right (by simp);simp only[hn,Bool.not_true,Bool.false_eq_true,if_false,hf.2] at hg;cases hg
 |cons c r=>
  simp only[hn,GStep.go.injEq] at hg;obtain⟨rfl,rfl,rfl⟩:=hg;exact⟨c,r,rfl,rfl,rfl,rfl,fun Q w=>by unfold doReturn;simp only[hn]⟩
theorem sP{α:Type}{fr:Frame}{cs:List Frame}{A B:World}(hf:bD P P' fr)(hl:Lk (Cc P P') S A B){s:Sem α}(hs:RE P P' (Cc P P') s s){v:α}{A1:World}{es0:Array Event}(hr:s.runT P A #[]=(.ok v A1,es0)){g:Goroutine}(h1:g.status=.running)(h2:g.dying=none)(h3:g.offers=none)(h4:CF P P' fr cs g g.frame){t:GStep}(ht:∀B',s.runT P' B #[]=(.ok v B',es0)→t=.go g B' (seen P' fr.fn es0)):iQ P P' bad S fr cs A B g A1 (seen P fr.fn es0) t:=by
 obtain⟨fn,fn',hn1,hn2,hn3,hn4⟩:=hf.fn
 have hsn:seen P fr.fn es0=es0:=pP hn1 hn3 fun e he=>((uk hs A B #[] v A1 es0 hl hr).2 e he).resolve_left (by simp)
 refine .inr (.inr fun hv=>?_);have ha:=(sw hs A B #[] #[] v A1 es0 hl hr fun e he=>hv e (by rw[hsn];exact he)).resolve_left id;refine⟨ha.drawn,ha.tape,ha.size,h1,h2,h3,fun ag=>?_⟩;obtain⟨b,B',new,y1,y2,rfl,y3,y4,y5,y7,y6⟩:=ha.alike ag
 have en:new=es0:=by rw[y2];simp
 subst en;refine⟨g.frame,B',h4,?_,y3,y4,y5,by rw[hsn];exact y7,fun e he=>y6 e (sI e he)⟩;rw[ht B' (by rw[y1];simp),sJ hn1 hn2 hn3 hn4 fun e he=>sL (y6 e he)]
theorem IN(l:Nat)(j:Option Code)(hj:∀c,j=some c→Cd P c):RE P P' (Cc P P') (Instr.endRound l j) (Instr.endRound l j):=by
 unfold Instr.endRound Instr.getLoop;refine gb (M:=fun a b=>a=b∧okO (Cc P P') (.loop a)) ?_ (fun a b hab=>?_)
 ·refine jU l (fun o ho=>?_) (fun o ho=>?_)
  ·cases o<;>first|exact aN _ _|exact .pure _ _ ⟨rfl,ho⟩
  ·cases o<;>first|exact aN _ _|exact absurd trivial ho
 ·obtain⟨rfl,hl⟩:=hab
  exact aG (lD l ⟨hl.1,hl.2.1,hl.2.2.1,fun c e=>hj c e⟩) fun _=>aC _
theorem sQ(l:Nat):RT P P' (Cc P P') (fun _=>False) (fun a b=>a=b∧okO (Cc P P') (.loop a)) (Instr.getLoop l) (Instr.getLoop l):=by
 unfold Instr.getLoop;refine jU l (fun o ho=>?_) (fun o ho=>?_)
 ·cases o<;>first|exact aN _ _|exact .pure _ _ ⟨rfl,ho⟩
 ·cases o<;>first|exact aN _ _|exact absurd trivial ho
theorem IP(hk:gK P P' (Cc P P') bad)(o:Option Nat):RN P P' (Cc P P') bad (do o.elim (stuck "beginRound: no round") Instr.beginRound;pure .skip) (do o.elim (stuck "beginRound: no round") Instr.beginRound;pure .skip):=by
 refine xu ?_
 cases o with
 |none=>exact aN _ _
 |some l=>
  simp only[Option.elim];unfold Instr.beginRound
  refine gb (sQ l) fun a b hab=>?_
  obtain⟨rfl,hl⟩:=hab
  refine aG (lD l hl) fun _=>?_
  split
  ·exact aC _
  all_goals exact dX hk.kin _
theorem BJ(hk:gK P P' (Cc P P') bad)(l:Nat):RT P P' (Cc P P') (fun _=>False) (fun a b=>a=b∧∀c,a=some c→Cd P c) (Instr.endLoop l) (Instr.endLoop l):=by
 unfold Instr.endLoop
 refine gb (sQ l) fun a b hab=>?_
 obtain⟨rfl,hl⟩:=hab
 have tail:RT P P' (Cc P P') (fun _=>False) (fun a b=>a=b∧∀c,a=some c→Cd P c) (do setObj l (.loop { a with state:=.exhausted });pure a.pending) (do setObj l (.loop { a with state:=.exhausted });pure a.pending):=
  aG (lD l hl) fun _=>.pure _ _ ⟨rfl,hl.2.2.2⟩
 dsimp only;split
 ·exact gb (M:=fun _ _=>False) (dX hk.kin _) fun a b e=>e.elim
 ·exact tail
theorem IQ{fn:FuncId}(hfn:(Cc P P').fn fn)(T:Array Value)(ps:Array Tmp){a b:Code}(ha:Cd P a)(hb:Cd P b)(o:Option Nat):RT P P' (Cc P P') (fun _=>False) (fun x y=>x=y∧∀d∈x.2,∃r,d = { target:=.collected r,args:=#[] }) (Instr.enterLoop fn T ps a b o) (Instr.enterLoop fn T ps a b o):=by
 have tail:∀(ds:Nat)(m:List Deferred),(∀d∈m,∃r,d = { target:=.collected r,args:=#[] })→RT P P' (Cc P P') (fun _=>False) (fun x y=>x=y∧∀d∈x.2,∃r,d = { target:=.collected r,args:=#[] })
  (do pure (←newObj (.loop { state:=.ready,pending:=none,fn,tmps:=T,params:=ps,assign:=a,body:=b,defers:=ds }),m)) (do pure (←newObj (.loop { state:=.ready,pending:=none,fn,tmps:=T,params:=ps,assign:=a,body:=b,defers:=ds }),m)):=fun ds m hm=>
  aG (oe (o:=.loop { state:=.ready,pending:=none,fn,tmps:=T,params:=ps,assign:=a,body:=b,defers:=ds }) ⟨ha,hb,hfn,fun c e=>by cases e⟩) fun r=>.pure _ _ ⟨rfl,hm⟩
 unfold Instr.enterLoop
 cases o with
 |some l=>
  dsimp only
  first
   |exact gb (M:=fun x y=>x=y∧∀d∈x.2,∃r,d = { target:=.collected r,args:=#[] }) (gb (sQ l) fun x y hxy=>by obtain⟨rfl,_⟩:=hxy;exact .pure _ _ ⟨rfl,by simp⟩) (fun x y hxy=>by obtain⟨rfl,hm⟩:=hxy;exact tail _ _ hm)
   |exact gb (sQ l) fun x y hxy=>by
     obtain⟨rfl,_⟩:=hxy;exact gb (M:=fun x y=>x=y∧∀d∈x.2,∃r,d = { target:=.collected r,args:=#[] }) (.pure _ _ ⟨rfl,by simp⟩) (fun x y hxy=>by obtain⟨rfl,hm⟩:=hxy;exact tail _ _ hm)
 |none=>
  dsimp only
  first
   |exact gb (M:=fun x y=>x=y∧∀d∈x.2,∃r,d = { target:=.collected r,args:=#[] }) (aG (oe (o:=.deferred (some [])) trivial) fun r=>.pure _ _ ⟨rfl,by simp⟩) (fun x y hxy=>by obtain⟨rfl,hm⟩:=hxy;exact tail _ _ hm)
   |exact aG (oe (o:=.deferred (some [])) trivial) fun r=>gb (M:=fun x y=>x=y∧∀d∈x.2,∃r,d = { target:=.collected r,args:=#[] }) (.pure _ _ ⟨rfl,by simp⟩) (fun x y hxy=>by obtain⟨rfl,hm⟩:=hxy;exact tail _ _ hm)
theorem xA{α:Type}{Q:α→α→Prop}{A B:World}(hl:Lk (Cc P P') S A B){s:Sem α}(hs:RT P P' (Cc P P') (fun _=>False) Q s s){v:α}{A1:World}{es0:Array Event}(hr:s.runT P A #[]=(.ok v A1,es0)):∃b,Q v b:=by
 exact (uk hs A B #[] v A1 es0 hl hr).1.resolve_left id
theorem IS{main:Bool}(hk:gK P P' (Cc P P') bad){fr:Frame}{cs:List Frame}{A B:World}(hf:bD P P' fr)(hrun:fr.mode=.run)(hmain:main=true∨cs≠[])(hl:Lk (Cc P P') S A B){g':Goroutine}{A':World}{es:Array Event}(hg:stepG.exec P main true fr cs none A=.go g' A' es):iQ P P' bad S fr cs A B g' A' es (stepG.exec P' main true fr cs none B):=by
 have hto:=hf.todo
 have hret:(fr.kind=.normal∧(∀d∈fr.defers,∃b,d = { target:=.collected b,args:=#[] })∧(Cc P P').fn fr.fn)→bD P P' { fr with mode:=.returning }:=fun h=>⟨hf.todo,hf.kind,.inl h,fun ch=>by simp,hf.fn⟩
 have leave_:∀(h0:fr.roundOf=none),(∀(Q:Program)(w:World),stepG.exec Q main true fr cs none w=.go { frame:={ fr with mode:=.returning },callers:=cs,status:=.running,dying:=none } w #[]) →
  iQ P P' bad S fr cs A B g' A' es (stepG.exec P' main true fr cs none B):=fun h0 e2=>by
  rw[e2,GStep.go.injEq] at hg;obtain⟨rfl,rfl,rfl⟩:=hg;rw[e2]
  rcases hf.calm with h|⟨h,_,_,_,hds⟩
  ·exact .stay (hret h) rfl hl
  ·exact .inr (.inr fun _=>⟨Nat.le_refl _,rfl,Nat.le_refl _,rfl,rfl,rfl,fun _=>⟨_,B,.inr (.inr ⟨rfl,rfl,rfl,h,rfl,hds⟩),rfl,hl,rfl,by simp,.refl _ _,by simp⟩⟩)
 have leaveR:∀(l:Nat)(j:Option Code),fr.roundOf=some l→(∀c,j=some c→Cd P c)→(∀(Q:Program)(w:World),stepG.exec Q main true fr cs none w=GStep.after (seen Q fr.fn ((Instr.endRound l j).runT Q w #[]).2) (match ((Instr.endRound l j).runT Q w #[]).1 with
  |.ok v w=>doReturn Q main fr cs none v w
  |.halt _ w=>.ended (.stuck "range over a function: no such loop" (fr.pos Q)) w))→iQ P P' bad S fr cs A B g' A' es (stepG.exec P' main true fr cs none B):=fun l j hr0 hj e2=>by
  have hcal:=hf.calm.resolve_right (fun h=>by rw[h.2.2.1] at hr0;cases hr0);have hn:fr.kind=.normal:=hcal.1;rw[e2] at hg
  rcases hr:(Instr.endRound l j).runT P A #[] with ⟨r,es0⟩
  rw[hr] at hg
  cases r with
  |halt x w=>simp[GStep.after] at hg
  |ok v A1=>
   dsimp only at hg
   cases hd:doReturn P main fr cs none v A1 with
   |go g1 w1 es1=>
    rw[hd] at hg;simp only[GStep.after] at hg;obtain⟨caller,rest,rfl,rfl,rfl,rfl,hQ⟩:=BI hcal.2.2 hn hmain hd;rw[GStep.go.injEq] at hg;obtain⟨rfl,rfl,rfl⟩:=hg;rw[Array.append_empty]
    refine sP hf hl (IN l j hj) hr rfl rfl rfl (.inr (.inl ⟨rfl,caller,v,rfl,rfl,hcal.2.2⟩)) fun B' hb=>?_
    rw[e2,hb];dsimp only;rw[hQ];simp[GStep.after]
   |_=>rw[hd] at hg;simp only[GStep.after] at hg;cases hg
 rcases ht:fr.todo with _|⟨it,k⟩
 ·rcases h0:fr.roundOf with _|l
  ·exact leave_ h0 fun Q w=>by simp only[stepG.exec,ht,h0];rfl
  ·exact leaveR l none h0 (fun c e=>by cases e) fun Q w=>by simp only[stepG.exec,ht,h0];rfl
 ·rw[ht] at hto;have hk1:=hto it List.mem_cons_self
  have hk2:∀x∈k,nC P x:=fun x hx=>hto x (List.mem_cons_of_mem _ hx)
  have cons_:∀{a:Item}{l:List Item},nC P a→(∀x∈l,nC P x)→∀x∈a::l,nC P x:=fun ha hl x hx=>(List.mem_cons.1 hx).elim (fun e=>e▸ha) (hl x)
  have move:∀(todo:List Item),(∀x∈todo,nC P x)→stepG.exec P main true fr cs none A=.go { frame:={ fr with todo },callers:=cs,status:=.running,dying:=none } A #[] →
   stepG.exec P' main true fr cs none B=.go { frame:={ fr with todo },callers:=cs,status:=.running,dying:=none } B #[]→iQ P P' bad S fr cs A B g' A' es (stepG.exec P' main true fr cs none B):=fun todo h1 h2 h3=>by
   rw[h2,GStep.go.injEq] at hg;obtain⟨rfl,rfl,rfl⟩:=hg;rw[h3];exact .stay (hf.zb h1) rfl hl
  cases it with
  |inBlock id=>exact move k hk2 (by simp only[stepG.exec,ht]) (by simp only[stepG.exec,ht])
  |inScope c=>exact move k hk2 (by simp only[stepG.exec,ht]) (by simp only[stepG.exec,ht])
  |inLoop c=>exact move _ (cons_ (a:=.code c) hk1 (cons_ (a:=.inLoop c) hk1 hk2)) (by simp only[stepG.exec,ht]) (by simp only[stepG.exec,ht])
  |inRangeFunc l=>simp only[stepG.exec,ht] at hg;cases hg
  |endRangeFunc l=>
   have e2:∀(Q:Program)(w:World),stepG.exec Q main true fr cs none w=GStep.after (seen Q fr.fn ((Instr.endLoop l).runT Q w #[]).2) (match ((Instr.endLoop l).runT Q w #[]).1 with
    |.ok jump w=>.go { frame:={ fr with todo:=(jump.map Item.code).toList++k },callers:=cs,status:=.running,dying:=none } w
    |.halt (.panic v) w=>.go { frame:=fr.raise [{ v,recovered:=false }],callers:=cs,status:=.running,dying:=none } w
    |.halt _ w=>.ended (.stuck "range over a function: no such loop" (fr.pos Q)) w):=fun Q w=>by simp only[stepG.exec,ht];rfl
   rw[e2] at hg
   rcases hr:(Instr.endLoop l).runT P A #[] with ⟨r,es0⟩
   rw[hr] at hg
   cases r with
   |halt x w=>
    cases x<;>simp only[GStep.after] at hg<;>first|(cases hg;done)|skip
    rw[GStep.go.injEq] at hg;obtain⟨rfl,_,_⟩:=hg;exact .inr (.inl (.inl (BH fr _)))
   |ok jump A1=>
    simp only[GStep.after] at hg;rw[GStep.go.injEq] at hg;obtain⟨rfl,rfl,rfl⟩:=hg;rw[Array.append_empty];obtain⟨_,rfl,hj⟩:=xA hl (BJ hk l) hr
    refine sP hf hl ((BJ hk l).mono (fun _ h=>h) fun _ _ h=>h.1) hr rfl rfl rfl (.inl ⟨.inl ⟨rfl,rfl⟩,.inl ⟨rfl,hf.zb fun x hx=>?_⟩⟩) fun B' hb=>?_
    ·rcases List.mem_append.1 hx with hx|hx
     ·cases jump with
      |none=>simp at hx
      |some c=>
       obtain rfl:x=.code c:=by simpa using hx
       exact hj c rfl
     ·exact hk2 x hx
    ·rw[e2,hb];simp[GStep.after]
  |beginRound=>
   have e2:∀(Q:Program)(w:World),stepG.exec Q main true fr cs none w=stepG.apply Q true fr cs none (do fr.roundOf.elim (stuck "beginRound: no round") Instr.beginRound;pure .skip) w:=fun Q w=>by simp only[stepG.exec,ht]
   rw[e2] at hg ⊢;exact sN hk hf (IP hk _) hl hg
  |call d w r s=>exact hk1.elim
  |extern r a=>exact hk1.elim
  |inRegion ops todo=>
   cases todo with
   |nil=>exact move k hk2 (by simp only[stepG.exec,ht]) (by simp only[stepG.exec,ht])
   |cons i rest=>
    have hop:∀o,ops[i]?=some o→gL P o=true:=fun o ho=>by
     have hm:o∈ops.toList:=by
      rw[←Array.getElem?_toList] at ho;exact List.mem_of_getElem? ho
     exact List.all_eq_true.1 hk1 o hm
    by_cases hw:((ops[i]?).map (Region.wanted · (yielded ops fr.tmps))).getD false=true
    ·rcases ho:ops[i]? with _|o
     ·rw[ho] at hw;cases hw
     have hoper:fr.oper?=some o:=by simp[Frame.oper?,ht,ho]
     have ee:∀(Q:Program)(w:World),stepG.exec Q main true fr cs none w=(match fr.roundOf,o.op with
      |some l,.defer c=>stepG.apply Q true fr cs none (do Instr.deferInRound l (←resolve fr.eval c o.type);pure .skip) w
      |_,_=>stepG.apply Q true fr cs none (execOp fr.eval o) w):=fun Q w=>by
      simp only[stepG.exec,ht,hw,if_true,stepG.oper,hoper];rfl
     have hnd:∀c,o.op≠.defer c:=fun c e=>by have:=hop o ho;unfold gL at this;rw[e] at this;cases this
     have e2:∀(Q:Program)(w:World),stepG.exec Q main true fr cs none w=stepG.apply Q true fr cs none (execOp fr.eval o) w:=fun Q w=>by
      rw[ee];split
      ·rename_i c _ e;exact absurd e (hnd _)
      ·rfl
     rw[e2] at hg ⊢;exact sN hk hf (BG hk (hop o ho) fr.eval) hl hg
    ·have e2:∀(Q:Program)(w:World),stepG.exec Q main true fr cs none w=.go { frame:=fr.finish undef,callers:=cs,status:=.running,dying:=none } w #[]:=fun Q w=>by
      simp only[stepG.exec,ht,hw];rfl
     rw[e2,GStep.go.injEq] at hg;obtain⟨rfl,rfl,rfl⟩:=hg;rw[e2];exact .stay (hf.finish _) (sK fr _) hl
  |code c=>
   have hc:Cd P c:=hk1
   cases c with
   |skip=>exact move k hk2 (by simp only[stepG.exec,ht]) (by simp only[stepG.exec,ht])
   |label l=>exact move k hk2 (by simp only[stepG.exec,ht]) (by simp only[stepG.exec,ht])
   |seq a b=>
    have hab:codeOk P a=true∧codeOk P b=true:=by simpa[Cd,codeOk] using hc
    exact move _ (cons_ (a:=.code a) hab.1 (cons_ (a:=.code b) hab.2 hk2)) (by simp only[stepG.exec,ht]) (by simp only[stepG.exec,ht])
   |block id c=>exact move _ (cons_ (a:=.code c) hc (cons_ (a:=.inBlock id) trivial hk2)) (by simp only[stepG.exec,ht]) (by simp only[stepG.exec,ht])
   |loop c=>exact move _ (cons_ (a:=.code c) hc (cons_ (a:=.inLoop c) hc hk2)) (by simp only[stepG.exec,ht]) (by simp only[stepG.exec,ht])
   |scope c=>exact move _ (cons_ (a:=.code c) hc (cons_ (a:=.inScope c) hc hk2)) (by simp only[stepG.exec,ht]) (by simp only[stepG.exec,ht])
   |goto l=>cases hc
   |refuse w=>simp only[stepG.exec,ht] at hg;cases hg
   |cond c a b=>
    have hab:codeOk P a=true∧codeOk P b=true:=by simpa[Cd,codeOk] using hc
    cases hv:fr.eval c with
    |bool t=>
     cases t
     ·exact move _ (cons_ (a:=.code b) hab.2 hk2) (by simp only[stepG.exec,ht,hv];rfl) (by simp only[stepG.exec,ht,hv];rfl)
     ·exact move _ (cons_ (a:=.code a) hab.1 hk2) (by simp only[stepG.exec,ht,hv];rfl) (by simp only[stepG.exec,ht,hv];rfl)
    |_=>simp only[stepG.exec,ht,hv] at hg;cases hg
   |exit id=>
    rcases he:exitTo id k with _|k'
    ·rcases h0:fr.roundOf with _|l
     ·exfalso;simp[stepG.exec,ht,he,h0] at hg
     ·exact leaveR l (some (.exit id)) h0 (fun c e=>by cases e;rfl) fun Q w=>by simp only[stepG.exec,ht,h0,he,Option.elim];rfl
    ·exact move k' (fun x hx=>hk2 x (xz id k k' he x hx)) (by simp only[stepG.exec,ht,he,Option.elim]) (by simp only[stepG.exec,ht,he,Option.elim])
   |ret=>
    rcases h0:fr.roundOf with _|l
    ·exact leave_ h0 fun Q w=>by simp only[stepG.exec,ht,h0];rfl
    ·exact leaveR l (some .ret) h0 (fun c e=>by cases e;rfl) fun Q w=>by simp only[stepG.exec,ht,h0];rfl
   |rangeFunc f ps a b=>
    have hrab:Xf.rng=true∧codeOk P a=true∧codeOk P b=true:=by simpa[Cd,codeOk] using hc
    have hab:=hrab.2;have hcal:=hf.calm.resolve_right (fun h=>by rw[h.2.2.2.1] at hrab;cases hrab.1)
    let call:Call:={ callee:=.value f,args:=#[],argTypes:=#[] }
    have rnC:∀l:Nat,RN P P' (Cc P P') bad (do let d ←resolve fr.eval { callee:=.value f,args:=#[.const (.func (.yield l) #[] #[])],argTypes:=#[] } 0;invoke d.target d.args) (do let d ←resolve fr.eval { callee:=.value f,args:=#[.const (.func (.yield l) #[] #[])],argTypes:=#[] } 0;invoke d.target d.args):=fun l=>
     BG hk (o:={ (default:Oper) with op:=.call { callee:=.value f,args:=#[.const (.func (.yield l) #[] #[])],argTypes:=#[] },type:=0 }) rfl fr.eval
    have e2:∀(Q:Program)(w:World),stepG.exec Q main true fr cs none w=GStep.after (seen Q fr.fn ((Instr.enterLoop fr.fn fr.tmps ps a b fr.roundOf).runT Q w #[]).2) (match ((Instr.enterLoop fr.fn fr.tmps ps a b fr.roundOf).runT Q w #[]).1 with
     |.ok (l,mark) w=>stepG.apply Q true { fr with todo:=.inRangeFunc l::k,defers:=mark++fr.defers } cs none (do let d ←resolve fr.eval { callee:=.value f,args:=#[.const (.func (.yield l) #[] #[])],argTypes:=#[] } 0;invoke d.target d.args) w
     |.halt _ w=>.ended (.stuck "range over a function: no such loop" (fr.pos Q)) w):=fun Q w=>by simp only[stepG.exec,ht];rfl
    have hre:=IQ (P:=P) (P':=P') hcal.2.2 fr.tmps ps hab.1 hab.2 fr.roundOf;have hreE:=hre.mono (fun _ h=>h) (fun _ _ h=>h.1);rw[e2] at hg ⊢
    rcases hr:(Instr.enterLoop fr.fn fr.tmps ps a b fr.roundOf).runT P A #[] with ⟨r,es0⟩
    rw[hr] at hg
    cases r with
    |halt x w=>simp[GStep.after] at hg
    |ok lm A1=>
     obtain⟨l,mark⟩:=lm;dsimp only at hg;obtain⟨_,rfl,hmark⟩:=xA hl hre hr;have hf1:bD P P' { fr with todo:=.inRangeFunc l::k,defers:=mark++fr.defers }:=⟨cons_ (a:=.inRangeFunc l) trivial hk2,hf.kind,.inl ⟨hcal.1,fun d hd=>(List.mem_append.1 hd).elim (hmark d) (hcal.2.1 d),hcal.2.2⟩,hf.mode,hf.fn⟩
     cases hap:stepG.apply P true { fr with todo:=.inRangeFunc l::k,defers:=mark++fr.defers } cs none (do let d ←resolve fr.eval { callee:=.value f,args:=#[.const (.func (.yield l) #[] #[])],argTypes:=#[] } 0;invoke d.target d.args) A1 with
     |go g1 w1 es1=>
      rw[hap] at hg;simp only[GStep.after] at hg;rw[GStep.go.injEq] at hg;obtain⟨rfl,rfl,rfl⟩:=hg;obtain⟨fn,fn',hn1,hn2,hn3,hn4⟩:=hf.fn;by_cases hl1:∃f args cs,bad f∧g1.frame=Frame.enter P f args .normal∧g1.callers=cs
      ·exact .inl hl1
      by_cases hl2:(∃ch,g1.frame.mode=.panicking ch)∨g1.dying≠none
      ·exact .inr (.inl hl2)
      have hl0:Lk (Cc P P') S A { B with tape:=A.tape,drawn:=A.drawn }:=⟨hl.size,hl.low,hl.same,hl.dead,hl.os,hl.output⟩
      have hsn:seen P fr.fn es0=es0:=pP hn1 hn3 fun e he=>((uk hreE A B #[] _ A1 es0 hl hr).2 e he).resolve_left (by simp)
      refine .inr (.inr fun hv=>?_)
      have hv0:∀e∈es0,S.cP e:=fun e he=>hv e (Array.mem_append_left _ (by rw[hsn];exact he))
      have hv1:∀e∈es1,S.cP e:=fun e he=>hv e (Array.mem_append_right _ he)
      obtain⟨b0,B0,new0,y1,y2,rfl,y3,y4,y5,_,y6⟩:=((sw hreE A _ #[] #[] _ A1 es0 hl0 hr hv0).resolve_left id).alike fun j _=>rfl
      have ha:=(sw hreE A B #[] #[] _ A1 es0 hl hr hv0).resolve_left id;obtain⟨z1,z2,z3,z4,z5,z6,_⟩:=((sN hk hf1 (rnC l) y3 hap).resolve_left hl1).resolve_left hl2 hv1;have d1:=ha.drawn;have d2:=ha.size;refine⟨by omega,z2.trans ha.tape,by omega,z4,z5,z6,fun ag=>?_⟩
      obtain⟨b,B1,new,x1,x2,rfl,x3,x4,x5,x7,x6⟩:=ha.alike fun j hj=>ag j (by omega)
      have en:new=es0:=by rw[x2];simp
      subst en;obtain⟨_,_,_,_,_,_,q⟩:=((sN hk hf1 (rnC l) x3 hap).resolve_left hl1).resolve_left hl2 hv1
      obtain⟨fr2,B2,zf,w1',w2,w3,w4,w6,w5⟩:=q fun j hj=>by
       have:=ag (A1.drawn-A.drawn+j) (by omega);rw[x4,ha.tape,x5]
       have e3:A1.drawn+j=A.drawn+(A1.drawn-A.drawn+j):=by omega
       have e4:B.drawn+(A1.drawn-A.drawn)+j=B.drawn+(A1.drawn-A.drawn+j):=by omega
       rw[e3,e4];exact this
      refine⟨fr2,B2,zf,?_,w2,w3.trans x4,by rw[w4,x5];omega,by rw[hsn];exact x7.trans w6,fun e he=>?_⟩
      ·rw[x1];simp only[Array.empty_append];rw[w1',sJ hn1 hn2 hn3 hn4 fun e he=>sL (x6 e he)];rfl
      ·rcases Array.mem_append.1 he with he|he
       ·exact (x6 e (sI e he)).mono w6
       ·exact w5 e he
     |_=>rw[hap] at hg;simp only[GStep.after] at hg;cases hg
   |region id ops draw=>
    cases draw with
    |false=>exact move _ (cons_ (a:=.inRegion ops (List.range ops.size)) hc hk2) (by simp[stepG.exec,ht]) (by simp[stepG.exec,ht])
    |true=>
     have e2:∀(Q:Program)(w:World),stepG.exec Q main true fr cs none w=.go { frame:={ fr with todo:=.inRegion ops (Region.schedule (Q.follows .mixedOrders) ops (w.tape w.drawn (.order fr.fn id)))::k },callers:=cs,status:=.running,dying:=none } { w with drawn:=w.drawn+1 } #[]:=fun Q w=>by
      simp[stepG.exec,ht,choose,Sem.run,Question.forced,Question.cut]
     rw[e2,GStep.go.injEq] at hg;obtain⟨rfl,rfl,rfl⟩:=hg;rw[e2,IL hk.kin];refine .inr (.inr fun _=>⟨Nat.le_succ _,rfl,Nat.le_refl _,rfl,rfl,rfl,fun ag=>⟨_,{ B with drawn:=B.drawn+1 },.inl ⟨.inl ⟨rfl,rfl⟩,.inl ⟨rfl,hf.zb (cons_ (a:=.inRegion ops _) hc hk2)⟩⟩,?_,⟨hl.size,hl.low,hl.same,hl.dead,hl.os,hl.output⟩,rfl,by simp,.draw _ _,by simp⟩⟩);have:=ag 0 (by simp);simp only[Nat.add_zero] at this;rw[this]
end
section
variable{P P':Program}{bad:Nat→Prop}{S:Sh}
theorem BK(b:Nat):RT P P' (Cc P P') (fun _=>False) (fun x y=>x=y∧x=[]) (Instr.takeDeferred b) (Instr.takeDeferred b):=by
 unfold Instr.takeDeferred;refine jU b (fun o ho=>?_) (fun o ho=>?_)
 ·cases o<;>first|exact aN _ _|skip
  rename_i c
  rcases c with _|_|⟨d,ds⟩
  ·exact aN _ _
  ·exact aG (lD b trivial) fun _=>.pure _ _ ⟨rfl,rfl⟩
  ·exact ho.elim
 ·cases o<;>exact aN _ _
theorem IT(hk:gK P P' (Cc P P') bad)(fn:Func)(T:Array Value):RE P P' (Cc P P') (results fn T) (results fn T):=by
 unfold results
 refine aG (Bs _ (fun r=>?_) _) fun vs=>aC _
 cases r with
 |tmp t=>exact aC _
 |cell a t=>exact aG (sG hk.kin _) fun x=>sA hk.kin t x
theorem IU{main:Bool}(hk:gK P P' (Cc P P') bad){fr:Frame}{cs:List Frame}{A B:World}(hf:bD P P' fr)(hmr:fr.mode=.returning)(hmain:main=true∨cs≠[])(hl:Lk (Cc P P') S A B){g':Goroutine}{A':World}{es:Array Event}(hg:unwind P main fr cs none A=.go g' A' es):iQ P P' bad S fr cs A B g' A' es (unwind P' main fr cs none B):=by
 obtain⟨hn,hd0,hfn⟩:=hf.calm.resolve_right (fun h=>by rw[hmr] at h;cases h.2.1)
 rcases hd:fr.defers with _|⟨d,ds⟩
 ·cases hm:fr.mode with
  |run=>simp only[unwind,hd,hm] at hg;cases hg
  |panicking ch=>exact absurd hm (hf.mode ch)
  |returning=>
   obtain⟨⟨fn,hn1,hn2,hn3⟩,_⟩:=id hfn
   have e2:∀(Q:Program)(w:World),Q.funcs[fr.fn]?=some fn→unwind Q main fr cs none w=GStep.after (seen Q fr.fn ((results fn fr.tmps).runT Q w #[]).2) (match ((results fn fr.tmps).runT Q w #[]).1 with
    |.ok v w=>doReturn Q main fr cs none v w
    |.halt (.stuck s) w=>.ended (.stuck s (fr.pos Q)) w
    |.halt _ w=>.ended (.stuck "return: the result variables cannot be read" (fr.pos Q)) w):=fun Q w hq=>by simp only[unwind,hd,hm,hq];rfl
   rw[e2 P A hn1] at hg
   rcases hr:(results fn fr.tmps).runT P A #[] with ⟨r,es0⟩
   rw[hr] at hg
   cases r with
   |halt x w=>cases x<;>simp[GStep.after] at hg
   |ok v A1=>
    dsimp only at hg
    cases hdo:doReturn P main fr cs none v A1 with
    |go g1 w1 es1=>
     rw[hdo] at hg;simp only[GStep.after] at hg;obtain⟨caller,rest,rfl,rfl,rfl,rfl,hQ⟩:=BI hfn hn hmain hdo;rw[GStep.go.injEq] at hg;obtain⟨rfl,rfl,rfl⟩:=hg;rw[Array.append_empty]
     refine sP hf hl (IT hk fn fr.tmps) hr rfl rfl rfl (.inr (.inl ⟨rfl,caller,v,rfl,rfl,hfn⟩)) fun B' hb=>?_
     rw[e2 P' B hn2,hb];dsimp only;rw[hQ];simp[GStep.after]
    |_=>rw[hdo] at hg;simp only[GStep.after] at hg;cases hg
 ·rw[hd] at hd0;obtain⟨b,rfl⟩:=hd0 d List.mem_cons_self
  have e2:∀(Q:Program)(w:World),unwind Q main fr cs none w=GStep.after (seen Q fr.fn ((Instr.takeDeferred b).runT Q w #[]).2) (match ((Instr.takeDeferred b).runT Q w #[]).1 with
   |.ok calls w=>.go { frame:={ fr with defers:=calls++ds },callers:=cs,status:=.running,dying:=none } w
   |.halt _ w=>.ended (.stuck "the deferred calls of a range-over-func loop have been taken" (fr.pos Q)) w):=fun Q w=>by simp only[unwind,hd];rfl
  rw[e2] at hg
  rcases hr:(Instr.takeDeferred b).runT P A #[] with ⟨r,es0⟩
  rw[hr] at hg
  cases r with
  |halt x w=>simp[GStep.after] at hg
  |ok calls A1=>
   simp only[GStep.after] at hg;rw[GStep.go.injEq] at hg;obtain⟨rfl,rfl,rfl⟩:=hg;rw[Array.append_empty];obtain⟨_,_,hc⟩:=xA hl (BK b) hr;subst hc
   refine sP hf hl ((BK b).mono (fun _ h=>h) fun _ _ h=>h.1) hr rfl rfl rfl (.inl ⟨.inl ⟨rfl,rfl⟩,.inl ⟨rfl,hf.todo,hf.kind,.inl ⟨hn,fun d hd'=>hd0 d (List.mem_cons_of_mem _ (by simpa using hd')),hfn⟩,hf.mode,hf.fn⟩⟩) fun B' hb=>?_
   rw[e2,hb];simp[GStep.after]
theorem BL{main:Bool}(hk:gK P P' (Cc P P') bad){fr:Frame}{cs:List Frame}{A B:World}(hf:bD P P' fr)(hmain:main=true∨cs≠[])(hl:Lk (Cc P P') S A B){g':Goroutine}{A':World}{es:Array Event}(hg:stepG P main (G fr cs) A=.go g' A' es):iQ P P' bad S fr cs A B g' A' es (stepG P' main (G fr cs) B):=by
 cases hm:fr.mode with
 |run=>
  have e:∀(Q:Program)(w:World),stepG Q main (G fr cs) w=stepG.exec Q main true fr cs none w:=fun Q w=>by simp only[stepG,G,hm]
  rw[e] at hg ⊢;exact IS hk hf hm hmain hl hg
 |returning=>
  have e:∀(Q:Program)(w:World),stepG Q main (G fr cs) w=unwind Q main fr cs none w:=fun Q w=>by simp only[stepG,G,hm]
  rw[e] at hg ⊢;exact IU hk hf hm hmain hl hg
 |panicking ch=>exact absurd hm (hf.mode ch)
end
end Go.Fc
