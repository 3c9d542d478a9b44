/- Lemmas. -/
import Derived.Test.YthpkmilhiganjaaGreatPWc
import Derived.Test.YthpkmilhiganjaaGreatPWl
import Derived.Test.YthpkmilhiganjaaGreatPNc
import Derived.Test.YthpkmilhiganjaaGreatPNd
set_option linter.all false
set_option maxHeartbeats 32000000
set_option maxRecDepth 100000
namespace Go.Proofs.Tw
open Go Go.Fi Go.Fc Go.Conc
@[reducible] def xfW:Xf:={ xf:=λ_=>False,bot:=λf=>f=69\/f=113,ds:=λ_ _=>True,rng:=false }
instance H9:ConcR.Payload:=⟨136⟩
def xC(f:Nat):Prop:=keep f=false/\∃fn,Tryz.prog.funcs[f]?=some fn
theorem jT(f:Nat):prog.funcs[f]?=(Tryz.prog.funcs[f]?).map λfn=>if keep f then fn else ig fn:=by
 unfold prog;simp
theorem Rf:@codeOk xfW prog (Tryz.f107.body.getD .skip)=true:=aj
theorem Rg:@codeOk xfW prog (Tryz.f133.body.getD .skip)=true:=aj
theorem Rh:Tryz.f107.body=some (Tryz.f107.body.getD .skip):=aj
theorem Ri:Tryz.f133.body=some (Tryz.f133.body.getD .skip):=aj
theorem Rj:(Tryz.f107.name == "runtime.NumGoroutine")=false:=aj
theorem Rk:(Tryz.f133.name == "runtime.NumGoroutine")=false:=aj
theorem Rl:Tryz.f107.norace=false:=aj
theorem Rm:Tryz.f133.norace=false:=aj
theorem Rn:prog.inits.idxOf? 107=none:=aj
theorem Ro:prog.inits.idxOf? 133=none:=aj
theorem Ia:@kE prog Tryz.prog (@Cc xfW prog Tryz.prog) xC:=by
 letI:=xfW
 refine⟨⟨⟨Tryz.prog.funcs,rfl⟩⟩,λf=>?_⟩
 rcases hx:Tryz.prog.funcs[f]? with _|fn
 .exact .inl ⟨by rw[jT,hx];rfl,rfl⟩
 .by_cases hk:keep f=true
  .have:f=107\/f=133:=by simpa[keep] using hk
   rcases this with rfl|rfl
   .refine .inr (.inr (.inr ⟨Tryz.f107,_,func107,by rw[<-hx];rfl,Rj,Rh,Rf,⟨Tryz.f107,func107,Tryz.func107,Rl⟩,Rn⟩))
   .refine .inr (.inr (.inr ⟨Tryz.f133,_,func133,by rw[<-hx];rfl,Rk,Ri,Rg,⟨Tryz.f133,func133,Tryz.func133,Rm⟩,Ro⟩))
  .have hk:keep f=false:=ak
   refine .inr (.inr (.inl ⟨⟨hk,fn,hx⟩,ig fn,.refuse "known by its contract alone",?_,rfl,rfl⟩));rw[jT,hx];simp[hk]
theorem tK{f:Nat}(h:xC f)(args:Array Value)(cs:List Frame)(w:World)(g':Goroutine)(w':World)(es:Array Event):stepG prog true (G (Frame.enter prog f args .normal) cs) w≠.go g' w' es:=by
 obtain⟨hk,fn,hx⟩:=h
 have hf:prog.funcs[f]?=some (ig fn):=by rw[jT,hx];simp[hk]
 have:Frame.enter prog f args .normal = { fn:=f,tmps:=args++Array.replicate ((ig fn).ntmps-args.size) undef,todo:=[.code (.refuse "known by its contract alone")],defers:=[],mode:=.run,kind:=.normal }:=by
  simp[Frame.enter,hf,ig]
 rw[this];simp[G,stepG,stepG.exec]
theorem Ib:∃c,Tryz.f69.body=some c/\c≠.refuse "known by its contract alone" := ⟨_,rfl,ae⟩
theorem FH{f:Nat}(h:xfW.bot f):¬(@Cc xfW prog Tryz.prog).fn f:=by
 rintro⟨⟨fn,h1,h2,_⟩,_⟩
 have hk:keep f=false:=by rcases h with rfl|rfl<;>rfl
 rw[jT,h2] at h1;simp[hk] at h1
 have hb:fn.body=some (.refuse "known by its contract alone"):=by rw[<-h1];rfl
 rcases h with rfl|rfl
 .rw[Tryz.func69] at h2;cases h2;obtain⟨c,h3,h4⟩:=Ib;rw[h3] at hb;simp_all
 .rw[Tryz.func113] at h2;cases h2
  have:Tryz.f113.body≠some (.refuse "known by its contract alone"):=by intro h;cases h
  exact this hb
theorem Rp(l F k:Nat):@lP xfW (cY l F k) prog Tryz.prog xC:=by
 letI:=cY l F k
 letI:=xfW
 exact⟨Ia,λf h=>h,λf hb args cs w g' w' es=>tK hb args cs w g' w' es,λw t d=>⟨rfl,rfl,bV _,λ_ _=>rfl⟩,λf h=>FH h⟩
end Go.Proofs.Tw
namespace Go.Proofs.Tw
open Go Go.Fi Go.Fc Go.Conc Go.RowKit
structure OD where
 rb:Nat
 xv:Nat
 xb:Nat
 wg:Nat
 F:Nat
 lo0:Nat
 ca:Option Addr
 ky:Nat
 bz:List (ByteArray×Int×Bool)
 oa:Option Addr
 di:Nat
 os:List (ByteArray×Int×Bool×Int)
 fa:Option Addr
 nk:Nat
 zs:List (Int×Int)
structure il(o:OD)(w:World):Prop where
 size:o.lo0<=w.heap.size
 low:o.F<o.lo0/\o.rb<o.lo0/\o.xv<o.lo0/\o.xb<o.lo0
 apart:o.rb≠o.F/\o.xv≠o.F/\o.xb≠o.F
 rY:w.cell? ⟨o.rb,0,none⟩=some (.slice o.ca o.bz.length o.ky)
 Cy:w.cell? ⟨o.rb,1,none⟩=some (.slice o.oa o.os.length o.di)
 qB:w.cell? ⟨o.rb,3,none⟩=some (.slice o.fa o.zs.length o.nk)
 xvc:w.cell? ⟨o.xv,0,none⟩=some (.pointer (some ⟨o.xb,0,none⟩))
 oo:w.cell? ⟨o.xb,4,none⟩=some (.slice (some ⟨o.F,0,none⟩) o.os.length o.os.length)
 bz:rX o.F o.lo0 w o.ca o.bz
 lN:lM o.F w o.fa o.zs
 qC:∀j,j<o.zs.length->∀ad,o.fa=some ad->ad.block<o.lo0
 Ic:nu o.F w o.oa o.os
 Ie:∀j,j<o.os.length->∀ad,o.oa=some ad->ad.block<o.lo0
theorem nu.low{F lo:Nat}{w w1:World}{a0:Option Addr}{os:List (ByteArray×Int×Bool×Int)}(h:nu F w a0 os)(h':∀j,j<os.length->∀ad,a0=some ad->ad.block<lo)(e:Bel lo w w1):nu F w1 a0 os:=
 λj hj=>let ⟨b,off,h1,h2,h3,h4,h5,h6⟩:=h j hj
  have hb:b<lo:=h' j hj _ h1
  ⟨b,off,h1,h2,(e.cell (p:=⟨b,_,none⟩) hb).trans h3,(e.cell (p:=⟨b,_,none⟩) hb).trans h4,(e.cell (p:=⟨b,_,none⟩) hb).trans h5,(e.cell (p:=⟨b,_,none⟩) hb).trans h6⟩
theorem il.bel{o:OD}{w w1:World}(h:il o w)(e:Bel o.lo0 w w1):il o w1:=by
 have c:∀{b k:Nat}{v:Value},b<o.lo0->w.cell? ⟨b,k,none⟩=some v->w1.cell? ⟨b,k,none⟩=some v:=λhb hv=>(e.cell (p:=⟨_,_,none⟩) hb).trans hv
 obtain⟨l1,l2,l3,l4⟩:=h.low;exact⟨dK h.size e.size,h.low,h.apart,c l2 h.rY,c l2 h.Cy,c l2 h.qB,c l3 h.xvc,c l4 h.oo,h.bz.bel e,h.lN.low h.qC e,h.qC,h.Ic.low h.Ie e,h.Ie⟩
theorem il.mv{o:OD}{w w1:World}(h:il o w)(e:Bel w.heap.size w w1):il o w1:=h.bel (e.mono h.size)
abbrev cW:Code:=.seq (.region 12 qe false) (.seq (.region 13 oR false) .ret)
abbrev c8:Code:=.seq (.region 8 lZ false) (.seq (.region 9 tB false) (.region 10 nS false))
abbrev cLB:Code:=.seq (.region 7 wx false) (.seq (.cond (.tmp 29) .skip (.exit 0)) (.seq (.block 1 c8) (.region 11 lA false)))
def kL:List Item:=[.inLoop cLB,.inBlock 0,.code cW]
def b20:Frame:={ (default:Frame) with fn:=69,kind:=.normal,roundOf:=none }
theorem fe:b20.kind≠.early:=aE
def fr9(a:Act):Frame:=b20.atR a (.inRegion tB [0]::.code (.region 10 nS false)::.inBlock 1::.code (.region 11 lA false)::kL)
def pC(a:Act):Frame:=b20.atR a (.inRegion nS [1]::.inBlock 1::.code (.region 11 lA false)::kL)
def Cz(a:Act):Frame:=b20.atR a [.inRegion qe [0],.code (.seq (.region 13 oR false) .ret)]
def P_(b:Nat):Value:=.pointer (some ⟨b,0,none⟩)
def sb(o:OD)(j ib ob:Nat)(w:World):Prop:=
 o.lo0<=ib/\o.lo0<=ob/\ib≠ob/\w.heap[ib]?=some (.cells #[.int .i64 j] 3)/\w.heap[ob]?=some (.cells #[.string (o.os.getD j (default,0,false,0)).1,.int .i64 (o.os.getD j (default,0,false,0)).2.1,.bool (o.os.getD j (default,0,false,0)).2.2.1,.int .i64 (o.os.getD j (default,0,false,0)).2.2.2] 91)
theorem sb.mv{o:OD}{j ib ob:Nat}{w w1:World}(h:sb o j ib ob w)(e:Bel w.heap.size w w1):sb o j ib ob w1:=
 ⟨h.1,h.2.1,h.2.2.1,(e.block _ (df.1 h.2.2.2.1).1).trans h.2.2.2.1,(e.block _ (df.1 h.2.2.2.2).1).trans h.2.2.2.2⟩
abbrev S9(o:OD)(j ib ob:Nat):Nat->Option Value:=ups (ups (S20 o.wg o.rb o.xv o.oa o.di o.os.length j) 8 (P_ ib)) 9 (P_ ob)
def b8(o:OD)(ib ob:Nat):Array Value:=#[P_ o.wg,P_ o.rb,P_ o.xv,P_ ib,P_ ob]
def I1o(o:OD)(j:Nat)(fr:Frame)(w:World):Prop:=∃a ib ob,fr=fr9 a/\SlS (S9 o j ib ob) a/\il o w/\j<o.os.length/\sb o j ib ob w
def I2o(o:OD)(j:Nat)(fr:Frame)(w:World):Prop:=∃a ib ob,fr=pC a/\SlS (ups (S9 o j ib ob) 34 (.func (.func 113) #[] (b8 o ib ob))) a/\il o w/\j<o.os.length/\sb o j ib ob w
def I3o(o:OD)(fr:Frame)(w:World):Prop:=∃a,fr=Cz a/\SlS (S20 o.wg o.rb o.xv o.oa o.di o.os.length o.os.length) a/\il o w
section
variable{o:OD}{j:Nat}{fr:Frame}{w:World}{cs:List Frame}{lo:Nat}
theorem Rq(h:I1o o j fr w):@TN (cY lo o.F o.os.length) prog cs.length cs.length (λfr' cs' w'=>cs'=cs/\I2o o j fr' w') 4 (fr.finish (.tuple #[])) cs w:=by
 letI:=cY lo o.F o.os.length
 obtain⟨a,ib,ob,rfl,hS,hK,hj,hB⟩:=h
 have e1:(fr9 a).finish (.tuple #[])=b20.atR (a.put (some 33) (.tuple #[])) (.inRegion tB []::.code (.region 10 nS false)::.inBlock 1::.code (.region 11 lA false)::kL):=by
  rfl
 rw[e1];have hS1:=hS.put (t:=33) af (.tuple #[]);generalize a.put (some 33) (.tuple #[])=a1 at hS1;refine ng (bV _) (l8 (bV _) ?_);show TN prog cs.length cs.length _ 2 (b20.atR a1 (.inRegion nS [0,1]::_)) cs w;have s7:=hS1.get 7 (P_ o.wg) rfl;have s1:=hS1.get 1 (P_ o.rb) rfl;have s6:=hS1.get 6 (P_ o.xv) rfl;have s8:=hS1.get 8 (P_ ib) rfl;have s9:=hS1.get 9 (P_ ob) rfl
 refine nD (o:=Al) rfl rfl ae fe (bV _) λw1 e=>⟨λf ev a4=>?_,?_⟩
 .have hm:=mem_listed a4;simp[go_sem] at hm
 .have hr:(execOp a1.eval Al).run prog w1=.ok (.value (.func (.func 113) #[] (b8 o ib ob))) w1:=by
   simp[go_sem,s7,s1,s6,s8,s9,b8]
  rw[hr];refine .now ⟨rfl,a1.put (some 34) (.func (.func 113) #[] (b8 o ib ob)),ib,ob,rfl,?_,hK.mv e,hj,hB.mv e⟩;have hS2:=hS1.put (t:=34) af (.func (.func 113) #[] (b8 o ib ob));refine⟨hS2.size,hS2.defers,λt v ht=>hS2.get t v ?_⟩;unfold ups at ht ⊢;by_cases e34:t=34
  .simp_all
  .by_cases e33:t=33
   .subst e33;cases ht
   simp_all
theorem FK{a:Act}(hn:o.os.length<=1000)(hj:j<=o.os.length)(h':o.lo0<=lo)(h9:lo<=w.heap.size)(hS:SlS (S20 o.wg o.rb o.xv o.oa o.di o.os.length j) a)(hK:il o w):@TN (cY lo o.F o.os.length) prog cs.length cs.length (λfr' cs' w'=>cs'=cs/\if j<o.os.length then I1o o j fr' w' else I3o o fr' w') 30 (b20.atR a (.code cLB::kL)) cs w:=by
 letI:=cY lo o.F o.os.length
 have hFlo:o.F<lo:=lT hK.low.1 h';refine iD (N:=29) (bV _) ?_
 let Q1:Exit->Act->World->Prop:=λe a w=>e=.normal/\SlS (S20 o.wg o.rb o.xv o.oa o.di o.os.length j) a/\a.tmps[29]?.getD undef=.bool (decide (j<o.os.length))/\il o w/\lo<=w.heap.size
 refine wO (N:=26) (M:=3) (Q:=Q1) (KQ (F:=o.F) (lo:=lo) (k:=o.os.length) hn hj hS (λw=>il o w/\lo<=w.heap.size) (λw w1 h e=>⟨h.1.mv e,dK h.2 e.size⟩) ⟨hK,h9⟩ (λa w h1 h2 h3=>⟨rfl,h1,h2,h3.1,h3.2⟩)) fe (λe a w h=>h.1) λa w hq=>?_
 obtain⟨_,hS,hi,hK,h9⟩:=hq;refine iD (bV _) (AR (t:=decide (j<o.os.length)) (bV _) (by simp[Act.eval,hi]) ?_);by_cases hh:j<o.os.length
 .simp only[hh,decide_true,cD];refine FI (bV _) (iD (bV _) (FJ (bV _) (iD (bV _) ?_)))
  let Q2:Exit->Act->World->Prop:=λe a w=>e=.normal/\∃ib ob,SlS (S9 o j ib ob) a/\il o w/\sb o j ib ob w
  refine wO (N:=11) (M:=9) (Q:=Q2) (KS (F:=o.F) (lo:=lo) (k:=o.os.length) hFlo rfl hh hS h9 (il o) (λw w1 h e=>h.mv e) (λw w1 h _ e=>h.bel (e.mono h')) hK hK.Ic (λa w ib ob h1 h2 h3 h4 h5 h6 h7 h8=>⟨rfl,ib,ob,h1,h2,dK h' h4,dK h' h5,h6,h7,h8⟩)) fe (λe a w h=>h.1) λa w hq=>?_
  obtain⟨_,ib,ob,hS,hK,hB⟩:=hq;refine iD (bV _) (l8 (bV _) (.now ⟨rfl,?_⟩));exact⟨a,ib,ob,rfl,hS,hK,hh,hB⟩
 .simp only[hh,decide_false,dC,cP];refine MQ (k':=[.code cW]) (bV _) rfl (iD (bV _) (l8 (bV _) (.now ⟨rfl,?_⟩)))
  have:j=o.os.length:=ab
  subst this;exact⟨a,rfl,hS,hK⟩
theorem MR(hn:o.os.length<=1000)(h':o.lo0<=lo)(h9:lo<=w.heap.size)(h:I2o o j fr w):@TN (cY lo o.F o.os.length) prog cs.length cs.length (λfr' cs' w'=>cs'=cs/\if j+1<o.os.length then I1o o (j+1) fr' w' else I3o o fr' w') 37 (fr.finish undef) cs w:=by
 letI:=cY lo o.F o.os.length
 obtain⟨a,ib,ob,rfl,hS,hK,hj,hB⟩:=h
 have e1:(pC a).finish undef=b20.atR a (.inRegion nS []::.inBlock 1::.code (.region 11 lA false)::kL):=by
  rfl
 rw[e1]
 have hS0:SlS (S20 o.wg o.rb o.xv o.oa o.di o.os.length j) a:=⟨hS.size,hS.defers,λt v ht=>hS.get t v (by
  unfold ups;by_cases e34:t=34
  .subst e34;cases ht
  .by_cases e9:t=9
   .subst e9;cases ht
   .by_cases e8:t=8
    .subst e8;cases ht
    grind)⟩
 refine ng (bV _) (MM (bV _) ?_)
 let Q1:Exit->Act->World->Prop:=λe a w=>e=.normal/\SlS (S20 o.wg o.rb o.xv o.oa o.di o.os.length (j+1)) a/\il o w/\lo<=w.heap.size
 refine wO (N:=31) (M:=4) (Q:=Q1) (KR (F:=o.F) (lo:=lo) (k:=o.os.length) hn ab hS0 (λw=>il o w/\lo<=w.heap.size) (λw w1 h e=>⟨h.1.mv e,dK h.2 e.size⟩) ⟨hK,h9⟩ (λa w h1 h3=>⟨rfl,h1,h3.1,h3.2⟩)) fe (λe a w h=>h.1) λa w hq=>?_
 obtain⟨_,hS,hK,h9⟩:=hq;exact MP (bV _) (FK hn ab h' h9 hS hK)
end
end Go.Proofs.Tw
namespace Go.Proofs.Tw
open Go Go.Fi Go.Fc Go.Conc Go.RowKit Go.ConcR.Gen Go.Conc.Lib
open Go.ConcN (PayAt Has RW WgLive AtR0)
open Go.ConcR (DC0)
abbrev FM:Oper:=⟨none,(.defer ⟨(.value (.func 114)),#[(.tmp 0)],#[147]⟩),0, "dispatch.go:120",#[],none⟩
abbrev wP:Array Oper:=#[FM]
theorem MU:Tryz.f113.body=some (.seq (.region 0 wP false) nq):=rfl
noncomputable def b39:Frame:={ (default:Frame) with fn:=113,kind:=.deferred,roundOf:=none }
theorem AS:b39.kind≠.early:=aE
noncomputable def gn:Frame:={ (default:Frame) with fn:=Tryz.prog.funcs.size,defers:=[],mode:=.panicking [goexitEntry] }
noncomputable def CB:Nat->Array Value:=λn=>Array.replicate n undef
noncomputable def jU(c:Array Value):Array Value:=c++CB 49
noncomputable def call39(c:Array Value):Deferred:={ target:=.fn (.func 113) c,args:=#[] }
noncomputable def pD(c:Array Value):Frame:=b39.atR ⟨jU c,[dcall 114 #[c.getD 0 undef]]⟩ [.code nq]
noncomputable def sd(fr:Frame):Array Value:=match fr.tmps.getD 34 undef with | .func _ _ c=>c|_=>#[]
section
variable{o:OD}{j ib ob:Nat}{a:Act}{cs:List Frame}
theorem Rr(hS:SlS (ups (S9 o j ib ob) 34 (.func (.func 113) #[] (b8 o ib ob))) a)(B:World):stepG Tryz.prog true (G (pC a) cs) B=.spawn (G ((pC a).finish undef) cs) (born Tryz.prog (call39 (b8 o ib ob))) B #[]:=by
 have s34:=hS.get 34 _ rfl
 have hr:(execOp a.eval rj).run Tryz.prog B=.ok (.spawn (call39 (b8 o ib ob))) B:=by
  unfold execOp;simp[resolve,Deferred.ofValue,Act.eval,s34,call39]
 have he:∀es,(execOp a.eval rj).events Tryz.prog B es=es:=by
  intro es;unfold execOp;simp[resolve,Deferred.ofValue,Act.eval,s34,call39]
 have e1:(pC a).finish undef=b20.at (a.put rj.dst undef) (.inRegion nS []::.inBlock 1::.code (.region 11 lA false)::kL):=by
  rfl
 have hl:listed Tryz.prog b20.fn a rj B=#[]:=by unfold listed;rw[he,seen_none]
 rw[e1];show stepG Tryz.prog true (G (b20.at a (.inRegion nS (1::[])::.inBlock 1::.code (.region 11 lA false)::kL)) cs) B=_;rw[stepG_spawn (o:=rj) rfl rfl fe hr rfl,hl]
theorem MV(c:Array Value)(hc:c.size=5)(w:World):stepG Tryz.prog false (born Tryz.prog (call39 c)) w=.go (G (b39.atR ⟨jU c,[]⟩ [.code (.seq (.region 0 wP false) nq)]) [gn]) w #[]:=by
 have hb:Tryz.f113.body=some (.seq (.region 0 wP false) nq):=MU;have hn:Tryz.f113.ntmps=54:=rfl
 have hg:(Tryz.f113.name == "runtime.NumGoroutine")=false:=aj
 have h1:¬Tryz.f113.name = "runtime.NumGoroutine" := by trivial
 simp[born,call39,stepG,unwind,callDeferred,invoke,callFunc,Tryz.func113,h1,hb,seen_none,GStep.after,G,Frame.enter,Frame.atR,b39,gn,jU,CB,hc,hn]
theorem Rs(c:Array Value)(hc:c.size=5)(w:World):Goes Tryz.prog false (λ_ _=>True) DC0 (mG (G (pD c) [gn])) 6 (born Tryz.prog (call39 c)) w:=by
 have st:∀{n:Nat}{g g':Goroutine}{w:World},g.status=.running->(∀w,stepG Tryz.prog false g w=.go g' w #[])->(∀w,Goes Tryz.prog false (λ_ _=>True) DC0 (mG (G (pD c) [gn])) n g' w)->Goes Tryz.prog false (λ_ _=>True) DC0 (mG (G (pD c) [gn])) (n+1) g w:=
  λhr h k=>Goes.step hr λw1 _=>by rw[h w1];exact⟨⟨rfl,rfl⟩,k w1⟩
 refine st (n:=5) rfl (MV c hc) λw=>?_
 refine st (n:=4) rfl (λw=>stepG_seq (b:=b39)) λw=>?_
 refine st (n:=3) rfl (λw=>stepG_region (b:=b39)) λw=>?_
 refine st (n:=2) rfl (λw=>stepG_defer (b:=b39) (ops:=wP) (i:=0) (o:=FM) rfl rfl AS rfl) λw=>?_
 refine st (n:=1) rfl (λw=>stepG_region_end (b:=b39)) λw=>?_
 refine Goes.stop λw1 _=>?_
 have e:Act.eval ⟨jU c,[]⟩ (.tmp 0)=c.getD 0 undef:=by
  simp[Act.eval,jU,dL,yd,hc]
 have e2:Array.map (Act.eval ⟨jU c,[]⟩) #[Operand.tmp 0]=#[c.getD 0 undef]:=by simp[e]
 show G (b39.at ⟨jU c,[dcall 114 (Array.map (Act.eval ⟨jU c,[]⟩) #[Operand.tmp 0])]⟩ [.code nq]) [gn]=_;rw[e2];rfl
end
noncomputable def odW(o:OD)(i ib ob lo:Nat):WkD:=
 { F:=o.F,i:=i,lo:=lo,rb:=o.rb,xv:=o.xv,xb:=o.xb,ib:=ib,ob:=ob,ca:=o.ca,ky:=o.ky,bz:=o.bz,fa:=o.fa,nk:=o.nk,zs:=o.zs,n:=o.os.length,B7:=o.os.length,uB:=(o.os.getD i (default,0,false,0)).2.1,om:=(o.os.getD i (default,0,false,0)).2.2.1 }
noncomputable def CC(o:OD)(i:Nat):List Bool:=kD (odW o i 0 0 0) o.bz.length
def oB(o:OD)(i:Nat)(A:World):Prop:=∃lo v,o.lo0<=lo/\A.cell? ⟨o.F,i,none⟩=some v/\ik (odW o i 0 0 lo) A v (CC o i)
theorem oB.mv{o:OD}{i:Nat}{A A':World}(h:oB o i A)(e:Bel A.heap.size A A'):oB o i A':=
 let ⟨lo,v,h1,h2,h3⟩:=h;⟨lo,v,h1,e.cellAt h2,h3.mv e⟩
def WEo(o:OD)(i:Nat)(fr:Frame)(cs:List Frame)(A:World):Prop:=cs=[gn]/\(∃T,fr=b39.atR ⟨T,[dcall 114 #[P_ o.wg]]⟩ [])/\oB o i A
section
variable{o:OD}{i j ib ob:Nat}{A:World}
theorem AT{a:Act}(hS:SlS (ups (S9 o j ib ob) 34 (.func (.func 113) #[] (b8 o ib ob))) a):sd (pC a)=b8 o ib ob:=by
 have s34:=hS.get 34 _ rfl
 have:(pC a).tmps.getD 34 undef=.func (.func 113) #[] (b8 o ib ob):=by
  rw[dL];exact s34
 unfold sd;rw[this]
theorem gk{w:World}{b k:Nat}{c:Array Value}{e:TypeId}{f:Nat×Nat}{v:Value}(h:w.heap[b]?=some (.cells c e f))(hv:c[k]?=some v):w.cell? ⟨b,k,none⟩=some v:=by
 unfold World.cell?;rw[h];exact hv
theorem MW(t:Nat)(ht:t<5)(v:Value)(lo:Nat)(hv:S0 (odW o j ib ob lo) o.wg 0 t=some v):(jU (b8 o ib ob))[t]?.getD undef=v:=by
 have e:(jU (b8 o ib ob))[t]?=(b8 o ib ob)[t]?:=by
  unfold jU;rw[sV aE]
 rw[e];clear e
 obtain rfl|rfl|rfl|rfl|rfl:t=0\/t=1\/t=2\/t=3\/t=4:=by omega
 all_goals
  simp only[S0,odW,dg] at hv;subst hv;simp[b8,P_]
theorem MX{fr:Frame}(ha:o.zs.length<=64)(hy:o.bz.length<=1000)(h:I2o o j fr A)(Aw:World)(ht:∀(a:Addr) v,a.block≠o.F->A.cell? a=some v->Aw.cell? a=some v)(aw:Aw.heap.size=A.heap.size)(hp:PayAt o.F o.os.length Aw)(hv:Aw.cell? ⟨o.F,j,none⟩=some (.slice none 0 0)):∃N,@TN (cY Aw.heap.size o.F j) prog [gn].length [gn].length (WEo o j) N (pD (sd fr)) [gn] Aw:=by
 obtain⟨a,ib,ob,rfl,hS,hK,hj,hB1,hB2,ao,hB3,hB4⟩:=h;rw[AT hS];obtain⟨l1,l2,l3,l4⟩:=hK.low;obtain⟨a1,a2,a3⟩:=hK.apart;have hs:=hK.size;have ag:=(df.1 hB3).1;have aq:=(df.1 hB4).1;obtain⟨cF,hF,hn⟩:=hp
 let d:=odW o j ib ob Aw.heap.size
 have hW:WkW d Aw:=by
  refine⟨bV _,⟨?_,?_,?_,?_,?_,?_⟩,⟨a1,a2,a3,?_,?_⟩,ht _ _ a1 hK.rY,ht _ _ a1 hK.qB,ht _ _ a2 hK.xvc,ht _ _ a3 hK.oo,ht _ _ ?_ (gk hB3 (by rfl)),ht _ _ ?_ (gk hB4 (by rfl)),ht _ _ ?_ (gk hB4 (by rfl)),λk hk=>?_,λk hk=>?_,λk hk ad ho=>?_⟩
  .show o.F<Aw.heap.size;omega
  .show o.rb<Aw.heap.size;omega
  .show o.xv<Aw.heap.size;omega
  .show o.xb<Aw.heap.size;omega
  .show ib<Aw.heap.size;omega
  .show ob<Aw.heap.size;omega
  .show ib≠o.F;omega
  .show ob≠o.F;omega
  .show ib≠o.F;omega
  .show ob≠o.F;omega
  .show ob≠o.F;omega
  .obtain⟨b,off,x1,x2,x3,x4,x5,x6⟩:=hK.bz k hk;exact⟨b,off,x1,x2,by show b<Aw.heap.size;omega,ht _ _ x2 x4,ht _ _ x2 x5,ht _ _ x2 x6⟩
  .obtain⟨b,off,x1,x2,x3,x4⟩:=hK.lN k hk;exact⟨b,off,x1,x2,ht _ _ x2 x3,ht _ _ x2 x4⟩
  .have:=hK.qC k hk ad ho;show ad.block<Aw.heap.size;omega
 have hFC:je d Aw (.slice none 0 0):=by
  refine⟨cF,hF,?_,?_⟩
  .show j<cF.size;omega
  .unfold World.cell? at hv;rw[hF] at hv;exact hv
 obtain⟨N0,aa⟩:∃N0,@Code.wpN (cY Aw.heap.size o.F j) none prog nq N0 (λe a w=>e=.normal/\a.defers=[dcall 114 #[P_ o.wg]]/\oB o j w) ⟨jU (b8 o ib ob),[dcall 114 #[P_ o.wg]]⟩ Aw:=⟨_,@KP d o.wg [dcall 114 #[P_ o.wg]] none (λe a w=>e=.normal/\a.defers=[dcall 114 #[P_ o.wg]]/\oB o j w) ha hy hj ⟨jU (b8 o ib ob),[dcall 114 #[P_ o.wg]]⟩ Aw (by simp[jU,CB,b8]) rfl (λt ht v hv=>MW t ht v _ hv) hW hFC (λa w h1 h2 ⟨v,h3,h4⟩=>⟨rfl,h1,Aw.heap.size,v,ab,h3.cell,h4⟩)⟩;refine⟨N0,?_⟩
 letI:=cY Aw.heap.size o.F j
 refine TN.mono (aa b39 [] [gn] rfl AS) ?_
 rintro fr cs w ⟨rfl,e,a',⟨rfl,h2,h3⟩,rfl⟩
 refine⟨rfl,⟨a'.tmps,?_⟩,h3⟩;show b39.atR a' []=_;rw[<-h2]
theorem Ru(T:Array Value):QuitsD Tryz.prog 2 0 (G { b39.at ⟨T,[]⟩ [] with mode:=.returning } [gn]):=by
 refine QuitsD.ctl (g':=G gn []) rfl (λw=>?_) ?_
 .simp[G,stepG,unwind,doReturn,results,Frame.at,b39,gn,Tryz.func113,Tryz.f113,seen,GStep.after,goexitEntry]
 refine QuitsD.ctl (g':={ G gn [] with status:=.finished }) rfl (λw=>?_) ⟨rfl,rfl⟩;rfl
theorem Rv{fr:Frame}{cs:List Frame}(h:WEo o i fr cs A):cs=[gn]/\oB o i A/\∃v,A.cell? ⟨o.F,i,none⟩=some v/\∀w,WgLive 147 o.wg w/\Has o.F i v w->Goes Tryz.prog false (RW 147 o.wg o.F o.os.length 0 i) DC0 (AtR0 Tryz.prog 147 o.wg o.F o.os.length 0 (i+1) v) 42 (G fr [gn]) w:=by
 obtain⟨rfl,⟨T,rfl⟩,hF⟩:=h;refine⟨rfl,hF,?_⟩;obtain⟨lo,v,h1,h2,h3⟩:=hF;refine⟨v,h2,λw hK=>?_⟩
 have kr:∀{w w1:World},WgLive 147 o.wg w/\Has o.F i v w->RW 147 o.wg o.F o.os.length 0 i w w1->WgLive 147 o.wg w1/\Has o.F i v w1:=λh r=>⟨r.live h.1,r.cell.trans h.2⟩
 refine Goes.step (n:=41) rfl λw1 r1=>?_
 have hK1:=kr hK r1;have e1:stepG Tryz.prog false (G (b39.atR ⟨T,[dcall 114 #[P_ o.wg]]⟩ []) [gn]) w1=.go (G { b39.at ⟨T,[dcall 114 #[P_ o.wg]]⟩ [] with mode:=.returning } [gn]) w1 #[]:=stepG_end (b:=b39);rw[e1];refine⟨⟨rfl,rfl⟩,Goes.step (n:=40) rfl λw2 r2=>?_⟩;have hK2:=kr hK1 r2;have e2:=stepG_unwind_enter (P:=Tryz.prog) (main:=false) (b:=b39) (a:=⟨T,[dcall 114 #[P_ o.wg]]⟩) (cs:=[gn]) (w:=w2) (todo:=[]) (ds:=[]) (f:=114) (fn:=doneFn link) (args:=#[P_ o.wg]) (c:=body_done link) rfl qD.f_done (nm_done link) rfl;rw[e2];refine⟨⟨rfl,rfl⟩,?_⟩;have hd:=Re (C:=o.F) (n:=o.os.length) (Low:=0) (k:=i+1) (val:=v) (L:=link) (Wg:=o.wg) qD (c:={ b39.at ⟨T,[]⟩ [] with mode:=.returning }) (cs:=[gn]) rfl (Ru T) w2 hK2;exact hd
end
end Go.Proofs.Tw
namespace Go.Proofs.Tw
open Go Go.Fi Go.Fc Go.Conc Go.RowKit Go.ConcR.Gen Go.Conc.Lib
open Go.ConcN (PayAt Has RW WgLive AtR0)
open Go.ConcN.Gen (AnchWN)
open Go.ConcR (DC0)
theorem FN{s:GStep}{g0:Goroutine}{w0:World}{e0:Array Event}(h:s.goes λg w es=>g=g0/\w=w0/\es=e0):s=.go g0 w0 e0:=by
 cases s<;>simp only[GStep.goes] at h<;>first|exact h.elim|simp_all
noncomputable def xD(o:OD):Frame:=(base link.add).at ⟨#[P_ o.wg,.int .i64 1]++Array.replicate 115 undef,[]⟩ [.code (body_add link)]
noncomputable def xE(o:OD):Frame:=(base link.wait).at ⟨#[P_ o.wg]++Array.replicate 83 undef,[]⟩ [.code (body_wait link)]
theorem Rw(x y:Value):#[x,y]++Array.replicate 115 undef=#[x,y,undef,undef,undef,undef,undef,undef,undef,undef,undef,undef,undef,undef,undef,undef,undef,undef,undef,undef,undef,undef,undef,undef,undef,undef,undef,undef,undef,undef,undef,undef,undef,undef,undef,undef,undef,undef,undef,undef,undef,undef,undef,undef,undef,undef,undef,undef,undef,undef,undef,undef,undef,undef,undef,undef,undef,undef,undef,undef,undef,undef,undef,undef,undef,undef,undef,undef,undef,undef,undef,undef,undef,undef,undef,undef,undef,undef,undef,undef,undef,undef,undef,undef,undef,undef,undef,undef,undef,undef,undef,undef,undef,undef,undef,undef,undef,undef,undef,undef,undef,undef,undef,undef,undef,undef,undef,undef,undef,undef,undef,undef,undef,undef,undef,undef,undef]:=aj
theorem Rx(x:Value):#[x]++Array.replicate 83 undef=#[x,undef,undef,undef,undef,undef,undef,undef,undef,undef,undef,undef,undef,undef,undef,undef,undef,undef,undef,undef,undef,undef,undef,undef,undef,undef,undef,undef,undef,undef,undef,undef,undef,undef,undef,undef,undef,undef,undef,undef,undef,undef,undef,undef,undef,undef,undef,undef,undef,undef,undef,undef,undef,undef,undef,undef,undef,undef,undef,undef,undef,undef,undef,undef,undef,undef,undef,undef,undef,undef,undef,undef,undef,undef,undef,undef,undef,undef,undef,undef,undef,undef,undef,undef]:=aj
noncomputable def scr(o:OD)(base:List Frame):Script where
 base:=base
 csW:=[gn]
 K7:=42
 NK:=10
 I1:=I1o o
 I2:=I2o o
 I3:=I3o o
 WE:=WEo o
 Fin:=oB o
 Cr fr:=G (xD o) (fr::base)
 Cs fr:=G (xE o) (fr::base)
 jf fr:=AnchWN link (λ_=>True) o.wg fr base
 child _ fr:=born Tryz.prog (call39 (sd fr))
 frW _ fr:=pD (sd fr)
noncomputable def phd(o:OD)(e0:Nat)(dead:Nat->Prop):PhD:={ ty:=147,Wg:=o.wg,F:=o.F,n:=o.os.length,lo0:=o.lo0,e0:=e0,dead:=dead,v0:=.slice none 0 0 }
section
variable{o:OD}{j:Nat}{fr:Frame}{A:World}{base:List Frame}
theorem MY(h:I1o o j fr A)(B:World):stepG Tryz.prog true (G fr base) B=.go (G (xD o) (fr::base)) B #[]:=by
 obtain⟨a,ib,ob,rfl,hS,_⟩:=h;have s7:=hS.get 7 (P_ o.wg) rfl;refine FN ?_
 have hm:#[Operand.tmp 7,Operand.const (Value.int IntKind.i64 1)].map a.eval=#[P_ o.wg,.int .i64 1]:=by simp[Act.eval,s7]
 refine goes_call (b:=b20) (o:=Ey) (f:=112) (fn:=addFn link) (c:=body_add link) (ops:=tB) (i:=0) rfl rfl fe rfl qD.f_add (nm_add link) rfl ?_;refine⟨?_,rfl,rfl⟩;rw[hm];rfl
theorem MZ(h:I3o o fr A)(B:World):stepG Tryz.prog true (G fr base) B=.go (G (xE o) (fr::base)) B #[]:=by
 obtain⟨a,rfl,hS,_⟩:=h;have s7:=hS.get 7 (P_ o.wg) rfl;refine FN ?_
 have hm:#[Operand.tmp 7].map a.eval=#[P_ o.wg]:=by simp[Act.eval,s7]
 refine goes_call (b:=b20) (o:=Ez) (f:=115) (fn:=waitFn link) (c:=body_wait link) (ops:=qe) (i:=0) rfl rfl fe rfl qD.f_wait (nm_wait link) rfl ?_;refine⟨?_,rfl,rfl⟩;rw[hm];rfl
theorem Ry(h:I1o o j fr A)(w:World)(hw:WgLive 147 o.wg w):GL Tryz.prog 147 o.wg (xA Tryz.prog 147 o.wg (G (fr.finish (.tuple #[])) base)) 60 (G (xD o) (fr::base)) w:=by
 obtain⟨a,ib,ob,rfl,hS,_⟩:=h;have:=gC (Wg:=o.wg) (Q9 (L:=link) (Wg:=o.wg) (b₀:=b20) (a₀:=a) (ops₀:=tB) (i₀:=0) (rest₀:=[]) (k₀:=.code (.region 10 nS false)::.inBlock 1::.code (.region 11 lA false)::kL) (cs:=base) qD w hw);rw[<-Frame.finish_at] at this;unfold xD;rw[Rw];exact this
theorem M3(h:I3o o fr A)(w:World)(hw:WgLive 147 o.wg w):GL Tryz.prog 147 o.wg (WtK Tryz.prog 147 o.wg (AnchWN link (λ_=>True) o.wg fr base)) 10 (G (xE o) (fr::base)) w:=by
 obtain⟨a,rfl,hS,_⟩:=h;unfold xE;rw[Rx];exact gC (Wg:=o.wg) (g8 (L:=link) (Wg:=o.wg) (b₀:=b20) (a₀:=a) (ops₀:=qe) (i₀:=0) (rest₀:=[]) (k₀:=[.code (.seq (.region 13 oR false) .ret)]) (cs:=base) qD w hw)
theorem M4(a5:∃a,fr=Cz a)(g:Goroutine)(w:World)(h:AnchWN link (λ_=>True) o.wg fr base g w):GL Tryz.prog 147 o.wg (Wt1 Tryz.prog 147 o.wg (G (fr.finish (.tuple #[])) base) (AnchWN link (λ_=>True) o.wg fr base)) 40 g w:=by
 obtain⟨a,rfl⟩:=a5;have:=gC (Wg:=o.wg) (Ra (L:=link) (Wg:=o.wg) (b₀:=b20) (a₀:=a) (ops₀:=qe) (i₀:=0) (rest₀:=[]) (k₀:=[.code (.seq (.region 13 oR false) .ret)]) (cs:=base) qD g w h);rw[<-Frame.finish_at] at this;exact this
end
theorem Rz:@codeOk xfW prog nq=true:=aj
theorem RA:prog.funcs[69]?=some (ig Tryz.f69):=by rw[jT,Tryz.func69];rfl
theorem RB:prog.funcs[113]?=some (ig Tryz.f113):=by rw[jT,Tryz.func113];rfl
theorem Ig:Tryz.f69.norace=false:=aj
theorem Ih:Tryz.f113.norace=false:=aj
theorem M5(c:Array Value):@dG xfW prog Tryz.prog (pD c):=by
 letI:=xfW
 refine⟨λit a6=>?_,AS,.inr ⟨.inr rfl,rfl,rfl,rfl,trivial⟩,λch=>by simp[pD,Frame.atR],⟨_,_,RB,Tryz.func113,Ih,Ih⟩⟩
 have:it=.code nq:=by simpa[pD,Frame.atR] using a6
 subst this;exact Rz
theorem wQ(f:FuncId)(args:Array Value):∃c,(Frame.enter prog f args .normal).todo=[.code c]:=⟨_,rfl⟩
theorem RD(o:OD)(base:List Frame)(hb:base≠[])(e0:Nat)(dead:Nat->Prop)(hn:o.os.length<=1000)(ha:o.zs.length<=64)(hc:o.bz.length<=1000):@fY H9 xfW Tryz.prog prog (phd o e0 dead) (scr o base):=by
 letI:=xfW
 refine { Q5:=hb,csN:=by simp[scr],st1:=?_,st2:=?_,st3:=?_,stW:=?_,stF:=?_,HX:=?_,add:=?_,mid:=?_,go:=?_,Q6:=?_,beg:=?_,wok:=?_,work:=?_,next:=?_,hwe:=?_,call3:=?_,g8:=?_,HY:=?_,anch:=?_,HZ:=?_,H0:=?_,H2:=?_,H3:=?_ }
 .rintro j fr A A' ⟨a,ib,ob,h1,h2,h3,h4,h5⟩ e
  exact⟨a,ib,ob,h1,h2,h3.mv e,h4,h5.mv e⟩
 .rintro j fr A A' ⟨a,ib,ob,h1,h2,h3,h4,h5⟩ e
  exact⟨a,ib,ob,h1,h2,h3.mv e,h4,h5.mv e⟩
 .rintro fr A A' ⟨a,h1,h2,h3⟩ e
  exact⟨a,h1,h2,h3.mv e⟩
 .rintro i fr cs A A' ⟨h1,h2,h3⟩ e
  exact⟨h1,h2,h3.mv e⟩
 .intro i A A' h e;exact oB.mv h e
 .intro j fr A h B;exact MY h B
 .intro j fr A h w hw;exact⟨60,Ry h w hw⟩
 .intro j fr A h hj lo;exact⟨4,Rq h⟩
 .rintro j fr A ⟨a,ib,ob,rfl,hS,_⟩ B
  have:=Rr (cs:=base) hS B;rw[<-AT hS] at this;exact this
 .intro j fr;rfl
 .rintro j fr A ⟨a,ib,ob,rfl,hS,_⟩ w
  refine⟨6,?_⟩;exact Rs (sd (pC a)) (by rw[AT hS];rfl) w
 .intro j fr A _;exact M5 _
 .intro j fr A h Aw h1 h2 h3 h4;exact MX ha hc h Aw h1 h2 h3 h4
 .intro j fr A h hj lo a9 h';exact⟨37,MR hn a9 h' h⟩
 .intro i fr cs A h;exact Rv h
 .intro fr A h B;exact MZ h B
 .intro fr A h w hw;exact M3 h w hw
 .rintro fr g w ⟨T,rfl,_⟩;rfl
 .rintro fr A g w ⟨a,rfl,_⟩ h;exact⟨40,M4 ⟨a,rfl⟩ g w h⟩
 .rintro j fr A f args ⟨a,ib,ob,rfl,_⟩ e
  obtain⟨c,hc⟩:=wQ f args;rw[<-e] at hc;cases hc
 .rintro j fr A f args ⟨a,ib,ob,rfl,_⟩ e
  obtain⟨c,hc⟩:=wQ f args;rw[<-e] at hc;cases hc
 .rintro fr A f args ⟨a,rfl,_⟩ e
  obtain⟨c,hc⟩:=wQ f args;rw[<-e] at hc;cases hc
 .rintro i fr cs A f args ⟨_,⟨T,rfl⟩,_⟩ e
  obtain⟨c,hc⟩:=wQ f args;rw[<-e] at hc;cases hc
end Go.Proofs.Tw
