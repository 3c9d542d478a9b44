/- Lemmas. -/
import Derived.Test.YthpkmilhiganjaaGreatPWc
import Derived.Test.YthpkmilhiganjaaGreatPWl
import Derived.Test.YthpkmilhiganjaaGreatPNc
import Derived.Test.YthpkmilhiganjaaGreatPNd
set_option linter.unusedSimpArgs false
set_option linter.unusedVariables false
set_option linter.unusedSectionVars false
set_option maxHeartbeats 32000000
set_option maxRecDepth 100000
namespace Go.Proofs.Tw
open Go Go.Fi Go.Fc Go.Conc
@[reducible] def xfW:Xf:={ xf:=fun _=>False,bot:=fun f=>f=69∨f=113,ds:=fun _ _=>True,rng:=false }
instance BU:ConcR.Payload:=⟨136⟩
def qU(f:Nat):Prop:=keep f=false∧∃fn,Tryz.prog.funcs[f]?=some fn
theorem fq(f:Nat):prog.funcs[f]?=(Tryz.prog.funcs[f]?).map fun fn=>if keep f then fn else dh fn:=by
 unfold prog;simp only[Array.getElem?_mapIdx]
theorem KM:@codeOk xfW prog (Tryz.f107.body.getD .skip)=true:=by kernel_rfl
theorem KN:@codeOk xfW prog (Tryz.f133.body.getD .skip)=true:=by kernel_rfl
theorem KO:Tryz.f107.body=some (Tryz.f107.body.getD .skip):=by kernel_rfl
theorem KP:Tryz.f133.body=some (Tryz.f133.body.getD .skip):=by kernel_rfl
theorem KQ:(Tryz.f107.name == "runtime.NumGoroutine")=false:=by kernel_rfl
theorem KR:(Tryz.f133.name == "runtime.NumGoroutine")=false:=by kernel_rfl
theorem KS:Tryz.f107.norace=false:=by kernel_rfl
theorem KT:Tryz.f133.norace=false:=by kernel_rfl
theorem KU:prog.inits.idxOf? 107=none:=by kernel_rfl
theorem KW:prog.inits.idxOf? 133=none:=by kernel_rfl
theorem BV:@fj prog Tryz.prog (@Cc xfW prog Tryz.prog) qU:=by
 letI:=xfW
 refine⟨⟨⟨Tryz.prog.funcs,rfl⟩⟩,fun f=>?_⟩
 rcases hx:Tryz.prog.funcs[f]? with _|fn
 ·exact .inl ⟨by rw[fq,hx];rfl,rfl⟩
 ·by_cases hk:keep f=true
  ·have:f=107∨f=133:=by simpa[keep] using hk
   rcases this with rfl|rfl
   ·refine .inr (.inr (.inr ⟨Tryz.f107,_,func107,by rw[←hx];exact Tryz.func107,KQ,KO,KM,⟨Tryz.f107,func107,Tryz.func107,KS⟩,KU⟩))
   ·refine .inr (.inr (.inr ⟨Tryz.f133,_,func133,by rw[←hx];exact Tryz.func133,KR,KP,KN,⟨Tryz.f133,func133,Tryz.func133,KT⟩,KW⟩))
  ·have hk:keep f=false:=by simpa using hk
   refine .inr (.inr (.inl ⟨⟨hk,fn,hx⟩,dh fn,.refuse "known by its contract alone",?_,rfl,rfl⟩));rw[fq,hx];simp[hk]
theorem ni{f:Nat}(h:qU f)(args:Array Value)(cs:List Frame)(w:World)(g':Goroutine)(w':World)(es:Array Event):stepG prog true (G (Frame.enter prog f args .normal) cs) w≠.go g' w' es:=by
 obtain⟨hk,fn,hx⟩:=h
 have hf:prog.funcs[f]?=some (dh fn):=by rw[fq,hx];simp[hk]
 have:Frame.enter prog f args .normal = { fn:=f,tmps:=args++Array.replicate ((dh fn).ntmps-args.size) undef,todo:=[.code (.refuse "known by its contract alone")],defers:=[],mode:=.run,kind:=.normal }:=by
  simp[Frame.enter,hf,dh]
 rw[this];simp[G,stepG,stepG.exec]
theorem BW:∃c,Tryz.f69.body=some c∧c≠.refuse "known by its contract alone" := ⟨_,rfl,by intro h;cases h⟩
theorem yZ{f:Nat}(h:xfW.bot f):¬(@Cc xfW prog Tryz.prog).fn f:=by
 rintro⟨⟨fn,h1,h2,_⟩,_⟩
 have hk:keep f=false:=by rcases h with rfl|rfl<;>rfl
 rw[fq,h2] at h1;simp[hk] at h1
 have hb:fn.body=some (.refuse "known by its contract alone"):=by rw[←h1];rfl
 rcases h with rfl|rfl
 ·rw[Tryz.func69] at h2;cases h2;obtain⟨c,h3,h4⟩:=BW;rw[h3] at hb;exact h4 (Option.some.inj hb)
 ·rw[Tryz.func113] at h2;cases h2
  have:Tryz.f113.body≠some (.refuse "known by its contract alone"):=by intro h;cases h
  exact this hb
theorem KX(l F k:Nat):@fQ xfW (aF l F k) prog Tryz.prog qU:=by
 letI:=aF l F k
 letI:=xfW
 exact⟨BV,fun f h=>h,fun f hb args cs w g' w' es=>ni hb args cs w g' w' es,fun w t d=>⟨rfl,rfl,Nat.le_refl _,fun _ _=>rfl⟩,fun f h=>yZ h⟩
end Go.Proofs.Tw
namespace Go.Proofs.Tw
open Go Go.Fi Go.Fc Go.Conc Go.RowKit
structure OD where
 rb:Nat
 xv:Nat
 xb:Nat
 wg:Nat
 F:Nat
 lo0:Nat
 ca:Option Addr
 fg:Nat
 af:List (ByteArray×Int×Bool)
 oa:Option Addr
 aJ:Nat
 os:List (ByteArray×Int×Bool×Int)
 fa:Option Addr
 gS:Nat
 zs:List (Int×Int)
structure dk(o:OD)(w:World):Prop where
 size:o.lo0≤w.heap.size
 low:o.F<o.lo0∧o.rb<o.lo0∧o.xv<o.lo0∧o.xb<o.lo0
 apart:o.rb≠o.F∧o.xv≠o.F∧o.xb≠o.F
 l8:w.cell? ⟨o.rb,0,none⟩=some (.slice o.ca o.af.length o.fg)
 vZ:w.cell? ⟨o.rb,1,none⟩=some (.slice o.oa o.os.length o.aJ)
 kM:w.cell? ⟨o.rb,3,none⟩=some (.slice o.fa o.zs.length o.gS)
 xvc:w.cell? ⟨o.xv,0,none⟩=some (.pointer (some ⟨o.xb,0,none⟩))
 iT:w.cell? ⟨o.xb,4,none⟩=some (.slice (some ⟨o.F,0,none⟩) o.os.length o.os.length)
 af:l7 o.F o.lo0 w o.ca o.af
 fO:fN o.F w o.fa o.zs
 kN:∀j,j<o.zs.length→∀ad,o.fa=some ad→ad.block<o.lo0
 BX:gU o.F w o.oa o.os
 BY:∀j,j<o.os.length→∀ad,o.oa=some ad→ad.block<o.lo0
theorem gU.low{F lo:Nat}{w w1:World}{a0:Option Addr}{os:List (ByteArray×Int×Bool×Int)}(h:gU F w a0 os)(hlo:∀j,j<os.length→∀ad,a0=some ad→ad.block<lo)(e:Bel lo w w1):gU F w1 a0 os:=
 fun j hj=>let ⟨b,off,h1,h2,h3,h4,h5,h6⟩:=h j hj
  have hb:b<lo:=hlo j hj _ h1
  ⟨b,off,h1,h2,(e.cell (p:=⟨b,_,none⟩) hb).trans h3,(e.cell (p:=⟨b,_,none⟩) hb).trans h4,(e.cell (p:=⟨b,_,none⟩) hb).trans h5,(e.cell (p:=⟨b,_,none⟩) hb).trans h6⟩
theorem dk.bel{o:OD}{w w1:World}(h:dk o w)(e:Bel o.lo0 w w1):dk o w1:=by
 have c:∀{b k:Nat}{v:Value},b<o.lo0→w.cell? ⟨b,k,none⟩=some v→w1.cell? ⟨b,k,none⟩=some v:=fun hb hv=>(e.cell (p:=⟨_,_,none⟩) hb).trans hv
 obtain⟨l1,l2,l3,l4⟩:=h.low;exact⟨Nat.le_trans h.size e.size,h.low,h.apart,c l2 h.l8,c l2 h.vZ,c l2 h.kM,c l3 h.xvc,c l4 h.iT,h.af.bel e,h.fO.low h.kN e,h.kN,h.BX.low h.BY e,h.BY⟩
theorem dk.mv{o:OD}{w w1:World}(h:dk o w)(e:Bel w.heap.size w w1):dk o w1:=h.bel (e.mono h.size)
abbrev cW:Code:=.seq (.region 12 kh false) (.seq (.region 13 jo false) .ret)
abbrev c8:Code:=.seq (.region 8 fY false) (.seq (.region 9 m6 false) (.region 10 iC false))
abbrev cLB:Code:=.seq (.region 7 pF false) (.seq (.cond (.tmp 29) .skip (.exit 0)) (.seq (.block 1 c8) (.region 11 fF false)))
def kL:List Item:=[.inLoop cLB,.inBlock 0,.code cW]
def b20:Frame:={ (default:Frame) with fn:=69,kind:=.normal,roundOf:=none }
theorem bu:b20.kind≠.early:=by intro h;cases h
def fr9(a:Act):Frame:=b20.atR a (.inRegion m6 [0]::.code (.region 10 iC false)::.inBlock 1::.code (.region 11 fF false)::kL)
def ia(a:Act):Frame:=b20.atR a (.inRegion iC [1]::.inBlock 1::.code (.region 11 fF false)::kL)
def qV(a:Act):Frame:=b20.atR a [.inRegion kh [0],.code (.seq (.region 13 jo false) .ret)]
def P_(b:Nat):Value:=.pointer (some ⟨b,0,none⟩)
def ml(o:OD)(j ib ob:Nat)(w:World):Prop:=
 o.lo0≤ib∧o.lo0≤ob∧ib≠ob∧w.heap[ib]?=some (.cells #[.int .i64 j] 3)∧w.heap[ob]?=some (.cells #[.string (o.os.getD j (default,0,false,0)).1,.int .i64 (o.os.getD j (default,0,false,0)).2.1,.bool (o.os.getD j (default,0,false,0)).2.2.1,.int .i64 (o.os.getD j (default,0,false,0)).2.2.2] 91)
theorem ml.mv{o:OD}{j ib ob:Nat}{w w1:World}(h:ml o j ib ob w)(e:Bel w.heap.size w w1):ml o j ib ob w1:=
 ⟨h.1,h.2.1,h.2.2.1,(e.block _ (Array.getElem?_eq_some_iff.1 h.2.2.2.1).1).trans h.2.2.2.1,(e.block _ (Array.getElem?_eq_some_iff.1 h.2.2.2.2).1).trans h.2.2.2.2⟩
abbrev S9(o:OD)(j ib ob:Nat):Nat→Option Value:=ups (ups (S20 o.wg o.rb o.xv o.oa o.aJ o.os.length j) 8 (P_ ib)) 9 (P_ ob)
def av(o:OD)(ib ob:Nat):Array Value:=#[P_ o.wg,P_ o.rb,P_ o.xv,P_ ib,P_ ob]
def I1o(o:OD)(j:Nat)(fr:Frame)(w:World):Prop:=∃a ib ob,fr=fr9 a∧SlS (S9 o j ib ob) a∧dk o w∧j<o.os.length∧ml o j ib ob w
def I2o(o:OD)(j:Nat)(fr:Frame)(w:World):Prop:=∃a ib ob,fr=ia a∧SlS (ups (S9 o j ib ob) 34 (.func (.func 113) #[] (av o ib ob))) a∧dk o w∧j<o.os.length∧ml o j ib ob w
def I3o(o:OD)(fr:Frame)(w:World):Prop:=∃a,fr=qV a∧SlS (S20 o.wg o.rb o.xv o.oa o.aJ o.os.length o.os.length) a∧dk o w
section
variable{o:OD}{j:Nat}{fr:Frame}{w:World}{cs:List Frame}{lo:Nat}
theorem KY(h:I1o o j fr w):@TN (aF lo o.F o.os.length) prog cs.length cs.length (fun fr' cs' w'=>cs'=cs∧I2o o j fr' w') 4 (fr.finish (.tuple #[])) cs w:=by
 letI:=aF lo o.F o.os.length
 obtain⟨a,ib,ob,rfl,hS,hK,hj,hB⟩:=h
 have e1:(fr9 a).finish (.tuple #[])=b20.atR (a.put (some 33) (.tuple #[])) (.inRegion m6 []::.code (.region 10 iC false)::.inBlock 1::.code (.region 11 fF false)::kL):=by
  unfold fr9;rw[Frame.finish_atR];rfl
 rw[e1];have hS1:=hS.put (t:=33) (by decide) (.tuple #[]);generalize a.put (some 33) (.tuple #[])=a1 at hS1;refine gH (Nat.le_refl _) (ga (Nat.le_refl _) ?_);show TN prog cs.length cs.length _ 2 (b20.atR a1 (.inRegion iC [0,1]::_)) cs w;have s7:=hS1.get 7 (P_ o.wg) rfl;have s1:=hS1.get 1 (P_ o.rb) rfl;have s6:=hS1.get 6 (P_ o.xv) rfl;have s8:=hS1.get 8 (P_ ib) rfl;have s9:=hS1.get 9 (P_ ob) rfl
 refine hZ (o:=tO) rfl rfl (by intro c h;cases h) bu (Nat.le_refl _) fun w1 e=>⟨fun f ev hev=>?_,?_⟩
 ·have hm:=mem_listed hev;simp[go_sem] at hm
 ·have hr:(execOp a1.eval tO).run prog w1=.ok (.value (.func (.func 113) #[] (av o ib ob))) w1:=by
   simp[go_sem,s7,s1,s6,s8,s9,av]
  rw[hr];refine .now ⟨rfl,a1.put (some 34) (.func (.func 113) #[] (av o ib ob)),ib,ob,rfl,?_,hK.mv e,hj,hB.mv e⟩;have hS2:=hS1.put (t:=34) (by decide) (.func (.func 113) #[] (av o ib ob));refine⟨hS2.size,hS2.defers,fun t v ht=>hS2.get t v ?_⟩;unfold ups at ht ⊢;by_cases e34:t=34
  ·simpa[e34] using ht
  ·by_cases e33:t=33
   ·subst e33;cases ht
   ·simpa[e34,e33] using ht
theorem zb{a:Act}(hn:o.os.length≤1000)(hj:j≤o.os.length)(hlo:o.lo0≤lo)(hlo2:lo≤w.heap.size)(hS:SlS (S20 o.wg o.rb o.xv o.oa o.aJ o.os.length j) a)(hK:dk o w):@TN (aF lo o.F o.os.length) prog cs.length cs.length (fun fr' cs' w'=>cs'=cs∧if j<o.os.length then I1o o j fr' w' else I3o o fr' w') 30 (b20.atR a (.code cLB::kL)) cs w:=by
 letI:=aF lo o.F o.os.length
 have hFlo:o.F<lo:=Nat.lt_of_lt_of_le hK.low.1 hlo;refine dt (N:=29) (Nat.le_refl _) ?_
 let Q1:Exit→Act→World→Prop:=fun e a w=>e=.normal∧SlS (S20 o.wg o.rb o.xv o.oa o.aJ o.os.length j) a∧a.tmps[29]?.getD undef=.bool (decide (j<o.os.length))∧dk o w∧lo≤w.heap.size
 refine qb (N:=26) (M:=3) (Q:=Q1) (Ej (F:=o.F) (lo:=lo) (k:=o.os.length) hn hj hS (fun w=>dk o w∧lo≤w.heap.size) (fun w w1 h e=>⟨h.1.mv e,Nat.le_trans h.2 e.size⟩) ⟨hK,hlo2⟩ (fun a w h1 h2 h3=>⟨rfl,h1,h2,h3.1,h3.2⟩)) bu (fun e a w h=>h.1) fun a w hq=>?_
 obtain⟨_,hS,h29,hK,hlo2⟩:=hq;refine dt (Nat.le_refl _) (uw (t:=decide (j<o.os.length)) (Nat.le_refl _) (by simp[Act.eval,h29]) ?_);by_cases hlt:j<o.os.length
 ·simp only[hlt,decide_true,if_true];refine y9 (Nat.le_refl _) (dt (Nat.le_refl _) (za (Nat.le_refl _) (dt (Nat.le_refl _) ?_)))
  let Q2:Exit→Act→World→Prop:=fun e a w=>e=.normal∧∃ib ob,SlS (S9 o j ib ob) a∧dk o w∧ml o j ib ob w
  refine qb (N:=11) (M:=9) (Q:=Q2) (El (F:=o.F) (lo:=lo) (k:=o.os.length) hFlo rfl hlt hS hlo2 (dk o) (fun w w1 h e=>h.mv e) (fun w w1 h _ e=>h.bel (e.mono hlo)) hK hK.BX (fun a w ib ob h1 h2 h3 h4 h5 h6 h7 h8=>⟨rfl,ib,ob,h1,h2,Nat.le_trans hlo h4,Nat.le_trans hlo h5,h6,h7,h8⟩)) bu (fun e a w h=>h.1) fun a w hq=>?_
  obtain⟨_,ib,ob,hS,hK,hB⟩:=hq;refine dt (Nat.le_refl _) (ga (Nat.le_refl _) (.now ⟨rfl,?_⟩));exact⟨a,ib,ob,rfl,hS,hK,hlt,hB⟩
 ·simp only[hlt,decide_false,Bool.false_eq_true,if_false];refine Ge (k':=[.code cW]) (Nat.le_refl _) rfl (dt (Nat.le_refl _) (ga (Nat.le_refl _) (.now ⟨rfl,?_⟩)))
  have:j=o.os.length:=by omega
  subst this;exact⟨a,rfl,hS,hK⟩
theorem Gf(hn:o.os.length≤1000)(hlo:o.lo0≤lo)(hlo2:lo≤w.heap.size)(h:I2o o j fr w):@TN (aF lo o.F o.os.length) prog cs.length cs.length (fun fr' cs' w'=>cs'=cs∧if j+1<o.os.length then I1o o (j+1) fr' w' else I3o o fr' w') 37 (fr.finish undef) cs w:=by
 letI:=aF lo o.F o.os.length
 obtain⟨a,ib,ob,rfl,hS,hK,hj,hB⟩:=h
 have e1:(ia a).finish undef=b20.atR a (.inRegion iC []::.inBlock 1::.code (.region 11 fF false)::kL):=by
  unfold ia;rw[Frame.finish_atR];rfl
 rw[e1]
 have hS0:SlS (S20 o.wg o.rb o.xv o.oa o.aJ o.os.length j) a:=⟨hS.size,hS.defers,fun t v ht=>hS.get t v (by
  unfold ups;by_cases e34:t=34
  ·subst e34;cases ht
  ·by_cases e9:t=9
   ·subst e9;cases ht
   ·by_cases e8:t=8
    ·subst e8;cases ht
    ·show (if t=34 then _ else if t=9 then _ else if t=8 then _ else S20 o.wg o.rb o.xv o.oa o.aJ o.os.length j t)=some v
     rw[if_neg e34,if_neg e9,if_neg e8];exact ht)⟩
 refine gH (Nat.le_refl _) (Ga (Nat.le_refl _) ?_)
 let Q1:Exit→Act→World→Prop:=fun e a w=>e=.normal∧SlS (S20 o.wg o.rb o.xv o.oa o.aJ o.os.length (j+1)) a∧dk o w∧lo≤w.heap.size
 refine qb (N:=31) (M:=4) (Q:=Q1) (Ek (F:=o.F) (lo:=lo) (k:=o.os.length) hn (by omega) hS0 (fun w=>dk o w∧lo≤w.heap.size) (fun w w1 h e=>⟨h.1.mv e,Nat.le_trans h.2 e.size⟩) ⟨hK,hlo2⟩ (fun a w h1 h3=>⟨rfl,h1,h3.1,h3.2⟩)) bu (fun e a w h=>h.1) fun a w hq=>?_
 obtain⟨_,hS,hK,hlo2⟩:=hq;exact Gc (Nat.le_refl _) (zb hn (by omega) hlo hlo2 hS hK)
end
end Go.Proofs.Tw
namespace Go.Proofs.Tw
open Go Go.Fi Go.Fc Go.Conc Go.RowKit Go.ConcR.Gen Go.Conc.Lib
open Go.ConcN (PayAt Has RW WgLive AtR0)
open Go.ConcR (DC0)
abbrev zc:Oper:=⟨none,(.defer ⟨(.value (.func 114)),#[(.tmp 0)],#[147]⟩),0, "dispatch.go:120",#[],none⟩
abbrev qc:Array Oper:=#[zc]
theorem Gg:Tryz.f113.body=some (.seq (.region 0 qc false) gT):=rfl
noncomputable def b39:Frame:={ (default:Frame) with fn:=113,kind:=.deferred,roundOf:=none }
theorem uy:b39.kind≠.early:=by intro h;cases h
noncomputable def cj:Frame:={ (default:Frame) with fn:=Tryz.prog.funcs.size,defers:=[],mode:=.panicking [goexitEntry] }
noncomputable def wh:Nat→Array Value:=fun n=>Array.replicate n undef
noncomputable def eG(c:Array Value):Array Value:=c++wh 49
noncomputable def call39(c:Array Value):Deferred:={ target:=.fn (.func 113) c,args:=#[] }
noncomputable def jO(c:Array Value):Frame:=b39.atR ⟨eG c,[dcall 114 #[c.getD 0 undef]]⟩ [.code gT]
noncomputable def mn(fr:Frame):Array Value:=match fr.tmps.getD 34 undef with | .func _ _ c=>c|_=>#[]
section
variable{o:OD}{j ib ob:Nat}{a:Act}{cs:List Frame}
theorem KZ(hS:SlS (ups (S9 o j ib ob) 34 (.func (.func 113) #[] (av o ib ob))) a)(B:World):stepG Tryz.prog true (G (ia a) cs) B=.spawn (G ((ia a).finish undef) cs) (born Tryz.prog (call39 (av o ib ob))) B #[]:=by
 have s34:=hS.get 34 _ rfl
 have hr:(execOp a.eval lG).run Tryz.prog B=.ok (.spawn (call39 (av o ib ob))) B:=by
  unfold execOp;simp[resolve,Deferred.ofValue,Act.eval,s34,call39]
 have he:∀es,(execOp a.eval lG).events Tryz.prog B es=es:=by
  intro es;unfold execOp;simp[resolve,Deferred.ofValue,Act.eval,s34,call39]
 have e1:(ia a).finish undef=b20.at (a.put lG.dst undef) (.inRegion iC []::.inBlock 1::.code (.region 11 fF false)::kL):=by
  unfold ia;rw[Frame.finish_atR];rfl
 have hl:listed Tryz.prog b20.fn a lG B=#[]:=by unfold listed;rw[he,seen_none]
 rw[e1];show stepG Tryz.prog true (G (b20.at a (.inRegion iC (1::[])::.inBlock 1::.code (.region 11 fF false)::kL)) cs) B=_;rw[stepG_spawn (o:=lG) rfl rfl bu hr rfl,hl]
theorem Gh(c:Array Value)(hc:c.size=5)(w:World):stepG Tryz.prog false (born Tryz.prog (call39 c)) w=.go (G (b39.atR ⟨eG c,[]⟩ [.code (.seq (.region 0 qc false) gT)]) [cj]) w #[]:=by
 have hb:Tryz.f113.body=some (.seq (.region 0 qc false) gT):=Gg;have hn:Tryz.f113.ntmps=54:=rfl
 have hname:(Tryz.f113.name == "runtime.NumGoroutine")=false:=by kernel_rfl
 have h1:¬Tryz.f113.name = "runtime.NumGoroutine" := by simpa using hname
 simp[born,call39,stepG,unwind,callDeferred,invoke,callFunc,Tryz.func113,h1,hb,seen_none,GStep.after,G,Frame.enter,Frame.atR,b39,cj,eG,wh,hc,hn]
theorem K0(c:Array Value)(hc:c.size=5)(w:World):Goes Tryz.prog false (fun _ _=>True) DC0 (gl (G (jO c) [cj])) 6 (born Tryz.prog (call39 c)) w:=by
 have st:∀{n:Nat}{g g':Goroutine}{w:World},g.status=.running→(∀w,stepG Tryz.prog false g w=.go g' w #[])→(∀w,Goes Tryz.prog false (fun _ _=>True) DC0 (gl (G (jO c) [cj])) n g' w)→Goes Tryz.prog false (fun _ _=>True) DC0 (gl (G (jO c) [cj])) (n+1) g w:=
  fun hr h k=>Goes.step hr fun w1 _=>by rw[h w1];exact⟨⟨rfl,rfl⟩,k w1⟩
 refine st (n:=5) rfl (Gh c hc) fun w=>?_
 refine st (n:=4) rfl (fun w=>stepG_seq (b:=b39)) fun w=>?_
 refine st (n:=3) rfl (fun w=>stepG_region (b:=b39)) fun w=>?_
 refine st (n:=2) rfl (fun w=>stepG_defer (b:=b39) (ops:=qc) (i:=0) (o:=zc) rfl rfl uy rfl) fun w=>?_
 refine st (n:=1) rfl (fun w=>stepG_region_end (b:=b39)) fun w=>?_
 refine Goes.stop fun w1 _=>?_
 have e:Act.eval ⟨eG c,[]⟩ (.tmp 0)=c.getD 0 undef:=by
  simp[Act.eval,eG,Array.getD_eq_getD_getElem?,Array.getElem?_append,hc]
 have e2:Array.map (Act.eval ⟨eG c,[]⟩) #[Operand.tmp 0]=#[c.getD 0 undef]:=by simp[e]
 show G (b39.at ⟨eG c,[dcall 114 (Array.map (Act.eval ⟨eG c,[]⟩) #[Operand.tmp 0])]⟩ [.code gT]) [cj]=_;rw[e2];rfl
end
noncomputable def odW(o:OD)(i ib ob lo:Nat):WkD:=
 { F:=o.F,i:=i,lo:=lo,rb:=o.rb,xv:=o.xv,xb:=o.xb,ib:=ib,ob:=ob,ca:=o.ca,fg:=o.fg,af:=o.af,fa:=o.fa,gS:=o.gS,zs:=o.zs,n:=o.os.length,vB:=o.os.length,nT:=(o.os.getD i (default,0,false,0)).2.1,iS:=(o.os.getD i (default,0,false,0)).2.2.1 }
noncomputable def wi(o:OD)(i:Nat):List Bool:=fh (odW o i 0 0 0) o.af.length
def iY(o:OD)(i:Nat)(A:World):Prop:=∃lo v,o.lo0≤lo∧A.cell? ⟨o.F,i,none⟩=some v∧dj (odW o i 0 0 lo) A v (wi o i)
theorem iY.mv{o:OD}{i:Nat}{A A':World}(h:iY o i A)(e:Bel A.heap.size A A'):iY o i A':=
 let ⟨lo,v,h1,h2,h3⟩:=h;⟨lo,v,h1,e.cellAt h2,h3.mv e⟩
def WEo(o:OD)(i:Nat)(fr:Frame)(cs:List Frame)(A:World):Prop:=cs=[cj]∧(∃T,fr=b39.atR ⟨T,[dcall 114 #[P_ o.wg]]⟩ [])∧iY o i A
section
variable{o:OD}{i j ib ob:Nat}{A:World}
theorem uz{a:Act}(hS:SlS (ups (S9 o j ib ob) 34 (.func (.func 113) #[] (av o ib ob))) a):mn (ia a)=av o ib ob:=by
 have s34:=hS.get 34 _ rfl
 have:(ia a).tmps.getD 34 undef=.func (.func 113) #[] (av o ib ob):=by
  rw[Array.getD_eq_getD_getElem?];exact s34
 unfold mn;rw[this]
theorem cp{w:World}{b k:Nat}{c:Array Value}{e:TypeId}{f:Nat×Nat}{v:Value}(h:w.heap[b]?=some (.cells c e f))(hv:c[k]?=some v):w.cell? ⟨b,k,none⟩=some v:=by
 unfold World.cell?;rw[h];exact hv
theorem Gi(t:Nat)(ht:t<5)(v:Value)(lo:Nat)(hv:S0 (odW o j ib ob lo) o.wg 0 t=some v):(eG (av o ib ob))[t]?.getD undef=v:=by
 have e:(eG (av o ib ob))[t]?=(av o ib ob)[t]?:=by
  unfold eG;rw[Array.getElem?_append_left (by simpa[av] using ht)]
 rw[e];clear e
 obtain rfl|rfl|rfl|rfl|rfl:t=0∨t=1∨t=2∨t=3∨t=4:=by omega
 all_goals
  simp only[S0,odW,Option.some.injEq] at hv;subst hv;simp[av,P_]
theorem Gj{fr:Frame}(h64:o.zs.length≤64)(hc8:o.af.length≤1000)(h:I2o o j fr A)(Aw:World)(ht:∀(a:Addr) v,a.block≠o.F→A.cell? a=some v→Aw.cell? a=some v)(hsz:Aw.heap.size=A.heap.size)(hp:PayAt o.F o.os.length Aw)(hv:Aw.cell? ⟨o.F,j,none⟩=some (.slice none 0 0)):∃N,@TN (aF Aw.heap.size o.F j) prog [cj].length [cj].length (WEo o j) N (jO (mn fr)) [cj] Aw:=by
 obtain⟨a,ib,ob,rfl,hS,hK,hj,hB1,hB2,hne,hB3,hB4⟩:=h;rw[uz hS];obtain⟨l1,l2,l3,l4⟩:=hK.low;obtain⟨a1,a2,a3⟩:=hK.apart;have hs:=hK.size;have hib:=(Array.getElem?_eq_some_iff.1 hB3).1;have hob:=(Array.getElem?_eq_some_iff.1 hB4).1;obtain⟨cF,hF,hn⟩:=hp
 let d:=odW o j ib ob Aw.heap.size
 have hW:WkW d Aw:=by
  refine⟨Nat.le_refl _,⟨?_,?_,?_,?_,?_,?_⟩,⟨a1,a2,a3,?_,?_⟩,ht _ _ a1 hK.l8,ht _ _ a1 hK.kM,ht _ _ a2 hK.xvc,ht _ _ a3 hK.iT,ht _ _ ?_ (cp hB3 (by rfl)),ht _ _ ?_ (cp hB4 (by rfl)),ht _ _ ?_ (cp hB4 (by rfl)),fun k hk=>?_,fun k hk=>?_,fun k hk ad had=>?_⟩
  ·show o.F<Aw.heap.size;omega
  ·show o.rb<Aw.heap.size;omega
  ·show o.xv<Aw.heap.size;omega
  ·show o.xb<Aw.heap.size;omega
  ·show ib<Aw.heap.size;omega
  ·show ob<Aw.heap.size;omega
  ·show ib≠o.F;omega
  ·show ob≠o.F;omega
  ·show ib≠o.F;omega
  ·show ob≠o.F;omega
  ·show ob≠o.F;omega
  ·obtain⟨b,off,x1,x2,x3,x4,x5,x6⟩:=hK.af k hk;exact⟨b,off,x1,x2,by show b<Aw.heap.size;omega,ht _ _ x2 x4,ht _ _ x2 x5,ht _ _ x2 x6⟩
  ·obtain⟨b,off,x1,x2,x3,x4⟩:=hK.fO k hk;exact⟨b,off,x1,x2,ht _ _ x2 x3,ht _ _ x2 x4⟩
  ·have:=hK.kN k hk ad had;show ad.block<Aw.heap.size;omega
 have hFC:dS d Aw (.slice none 0 0):=by
  refine⟨cF,hF,?_,?_⟩
  ·show j<cF.size;omega
  ·unfold World.cell? at hv;rw[hF] at hv;exact hv
 obtain⟨N0,hwp⟩:∃N0,@Code.wpN (aF Aw.heap.size o.F j) none prog gT N0 (fun e a w=>e=.normal∧a.defers=[dcall 114 #[P_ o.wg]]∧iY o j w) ⟨eG (av o ib ob),[dcall 114 #[P_ o.wg]]⟩ Aw:=⟨_,@Ei d o.wg [dcall 114 #[P_ o.wg]] none (fun e a w=>e=.normal∧a.defers=[dcall 114 #[P_ o.wg]]∧iY o j w) h64 hc8 hj ⟨eG (av o ib ob),[dcall 114 #[P_ o.wg]]⟩ Aw (by simp[eG,wh,av]) rfl (fun t ht v hv=>Gi t ht v _ hv) hW hFC (fun a w h1 h2 ⟨v,h3,h4⟩=>⟨rfl,h1,Aw.heap.size,v,by omega,h3.cell,h4⟩)⟩;refine⟨N0,?_⟩
 letI:=aF Aw.heap.size o.F j
 refine TN.mono (hwp b39 [] [cj] rfl uy) ?_
 rintro fr cs w ⟨rfl,e,a',⟨rfl,h2,h3⟩,rfl⟩
 refine⟨rfl,⟨a'.tmps,?_⟩,h3⟩;show b39.atR a' []=_;rw[←h2]
theorem K1(T:Array Value):QuitsD Tryz.prog 2 0 (G { b39.at ⟨T,[]⟩ [] with mode:=.returning } [cj]):=by
 refine QuitsD.ctl (g':=G cj []) rfl (fun w=>?_) ?_
 ·simp[G,stepG,unwind,doReturn,results,Frame.at,b39,cj,Tryz.func113,Tryz.f113,seen,GStep.after,goexitEntry]
 refine QuitsD.ctl (g':={ G cj [] with status:=.finished }) rfl (fun w=>?_) ⟨rfl,rfl⟩;simp[G,stepG,unwind,cj,goexitEntry,Frame.catches];rfl
theorem K3{fr:Frame}{cs:List Frame}(h:WEo o i fr cs A):cs=[cj]∧iY o i A∧∃v,A.cell? ⟨o.F,i,none⟩=some v∧∀w,WgLive 147 o.wg w∧Has o.F i v w→Goes Tryz.prog false (RW 147 o.wg o.F o.os.length 0 i) DC0 (AtR0 Tryz.prog 147 o.wg o.F o.os.length 0 (i+1) v) 42 (G fr [cj]) w:=by
 obtain⟨rfl,⟨T,rfl⟩,hF⟩:=h;refine⟨rfl,hF,?_⟩;obtain⟨lo,v,h1,h2,h3⟩:=hF;refine⟨v,h2,fun w hK=>?_⟩
 have kr:∀{w w1:World},WgLive 147 o.wg w∧Has o.F i v w→RW 147 o.wg o.F o.os.length 0 i w w1→WgLive 147 o.wg w1∧Has o.F i v w1:=fun h r=>⟨r.live h.1,r.cell.trans h.2⟩
 refine Goes.step (n:=41) rfl fun w1 r1=>?_
 have hK1:=kr hK r1;have e1:stepG Tryz.prog false (G (b39.atR ⟨T,[dcall 114 #[P_ o.wg]]⟩ []) [cj]) w1=.go (G { b39.at ⟨T,[dcall 114 #[P_ o.wg]]⟩ [] with mode:=.returning } [cj]) w1 #[]:=stepG_end (b:=b39);rw[e1];refine⟨⟨rfl,rfl⟩,Goes.step (n:=40) rfl fun w2 r2=>?_⟩;have hK2:=kr hK1 r2;have e2:=stepG_unwind_enter (P:=Tryz.prog) (main:=false) (b:=b39) (a:=⟨T,[dcall 114 #[P_ o.wg]]⟩) (cs:=[cj]) (w:=w2) (todo:=[]) (ds:=[]) (f:=114) (fn:=doneFn link) (args:=#[P_ o.wg]) (c:=body_done link) rfl kO.f_done (nm_done link) rfl;rw[e2];refine⟨⟨rfl,rfl⟩,?_⟩;have hd:=KL (C:=o.F) (n:=o.os.length) (Low:=0) (k:=i+1) (val:=v) (L:=link) (Wg:=o.wg) kO (c:={ b39.at ⟨T,[]⟩ [] with mode:=.returning }) (cs:=[cj]) rfl (K1 T) w2 hK2;exact hd
end
end Go.Proofs.Tw
namespace Go.Proofs.Tw
open Go Go.Fi Go.Fc Go.Conc Go.RowKit Go.ConcR.Gen Go.Conc.Lib
open Go.ConcN (PayAt Has RW WgLive AtR0)
open Go.ConcN.Gen (AnchWN)
open Go.ConcR (DC0)
theorem zd{s:GStep}{g0:Goroutine}{w0:World}{e0:Array Event}(h:s.goes fun g w es=>g=g0∧w=w0∧es=e0):s=.go g0 w0 e0:=by
 cases s<;>simp only[GStep.goes] at h<;>first|exact h.elim|(obtain⟨rfl,rfl,rfl⟩:=h;rfl)
noncomputable def qW(o:OD):Frame:=(base link.add).at ⟨#[P_ o.wg,.int .i64 1]++Array.replicate 115 undef,[]⟩ [.code (body_add link)]
noncomputable def qX(o:OD):Frame:=(base link.wait).at ⟨#[P_ o.wg]++Array.replicate 83 undef,[]⟩ [.code (body_wait link)]
theorem K4(x y:Value):#[x,y]++Array.replicate 115 undef=#[x,y,undef,undef,undef,undef,undef,undef,undef,undef,undef,undef,undef,undef,undef,undef,undef,undef,undef,undef,undef,undef,undef,undef,undef,undef,undef,undef,undef,undef,undef,undef,undef,undef,undef,undef,undef,undef,undef,undef,undef,undef,undef,undef,undef,undef,undef,undef,undef,undef,undef,undef,undef,undef,undef,undef,undef,undef,undef,undef,undef,undef,undef,undef,undef,undef,undef,undef,undef,undef,undef,undef,undef,undef,undef,undef,undef,undef,undef,undef,undef,undef,undef,undef,undef,undef,undef,undef,undef,undef,undef,undef,undef,undef,undef,undef,undef,undef,undef,undef,undef,undef,undef,undef,undef,undef,undef,undef,undef,undef,undef,undef,undef,undef,undef,undef,undef]:=by kernel_rfl
theorem K5(x:Value):#[x]++Array.replicate 83 undef=#[x,undef,undef,undef,undef,undef,undef,undef,undef,undef,undef,undef,undef,undef,undef,undef,undef,undef,undef,undef,undef,undef,undef,undef,undef,undef,undef,undef,undef,undef,undef,undef,undef,undef,undef,undef,undef,undef,undef,undef,undef,undef,undef,undef,undef,undef,undef,undef,undef,undef,undef,undef,undef,undef,undef,undef,undef,undef,undef,undef,undef,undef,undef,undef,undef,undef,undef,undef,undef,undef,undef,undef,undef,undef,undef,undef,undef,undef,undef,undef,undef,undef,undef,undef]:=by kernel_rfl
noncomputable def scr(o:OD)(base:List Frame):Script where
 base:=base
 csW:=[cj]
 K7:=42
 NK:=10
 I1:=I1o o
 I2:=I2o o
 I3:=I3o o
 WE:=WEo o
 Fin:=iY o
 vT fr:=G (qW o) (fr::base)
 vU fr:=G (qX o) (fr::base)
 dT fr:=AnchWN link (fun _=>True) o.wg fr base
 child _ fr:=born Tryz.prog (call39 (mn fr))
 frW _ fr:=jO (mn fr)
noncomputable def phd(o:OD)(e0:Nat)(dead:Nat→Prop):PhD:={ ty:=147,Wg:=o.wg,F:=o.F,n:=o.os.length,lo0:=o.lo0,e0:=e0,dead:=dead,v0:=.slice none 0 0 }
section
variable{o:OD}{j:Nat}{fr:Frame}{A:World}{base:List Frame}
theorem Gk(h:I1o o j fr A)(B:World):stepG Tryz.prog true (G fr base) B=.go (G (qW o) (fr::base)) B #[]:=by
 obtain⟨a,ib,ob,rfl,hS,_⟩:=h;have s7:=hS.get 7 (P_ o.wg) rfl;refine zd ?_
 have hm:#[Operand.tmp 7,Operand.const (Value.int IntKind.i64 1)].map a.eval=#[P_ o.wg,.int .i64 1]:=by simp[Act.eval,s7]
 refine goes_call (b:=b20) (o:=xM) (f:=112) (fn:=addFn link) (c:=body_add link) (ops:=m6) (i:=0) rfl rfl bu rfl kO.f_add (nm_add link) rfl ?_;refine⟨?_,rfl,rfl⟩;rw[hm];rfl
theorem Gl(h:I3o o fr A)(B:World):stepG Tryz.prog true (G fr base) B=.go (G (qX o) (fr::base)) B #[]:=by
 obtain⟨a,rfl,hS,_⟩:=h;have s7:=hS.get 7 (P_ o.wg) rfl;refine zd ?_
 have hm:#[Operand.tmp 7].map a.eval=#[P_ o.wg]:=by simp[Act.eval,s7]
 refine goes_call (b:=b20) (o:=xN) (f:=115) (fn:=waitFn link) (c:=body_wait link) (ops:=kh) (i:=0) rfl rfl bu rfl kO.f_wait (nm_wait link) rfl ?_;refine⟨?_,rfl,rfl⟩;rw[hm];rfl
theorem K6(h:I1o o j fr A)(w:World)(hw:WgLive 147 o.wg w):GL Tryz.prog 147 o.wg (qR Tryz.prog 147 o.wg (G (fr.finish (.tuple #[])) base)) 60 (G (qW o) (fr::base)) w:=by
 obtain⟨a,ib,ob,rfl,hS,_⟩:=h;have:=cz (Wg:=o.wg) (KG (L:=link) (Wg:=o.wg) (b₀:=b20) (a₀:=a) (ops₀:=m6) (i₀:=0) (rest₀:=[]) (k₀:=.code (.region 10 iC false)::.inBlock 1::.code (.region 11 fF false)::kL) (cs:=base) kO w hw);rw[←Frame.finish_at] at this;unfold qW;rw[K4];exact this
theorem Gm(h:I3o o fr A)(w:World)(hw:WgLive 147 o.wg w):GL Tryz.prog 147 o.wg (WtK Tryz.prog 147 o.wg (AnchWN link (fun _=>True) o.wg fr base)) 10 (G (qX o) (fr::base)) w:=by
 obtain⟨a,rfl,hS,_⟩:=h;unfold qX;rw[K5];exact cz (Wg:=o.wg) (qS (L:=link) (Wg:=o.wg) (b₀:=b20) (a₀:=a) (ops₀:=kh) (i₀:=0) (rest₀:=[]) (k₀:=[.code (.seq (.region 13 jo false) .ret)]) (cs:=base) kO w hw)
theorem Gn(hfr:∃a,fr=qV a)(g:Goroutine)(w:World)(h:AnchWN link (fun _=>True) o.wg fr base g w):GL Tryz.prog 147 o.wg (Wt1 Tryz.prog 147 o.wg (G (fr.finish (.tuple #[])) base) (AnchWN link (fun _=>True) o.wg fr base)) 40 g w:=by
 obtain⟨a,rfl⟩:=hfr;have:=cz (Wg:=o.wg) (KH (L:=link) (Wg:=o.wg) (b₀:=b20) (a₀:=a) (ops₀:=kh) (i₀:=0) (rest₀:=[]) (k₀:=[.code (.seq (.region 13 jo false) .ret)]) (cs:=base) kO g w h);rw[←Frame.finish_at] at this;exact this
end
theorem K8:@codeOk xfW prog gT=true:=by kernel_rfl
theorem K9:prog.funcs[69]?=some (dh Tryz.f69):=by rw[fq,Tryz.func69];rfl
theorem La:prog.funcs[113]?=some (dh Tryz.f113):=by rw[fq,Tryz.func113];rfl
theorem BZ:Tryz.f69.norace=false:=by kernel_rfl
theorem B7:Tryz.f113.norace=false:=by kernel_rfl
theorem Gp(c:Array Value):@aU xfW prog Tryz.prog (jO c):=by
 letI:=xfW
 refine⟨fun it hit=>?_,uy,.inr ⟨.inr rfl,rfl,rfl,rfl,trivial⟩,fun ch=>by simp[jO,Frame.atR],⟨_,_,La,Tryz.func113,B7,B7⟩⟩
 have:it=.code gT:=by simpa[jO,Frame.atR] using hit
 subst this;exact K8
theorem qd(f:FuncId)(args:Array Value):∃c,(Frame.enter prog f args .normal).todo=[.code c]:=⟨_,rfl⟩
theorem Lb(o:OD)(base:List Frame)(hb:base≠[])(e0:Nat)(dead:Nat→Prop)(hn:o.os.length≤1000)(h64:o.zs.length≤64)(hc:o.af.length≤1000):@cE BU xfW Tryz.prog prog (phd o e0 dead) (scr o base):=by
 letI:=xfW
 refine { KC:=hb,csN:=by simp[scr],st1:=?_,st2:=?_,st3:=?_,stW:=?_,stF:=?_,BK:=?_,add:=?_,mid:=?_,go:=?_,KD:=?_,beg:=?_,wok:=?_,work:=?_,next:=?_,hwe:=?_,call3:=?_,qS:=?_,BL:=?_,anch:=?_,BM:=?_,BN:=?_,BO:=?_,BP:=?_ }
 ·rintro j fr A A' ⟨a,ib,ob,h1,h2,h3,h4,h5⟩ e
  exact⟨a,ib,ob,h1,h2,h3.mv e,h4,h5.mv e⟩
 ·rintro j fr A A' ⟨a,ib,ob,h1,h2,h3,h4,h5⟩ e
  exact⟨a,ib,ob,h1,h2,h3.mv e,h4,h5.mv e⟩
 ·rintro fr A A' ⟨a,h1,h2,h3⟩ e
  exact⟨a,h1,h2,h3.mv e⟩
 ·rintro i fr cs A A' ⟨h1,h2,h3⟩ e
  exact⟨h1,h2,h3.mv e⟩
 ·intro i A A' h e;exact iY.mv h e
 ·intro j fr A h B;exact Gk h B
 ·intro j fr A h w hw;exact⟨60,K6 h w hw⟩
 ·intro j fr A h hj lo;exact⟨4,KY h⟩
 ·rintro j fr A ⟨a,ib,ob,rfl,hS,_⟩ B
  have:=KZ (cs:=base) hS B;rw[←uz hS] at this;exact this
 ·intro j fr;rfl
 ·rintro j fr A ⟨a,ib,ob,rfl,hS,_⟩ w
  refine⟨6,?_⟩;exact K0 (mn (ia a)) (by rw[uz hS];rfl) w
 ·intro j fr A _;exact Gp _
 ·intro j fr A h Aw h1 h2 h3 h4;exact Gj h64 hc h Aw h1 h2 h3 h4
 ·intro j fr A h hj lo hl0 hlo;exact⟨37,Gf hn hl0 hlo h⟩
 ·intro i fr cs A h;exact K3 h
 ·intro fr A h B;exact Gl h B
 ·intro fr A h w hw;exact Gm h w hw
 ·rintro fr g w ⟨T,rfl,_⟩;rfl
 ·rintro fr A g w ⟨a,rfl,_⟩ h;exact⟨40,Gn ⟨a,rfl⟩ g w h⟩
 ·rintro j fr A f args ⟨a,ib,ob,rfl,_⟩ e
  obtain⟨c,hc⟩:=qd f args;rw[←e] at hc;cases hc
 ·rintro j fr A f args ⟨a,ib,ob,rfl,_⟩ e
  obtain⟨c,hc⟩:=qd f args;rw[←e] at hc;cases hc
 ·rintro fr A f args ⟨a,rfl,_⟩ e
  obtain⟨c,hc⟩:=qd f args;rw[←e] at hc;cases hc
 ·rintro i fr cs A f args ⟨_,⟨T,rfl⟩,_⟩ e
  obtain⟨c,hc⟩:=qd f args;rw[←e] at hc;cases hc
end Go.Proofs.Tw
