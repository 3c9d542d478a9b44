/- Lemmas. -/
import Derived.Test.YthpkmilhiganjaaGreatPWc
import Derived.Test.YthpkmilhiganjaaGreatPWl
import Derived.Test.YthpkmilhiganjaaGreatPNc
import Derived.Test.YthpkmilhiganjaaGreatPNd
set_option linter.unusedSimpArgs false
set_option linter.unusedVariables false
set_option linter.unusedSectionVars false
set_option maxHeartbeats 32000000
set_option maxRecDepth 100000
namespace Go.Proofs.Tw
open Go Go.Fi Go.Fc Go.Conc
@[reducible] def xfW:Xf:={ xf:=fun _=>False,bot:=fun f=>f=69∨f=113,ds:=fun _ _=>True,rng:=false }
instance E4:ConcR.Payload:=⟨136⟩
def uu(f:Nat):Prop:=keep f=false∧∃fn,Tryz.prog.funcs[f]?=some fn
theorem gO(f:Nat):prog.funcs[f]?=(Tryz.prog.funcs[f]?).map fun fn=>if keep f then fn else eH fn:=by
 unfold prog;simp only[Array.getElem?_mapIdx]
theorem Nl:@codeOk xfW prog (Tryz.f107.body.getD .skip)=true:=by kernel_rfl
theorem Nm:@codeOk xfW prog (Tryz.f133.body.getD .skip)=true:=by kernel_rfl
theorem No:Tryz.f107.body=some (Tryz.f107.body.getD .skip):=by kernel_rfl
theorem Np:Tryz.f133.body=some (Tryz.f133.body.getD .skip):=by kernel_rfl
theorem Nq:(Tryz.f107.name == "runtime.NumGoroutine")=false:=by kernel_rfl
theorem Nr:(Tryz.f133.name == "runtime.NumGoroutine")=false:=by kernel_rfl
theorem Ns:Tryz.f107.norace=false:=by kernel_rfl
theorem Nt:Tryz.f133.norace=false:=by kernel_rfl
theorem Nu:prog.inits.idxOf? 107=none:=by kernel_rfl
theorem Nv:prog.inits.idxOf? 133=none:=by kernel_rfl
theorem E5:@gK prog Tryz.prog (@Cc xfW prog Tryz.prog) uu:=by
 letI:=xfW
 refine⟨⟨⟨Tryz.prog.funcs,rfl⟩⟩,fun f=>?_⟩
 rcases hx:Tryz.prog.funcs[f]? with _|fn
 ·exact .inl ⟨by rw[gO,hx];rfl,rfl⟩
 ·by_cases hk:keep f=true
  ·have:f=107∨f=133:=by simpa[keep] using hk
   rcases this with rfl|rfl
   ·refine .inr (.inr (.inr ⟨Tryz.f107,_,func107,by rw[←hx];exact Tryz.func107,Nq,No,Nl,⟨Tryz.f107,func107,Tryz.func107,Ns⟩,Nu⟩))
   ·refine .inr (.inr (.inr ⟨Tryz.f133,_,func133,by rw[←hx];exact Tryz.func133,Nr,Np,Nm,⟨Tryz.f133,func133,Tryz.func133,Nt⟩,Nv⟩))
  ·have hk:keep f=false:=by simpa using hk
   refine .inr (.inr (.inl ⟨⟨hk,fn,hx⟩,eH fn,.refuse "known by its contract alone",?_,rfl,rfl⟩));rw[gO,hx];simp[hk]
theorem pR{f:Nat}(h:uu f)(args:Array Value)(cs:List Frame)(w:World)(g':Goroutine)(w':World)(es:Array Event):stepG prog true (G (Frame.enter prog f args .normal) cs) w≠.go g' w' es:=by
 obtain⟨hk,fn,hx⟩:=h
 have hf:prog.funcs[f]?=some (eH fn):=by rw[gO,hx];simp[hk]
 have:Frame.enter prog f args .normal = { fn:=f,tmps:=args++Array.replicate ((eH fn).ntmps-args.size) undef,todo:=[.code (.refuse "known by its contract alone")],defers:=[],mode:=.run,kind:=.normal }:=by
  simp[Frame.enter,hf,eH]
 rw[this];simp[G,stepG,stepG.exec]
theorem E6:∃c,Tryz.f69.body=some c∧c≠.refuse "known by its contract alone" := ⟨_,rfl,by intro h;cases h⟩
theorem BZ{f:Nat}(h:xfW.bot f):¬(@Cc xfW prog Tryz.prog).fn f:=by
 rintro⟨⟨fn,h1,h2,_⟩,_⟩
 have hk:keep f=false:=by rcases h with rfl|rfl<;>rfl
 rw[gO,h2] at h1;simp[hk] at h1
 have hb:fn.body=some (.refuse "known by its contract alone"):=by rw[←h1];rfl
 rcases h with rfl|rfl
 ·rw[Tryz.func69] at h2;cases h2;obtain⟨c,h3,h4⟩:=E6;rw[h3] at hb;exact h4 (Option.some.inj hb)
 ·rw[Tryz.func113] at h2;cases h2
  have:Tryz.f113.body≠some (.refuse "known by its contract alone"):=by intro h;cases h
  exact this hb
theorem Nx(l F k:Nat):@iB xfW (a7 l F k) prog Tryz.prog uu:=by
 letI:=a7 l F k
 letI:=xfW
 exact⟨E5,fun f h=>h,fun f hb args cs w g' w' es=>pR hb args cs w g' w' es,fun w t d=>⟨rfl,rfl,Nat.le_refl _,fun _ _=>rfl⟩,fun f h=>BZ h⟩
end Go.Proofs.Tw
namespace Go.Proofs.Tw
open Go Go.Fi Go.Fc Go.Conc Go.RowKit
structure OD where
 rb:Nat
 xv:Nat
 xb:Nat
 wg:Nat
 F:Nat
 lo0:Nat
 ca:Option Addr
 gI:Nat
 ab:List (ByteArray×Int×Bool)
 oa:Option Addr
 bj:Nat
 os:List (ByteArray×Int×Bool×Int)
 fa:Option Addr
 ju:Nat
 zs:List (Int×Int)
structure eJ(o:OD)(w:World):Prop where
 size:o.lo0≤w.heap.size
 low:o.F<o.lo0∧o.rb<o.lo0∧o.xv<o.lo0∧o.xb<o.lo0
 apart:o.rb≠o.F∧o.xv≠o.F∧o.xb≠o.F
 oN:w.cell? ⟨o.rb,0,none⟩=some (.slice o.ca o.ab.length o.gI)
 zp:w.cell? ⟨o.rb,1,none⟩=some (.slice o.oa o.os.length o.bj)
 ny:w.cell? ⟨o.rb,3,none⟩=some (.slice o.fa o.zs.length o.ju)
 xvc:w.cell? ⟨o.xv,0,none⟩=some (.pointer (some ⟨o.xb,0,none⟩))
 ky:w.cell? ⟨o.xb,4,none⟩=some (.slice (some ⟨o.F,0,none⟩) o.os.length o.os.length)
 ab:oM o.F o.lo0 w o.ca o.ab
 iv:iu o.F w o.fa o.zs
 nz:∀j,j<o.zs.length→∀ad,o.fa=some ad→ad.block<o.lo0
 E7:jw o.F w o.oa o.os
 E8:∀j,j<o.os.length→∀ad,o.oa=some ad→ad.block<o.lo0
theorem jw.low{F lo:Nat}{w w1:World}{a0:Option Addr}{os:List (ByteArray×Int×Bool×Int)}(h:jw F w a0 os)(hlo:∀j,j<os.length→∀ad,a0=some ad→ad.block<lo)(e:Bel lo w w1):jw F w1 a0 os:=
 fun j hj=>let ⟨b,off,h1,h2,h3,h4,h5,h6⟩:=h j hj
  have hb:b<lo:=hlo j hj _ h1
  ⟨b,off,h1,h2,(e.cell (p:=⟨b,_,none⟩) hb).trans h3,(e.cell (p:=⟨b,_,none⟩) hb).trans h4,(e.cell (p:=⟨b,_,none⟩) hb).trans h5,(e.cell (p:=⟨b,_,none⟩) hb).trans h6⟩
theorem eJ.bel{o:OD}{w w1:World}(h:eJ o w)(e:Bel o.lo0 w w1):eJ o w1:=by
 have c:∀{b k:Nat}{v:Value},b<o.lo0→w.cell? ⟨b,k,none⟩=some v→w1.cell? ⟨b,k,none⟩=some v:=fun hb hv=>(e.cell (p:=⟨_,_,none⟩) hb).trans hv
 obtain⟨l1,l2,l3,l4⟩:=h.low;exact⟨Nat.le_trans h.size e.size,h.low,h.apart,c l2 h.oN,c l2 h.zp,c l2 h.ny,c l3 h.xvc,c l4 h.ky,h.ab.bel e,h.iv.low h.nz e,h.nz,h.E7.low h.E8 e,h.E8⟩
theorem eJ.mv{o:OD}{w w1:World}(h:eJ o w)(e:Bel w.heap.size w w1):eJ o w1:=h.bel (e.mono h.size)
abbrev cW:Code:=.seq (.region 12 mR false) (.seq (.region 13 lB false) .ret)
abbrev c8:Code:=.seq (.region 8 iG false) (.seq (.region 9 pJ false) (.region 10 jS false))
abbrev cLB:Code:=.seq (.region 7 su false) (.seq (.cond (.tmp 29) .skip (.exit 0)) (.seq (.block 1 c8) (.region 11 gZ false)))
def kL:List Item:=[.inLoop cLB,.inBlock 0,.code cW]
def b20:Frame:={ (default:Frame) with fn:=69,kind:=.normal,roundOf:=none }
theorem cz:b20.kind≠.early:=by intro h;cases h
def fr9(a:Act):Frame:=b20.atR a (.inRegion pJ [0]::.code (.region 10 jS false)::.inBlock 1::.code (.region 11 gZ false)::kL)
def jD(a:Act):Frame:=b20.atR a (.inRegion jS [1]::.inBlock 1::.code (.region 11 gZ false)::kL)
def uv(a:Act):Frame:=b20.atR a [.inRegion mR [0],.code (.seq (.region 13 lB false) .ret)]
def P_(b:Nat):Value:=.pointer (some ⟨b,0,none⟩)
def oV(o:OD)(j ib ob:Nat)(w:World):Prop:=
 o.lo0≤ib∧o.lo0≤ob∧ib≠ob∧w.heap[ib]?=some (.cells #[.int .i64 j] 3)∧w.heap[ob]?=some (.cells #[.string (o.os.getD j (default,0,false,0)).1,.int .i64 (o.os.getD j (default,0,false,0)).2.1,.bool (o.os.getD j (default,0,false,0)).2.2.1,.int .i64 (o.os.getD j (default,0,false,0)).2.2.2] 91)
theorem oV.mv{o:OD}{j ib ob:Nat}{w w1:World}(h:oV o j ib ob w)(e:Bel w.heap.size w w1):oV o j ib ob w1:=
 ⟨h.1,h.2.1,h.2.2.1,(e.block _ (Array.getElem?_eq_some_iff.1 h.2.2.2.1).1).trans h.2.2.2.1,(e.block _ (Array.getElem?_eq_some_iff.1 h.2.2.2.2).1).trans h.2.2.2.2⟩
abbrev S9(o:OD)(j ib ob:Nat):Nat→Option Value:=ups (ups (S20 o.wg o.rb o.xv o.oa o.bj o.os.length j) 8 (P_ ib)) 9 (P_ ob)
def aE(o:OD)(ib ob:Nat):Array Value:=#[P_ o.wg,P_ o.rb,P_ o.xv,P_ ib,P_ ob]
def I1o(o:OD)(j:Nat)(fr:Frame)(w:World):Prop:=∃a ib ob,fr=fr9 a∧SlS (S9 o j ib ob) a∧eJ o w∧j<o.os.length∧oV o j ib ob w
def I2o(o:OD)(j:Nat)(fr:Frame)(w:World):Prop:=∃a ib ob,fr=jD a∧SlS (ups (S9 o j ib ob) 34 (.func (.func 113) #[] (aE o ib ob))) a∧eJ o w∧j<o.os.length∧oV o j ib ob w
def I3o(o:OD)(fr:Frame)(w:World):Prop:=∃a,fr=uv a∧SlS (S20 o.wg o.rb o.xv o.oa o.bj o.os.length o.os.length) a∧eJ o w
section
variable{o:OD}{j:Nat}{fr:Frame}{w:World}{cs:List Frame}{lo:Nat}
theorem Ny(h:I1o o j fr w):@TN (a7 lo o.F o.os.length) prog cs.length cs.length (fun fr' cs' w'=>cs'=cs∧I2o o j fr' w') 4 (fr.finish (.tuple #[])) cs w:=by
 letI:=a7 lo o.F o.os.length
 obtain⟨a,ib,ob,rfl,hS,hK,hj,hB⟩:=h
 have e1:(fr9 a).finish (.tuple #[])=b20.atR (a.put (some 33) (.tuple #[])) (.inRegion pJ []::.code (.region 10 jS false)::.inBlock 1::.code (.region 11 gZ false)::kL):=by
  unfold fr9;rw[Frame.finish_atR];rfl
 rw[e1];have hS1:=hS.put (t:=33) (by decide) (.tuple #[]);generalize a.put (some 33) (.tuple #[])=a1 at hS1;refine ji (Nat.le_refl _) (iI (Nat.le_refl _) ?_);show TN prog cs.length cs.length _ 2 (b20.atR a1 (.inRegion jS [0,1]::_)) cs w;have s7:=hS1.get 7 (P_ o.wg) rfl;have s1:=hS1.get 1 (P_ o.rb) rfl;have s6:=hS1.get 6 (P_ o.xv) rfl;have s8:=hS1.get 8 (P_ ib) rfl;have s9:=hS1.get 9 (P_ ob) rfl
 refine jC (o:=xd) rfl rfl (by intro c h;cases h) cz (Nat.le_refl _) fun w1 e=>⟨fun f ev hev=>?_,?_⟩
 ·have hm:=mem_listed hev;simp[go_sem] at hm
 ·have hr:(execOp a1.eval xd).run prog w1=.ok (.value (.func (.func 113) #[] (aE o ib ob))) w1:=by
   simp[go_sem,s7,s1,s6,s8,s9,aE]
  rw[hr];refine .now ⟨rfl,a1.put (some 34) (.func (.func 113) #[] (aE o ib ob)),ib,ob,rfl,?_,hK.mv e,hj,hB.mv e⟩;have hS2:=hS1.put (t:=34) (by decide) (.func (.func 113) #[] (aE o ib ob));refine⟨hS2.size,hS2.defers,fun t v ht=>hS2.get t v ?_⟩;unfold ups at ht ⊢;by_cases e34:t=34
  ·simpa[e34] using ht
  ·by_cases e33:t=33
   ·subst e33;cases ht
   ·simpa[e34,e33] using ht
theorem B9{a:Act}(hn:o.os.length≤1000)(hj:j≤o.os.length)(hlo:o.lo0≤lo)(hlo2:lo≤w.heap.size)(hS:SlS (S20 o.wg o.rb o.xv o.oa o.bj o.os.length j) a)(hK:eJ o w):@TN (a7 lo o.F o.os.length) prog cs.length cs.length (fun fr' cs' w'=>cs'=cs∧if j<o.os.length then I1o o j fr' w' else I3o o fr' w') 30 (b20.atR a (.code cLB::kL)) cs w:=by
 letI:=a7 lo o.F o.os.length
 have hFlo:o.F<lo:=Nat.lt_of_lt_of_le hK.low.1 hlo;refine eZ (N:=29) (Nat.le_refl _) ?_
 let Q1:Exit→Act→World→Prop:=fun e a w=>e=.normal∧SlS (S20 o.wg o.rb o.xv o.oa o.bj o.os.length j) a∧a.tmps[29]?.getD undef=.bool (decide (j<o.os.length))∧eJ o w∧lo≤w.heap.size
 refine sV (N:=26) (M:=3) (Q:=Q1) (Hj (F:=o.F) (lo:=lo) (k:=o.os.length) hn hj hS (fun w=>eJ o w∧lo≤w.heap.size) (fun w w1 h e=>⟨h.1.mv e,Nat.le_trans h.2 e.size⟩) ⟨hK,hlo2⟩ (fun a w h1 h2 h3=>⟨rfl,h1,h2,h3.1,h3.2⟩)) cz (fun e a w h=>h.1) fun a w hq=>?_
 obtain⟨_,hS,h29,hK,hlo2⟩:=hq;refine eZ (Nat.le_refl _) (xG (t:=decide (j<o.os.length)) (Nat.le_refl _) (by simp[Act.eval,h29]) ?_);by_cases hlt:j<o.os.length
 ·simp only[hlt,decide_true,if_true];refine B7 (Nat.le_refl _) (eZ (Nat.le_refl _) (B8 (Nat.le_refl _) (eZ (Nat.le_refl _) ?_)))
  let Q2:Exit→Act→World→Prop:=fun e a w=>e=.normal∧∃ib ob,SlS (S9 o j ib ob) a∧eJ o w∧oV o j ib ob w
  refine sV (N:=11) (M:=9) (Q:=Q2) (Hl (F:=o.F) (lo:=lo) (k:=o.os.length) hFlo rfl hlt hS hlo2 (eJ o) (fun w w1 h e=>h.mv e) (fun w w1 h _ e=>h.bel (e.mono hlo)) hK hK.E7 (fun a w ib ob h1 h2 h3 h4 h5 h6 h7 h8=>⟨rfl,ib,ob,h1,h2,Nat.le_trans hlo h4,Nat.le_trans hlo h5,h6,h7,h8⟩)) cz (fun e a w h=>h.1) fun a w hq=>?_
  obtain⟨_,ib,ob,hS,hK,hB⟩:=hq;refine eZ (Nat.le_refl _) (iI (Nat.le_refl _) (.now ⟨rfl,?_⟩));exact⟨a,ib,ob,rfl,hS,hK,hlt,hB⟩
 ·simp only[hlt,decide_false,Bool.false_eq_true,if_false];refine Jf (k':=[.code cW]) (Nat.le_refl _) rfl (eZ (Nat.le_refl _) (iI (Nat.le_refl _) (.now ⟨rfl,?_⟩)))
  have:j=o.os.length:=by omega
  subst this;exact⟨a,rfl,hS,hK⟩
theorem Jg(hn:o.os.length≤1000)(hlo:o.lo0≤lo)(hlo2:lo≤w.heap.size)(h:I2o o j fr w):@TN (a7 lo o.F o.os.length) prog cs.length cs.length (fun fr' cs' w'=>cs'=cs∧if j+1<o.os.length then I1o o (j+1) fr' w' else I3o o fr' w') 37 (fr.finish undef) cs w:=by
 letI:=a7 lo o.F o.os.length
 obtain⟨a,ib,ob,rfl,hS,hK,hj,hB⟩:=h
 have e1:(jD a).finish undef=b20.atR a (.inRegion jS []::.inBlock 1::.code (.region 11 gZ false)::kL):=by
  unfold jD;rw[Frame.finish_atR];rfl
 rw[e1]
 have hS0:SlS (S20 o.wg o.rb o.xv o.oa o.bj o.os.length j) a:=⟨hS.size,hS.defers,fun t v ht=>hS.get t v (by
  unfold ups;by_cases e34:t=34
  ·subst e34;cases ht
  ·by_cases e9:t=9
   ·subst e9;cases ht
   ·by_cases e8:t=8
    ·subst e8;cases ht
    ·show (if t=34 then _ else if t=9 then _ else if t=8 then _ else S20 o.wg o.rb o.xv o.oa o.bj o.os.length j t)=some v
     rw[if_neg e34,if_neg e9,if_neg e8];exact ht)⟩
 refine ji (Nat.le_refl _) (Jc (Nat.le_refl _) ?_)
 let Q1:Exit→Act→World→Prop:=fun e a w=>e=.normal∧SlS (S20 o.wg o.rb o.xv o.oa o.bj o.os.length (j+1)) a∧eJ o w∧lo≤w.heap.size
 refine sV (N:=31) (M:=4) (Q:=Q1) (Hk (F:=o.F) (lo:=lo) (k:=o.os.length) hn (by omega) hS0 (fun w=>eJ o w∧lo≤w.heap.size) (fun w w1 h e=>⟨h.1.mv e,Nat.le_trans h.2 e.size⟩) ⟨hK,hlo2⟩ (fun a w h1 h3=>⟨rfl,h1,h3.1,h3.2⟩)) cz (fun e a w h=>h.1) fun a w hq=>?_
 obtain⟨_,hS,hK,hlo2⟩:=hq;exact Je (Nat.le_refl _) (B9 hn (by omega) hlo hlo2 hS hK)
end
end Go.Proofs.Tw
namespace Go.Proofs.Tw
open Go Go.Fi Go.Fc Go.Conc Go.RowKit Go.ConcR.Gen Go.Conc.Lib
open Go.ConcN (PayAt Has RW WgLive AtR0)
open Go.ConcR (DC0)
abbrev Ca:Oper:=⟨none,(.defer ⟨(.value (.func 114)),#[(.tmp 0)],#[147]⟩),0, "dispatch.go:120",#[],none⟩
abbrev sX:Array Oper:=#[Ca]
theorem Jh:Tryz.f113.body=some (.seq (.region 0 sX false) jv):=rfl
noncomputable def b39:Frame:={ (default:Frame) with fn:=113,kind:=.deferred,roundOf:=none }
theorem xH:b39.kind≠.early:=by intro h;cases h
noncomputable def dz:Frame:={ (default:Frame) with fn:=Tryz.prog.funcs.size,defers:=[],mode:=.panicking [goexitEntry] }
noncomputable def zq:Nat→Array Value:=fun n=>Array.replicate n undef
noncomputable def gp(c:Array Value):Array Value:=c++zq 49
noncomputable def call39(c:Array Value):Deferred:={ target:=.fn (.func 113) c,args:=#[] }
noncomputable def mh(c:Array Value):Frame:=b39.atR ⟨gp c,[dcall 114 #[c.getD 0 undef]]⟩ [.code jv]
noncomputable def oW(fr:Frame):Array Value:=match fr.tmps.getD 34 undef with | .func _ _ c=>c|_=>#[]
section
variable{o:OD}{j ib ob:Nat}{a:Act}{cs:List Frame}
theorem Nz(hS:SlS (ups (S9 o j ib ob) 34 (.func (.func 113) #[] (aE o ib ob))) a)(B:World):stepG Tryz.prog true (G (jD a) cs) B=.spawn (G ((jD a).finish undef) cs) (born Tryz.prog (call39 (aE o ib ob))) B #[]:=by
 have s34:=hS.get 34 _ rfl
 have hr:(execOp a.eval n9).run Tryz.prog B=.ok (.spawn (call39 (aE o ib ob))) B:=by
  unfold execOp;simp[resolve,Deferred.ofValue,Act.eval,s34,call39]
 have he:∀es,(execOp a.eval n9).events Tryz.prog B es=es:=by
  intro es;unfold execOp;simp[resolve,Deferred.ofValue,Act.eval,s34,call39]
 have e1:(jD a).finish undef=b20.at (a.put n9.dst undef) (.inRegion jS []::.inBlock 1::.code (.region 11 gZ false)::kL):=by
  unfold jD;rw[Frame.finish_atR];rfl
 have hl:listed Tryz.prog b20.fn a n9 B=#[]:=by unfold listed;rw[he,seen_none]
 rw[e1];show stepG Tryz.prog true (G (b20.at a (.inRegion jS (1::[])::.inBlock 1::.code (.region 11 gZ false)::kL)) cs) B=_;rw[stepG_spawn (o:=n9) rfl rfl cz hr rfl,hl]
theorem Ji(c:Array Value)(hc:c.size=5)(w:World):stepG Tryz.prog false (born Tryz.prog (call39 c)) w=.go (G (b39.atR ⟨gp c,[]⟩ [.code (.seq (.region 0 sX false) jv)]) [dz]) w #[]:=by
 have hb:Tryz.f113.body=some (.seq (.region 0 sX false) jv):=Jh;have hn:Tryz.f113.ntmps=54:=rfl
 have hname:(Tryz.f113.name == "runtime.NumGoroutine")=false:=by kernel_rfl
 have h1:¬Tryz.f113.name = "runtime.NumGoroutine" := by simpa using hname
 simp[born,call39,stepG,unwind,callDeferred,invoke,callFunc,Tryz.func113,h1,hb,seen_none,GStep.after,G,Frame.enter,Frame.atR,b39,dz,gp,zq,hc,hn]
theorem NA(c:Array Value)(hc:c.size=5)(w:World):Goes Tryz.prog false (fun _ _=>True) DC0 (iS (G (mh c) [dz])) 6 (born Tryz.prog (call39 c)) w:=by
 have st:∀{n:Nat}{g g':Goroutine}{w:World},g.status=.running→(∀w,stepG Tryz.prog false g w=.go g' w #[])→(∀w,Goes Tryz.prog false (fun _ _=>True) DC0 (iS (G (mh c) [dz])) n g' w)→Goes Tryz.prog false (fun _ _=>True) DC0 (iS (G (mh c) [dz])) (n+1) g w:=
  fun hr h k=>Goes.step hr fun w1 _=>by rw[h w1];exact⟨⟨rfl,rfl⟩,k w1⟩
 refine st (n:=5) rfl (Ji c hc) fun w=>?_
 refine st (n:=4) rfl (fun w=>stepG_seq (b:=b39)) fun w=>?_
 refine st (n:=3) rfl (fun w=>stepG_region (b:=b39)) fun w=>?_
 refine st (n:=2) rfl (fun w=>stepG_defer (b:=b39) (ops:=sX) (i:=0) (o:=Ca) rfl rfl xH rfl) fun w=>?_
 refine st (n:=1) rfl (fun w=>stepG_region_end (b:=b39)) fun w=>?_
 refine Goes.stop fun w1 _=>?_
 have e:Act.eval ⟨gp c,[]⟩ (.tmp 0)=c.getD 0 undef:=by
  simp[Act.eval,gp,Array.getD_eq_getD_getElem?,Array.getElem?_append,hc]
 have e2:Array.map (Act.eval ⟨gp c,[]⟩) #[Operand.tmp 0]=#[c.getD 0 undef]:=by simp[e]
 show G (b39.at ⟨gp c,[dcall 114 (Array.map (Act.eval ⟨gp c,[]⟩) #[Operand.tmp 0])]⟩ [.code jv]) [dz]=_;rw[e2];rfl
end
noncomputable def odW(o:OD)(i ib ob lo:Nat):WkD:=
 { F:=o.F,i:=i,lo:=lo,rb:=o.rb,xv:=o.xv,xb:=o.xb,ib:=ib,ob:=ob,ca:=o.ca,gI:=o.gI,ab:=o.ab,fa:=o.fa,ju:=o.ju,zs:=o.zs,n:=o.os.length,yP:=o.os.length,qG:=(o.os.getD i (default,0,false,0)).2.1,kn:=(o.os.getD i (default,0,false,0)).2.2.1 }
noncomputable def zt(o:OD)(i:Nat):List Bool:=gJ (odW o i 0 0 0) o.ab.length
def kY(o:OD)(i:Nat)(A:World):Prop:=∃lo v,o.lo0≤lo∧A.cell? ⟨o.F,i,none⟩=some v∧eI (odW o i 0 0 lo) A v (zt o i)
theorem kY.mv{o:OD}{i:Nat}{A A':World}(h:kY o i A)(e:Bel A.heap.size A A'):kY o i A':=
 let ⟨lo,v,h1,h2,h3⟩:=h;⟨lo,v,h1,e.cellAt h2,h3.mv e⟩
def WEo(o:OD)(i:Nat)(fr:Frame)(cs:List Frame)(A:World):Prop:=cs=[dz]∧(∃T,fr=b39.atR ⟨T,[dcall 114 #[P_ o.wg]]⟩ [])∧kY o i A
section
variable{o:OD}{i j ib ob:Nat}{A:World}
theorem xI{a:Act}(hS:SlS (ups (S9 o j ib ob) 34 (.func (.func 113) #[] (aE o ib ob))) a):oW (jD a)=aE o ib ob:=by
 have s34:=hS.get 34 _ rfl
 have:(jD a).tmps.getD 34 undef=.func (.func 113) #[] (aE o ib ob):=by
  rw[Array.getD_eq_getD_getElem?];exact s34
 unfold oW;rw[this]
theorem dD{w:World}{b k:Nat}{c:Array Value}{e:TypeId}{f:Nat×Nat}{v:Value}(h:w.heap[b]?=some (.cells c e f))(hv:c[k]?=some v):w.cell? ⟨b,k,none⟩=some v:=by
 unfold World.cell?;rw[h];exact hv
theorem Jj(t:Nat)(ht:t<5)(v:Value)(lo:Nat)(hv:S0 (odW o j ib ob lo) o.wg 0 t=some v):(gp (aE o ib ob))[t]?.getD undef=v:=by
 have e:(gp (aE o ib ob))[t]?=(aE o ib ob)[t]?:=by
  unfold gp;rw[Array.getElem?_append_left (by simpa[aE] using ht)]
 rw[e];clear e
 obtain rfl|rfl|rfl|rfl|rfl:t=0∨t=1∨t=2∨t=3∨t=4:=by omega
 all_goals
  simp only[S0,odW,Option.some.injEq] at hv;subst hv;simp[aE,P_]
theorem Jk{fr:Frame}(h64:o.zs.length≤64)(hc8:o.ab.length≤1000)(h:I2o o j fr A)(Aw:World)(ht:∀(a:Addr) v,a.block≠o.F→A.cell? a=some v→Aw.cell? a=some v)(hsz:Aw.heap.size=A.heap.size)(hp:PayAt o.F o.os.length Aw)(hv:Aw.cell? ⟨o.F,j,none⟩=some (.slice none 0 0)):∃N,@TN (a7 Aw.heap.size o.F j) prog [dz].length [dz].length (WEo o j) N (mh (oW fr)) [dz] Aw:=by
 obtain⟨a,ib,ob,rfl,hS,hK,hj,hB1,hB2,hne,hB3,hB4⟩:=h;rw[xI hS];obtain⟨l1,l2,l3,l4⟩:=hK.low;obtain⟨a1,a2,a3⟩:=hK.apart;have hs:=hK.size;have hib:=(Array.getElem?_eq_some_iff.1 hB3).1;have hob:=(Array.getElem?_eq_some_iff.1 hB4).1;obtain⟨cF,hF,hn⟩:=hp
 let d:=odW o j ib ob Aw.heap.size
 have hW:WkW d Aw:=by
  refine⟨Nat.le_refl _,⟨?_,?_,?_,?_,?_,?_⟩,⟨a1,a2,a3,?_,?_⟩,ht _ _ a1 hK.oN,ht _ _ a1 hK.ny,ht _ _ a2 hK.xvc,ht _ _ a3 hK.ky,ht _ _ ?_ (dD hB3 (by rfl)),ht _ _ ?_ (dD hB4 (by rfl)),ht _ _ ?_ (dD hB4 (by rfl)),fun k hk=>?_,fun k hk=>?_,fun k hk ad had=>?_⟩
  ·show o.F<Aw.heap.size;omega
  ·show o.rb<Aw.heap.size;omega
  ·show o.xv<Aw.heap.size;omega
  ·show o.xb<Aw.heap.size;omega
  ·show ib<Aw.heap.size;omega
  ·show ob<Aw.heap.size;omega
  ·show ib≠o.F;omega
  ·show ob≠o.F;omega
  ·show ib≠o.F;omega
  ·show ob≠o.F;omega
  ·show ob≠o.F;omega
  ·obtain⟨b,off,x1,x2,x3,x4,x5,x6⟩:=hK.ab k hk;exact⟨b,off,x1,x2,by show b<Aw.heap.size;omega,ht _ _ x2 x4,ht _ _ x2 x5,ht _ _ x2 x6⟩
  ·obtain⟨b,off,x1,x2,x3,x4⟩:=hK.iv k hk;exact⟨b,off,x1,x2,ht _ _ x2 x3,ht _ _ x2 x4⟩
  ·have:=hK.nz k hk ad had;show ad.block<Aw.heap.size;omega
 have hFC:fP d Aw (.slice none 0 0):=by
  refine⟨cF,hF,?_,?_⟩
  ·show j<cF.size;omega
  ·unfold World.cell? at hv;rw[hF] at hv;exact hv
 obtain⟨N0,hwp⟩:∃N0,@Code.wpN (a7 Aw.heap.size o.F j) none prog jv N0 (fun e a w=>e=.normal∧a.defers=[dcall 114 #[P_ o.wg]]∧kY o j w) ⟨gp (aE o ib ob),[dcall 114 #[P_ o.wg]]⟩ Aw:=⟨_,@Hi d o.wg [dcall 114 #[P_ o.wg]] none (fun e a w=>e=.normal∧a.defers=[dcall 114 #[P_ o.wg]]∧kY o j w) h64 hc8 hj ⟨gp (aE o ib ob),[dcall 114 #[P_ o.wg]]⟩ Aw (by simp[gp,zq,aE]) rfl (fun t ht v hv=>Jj t ht v _ hv) hW hFC (fun a w h1 h2 ⟨v,h3,h4⟩=>⟨rfl,h1,Aw.heap.size,v,by omega,h3.cell,h4⟩)⟩;refine⟨N0,?_⟩
 letI:=a7 Aw.heap.size o.F j
 refine TN.mono (hwp b39 [] [dz] rfl xH) ?_
 rintro fr cs w ⟨rfl,e,a',⟨rfl,h2,h3⟩,rfl⟩
 refine⟨rfl,⟨a'.tmps,?_⟩,h3⟩;show b39.atR a' []=_;rw[←h2]
theorem NB(T:Array Value):QuitsD Tryz.prog 2 0 (G { b39.at ⟨T,[]⟩ [] with mode:=.returning } [dz]):=by
 refine QuitsD.ctl (g':=G dz []) rfl (fun w=>?_) ?_
 ·simp[G,stepG,unwind,doReturn,results,Frame.at,b39,dz,Tryz.func113,Tryz.f113,seen,GStep.after,goexitEntry]
 refine QuitsD.ctl (g':={ G dz [] with status:=.finished }) rfl (fun w=>?_) ⟨rfl,rfl⟩;simp[G,stepG,unwind,dz,goexitEntry,Frame.catches];rfl
theorem NC{fr:Frame}{cs:List Frame}(h:WEo o i fr cs A):cs=[dz]∧kY o i A∧∃v,A.cell? ⟨o.F,i,none⟩=some v∧∀w,WgLive 147 o.wg w∧Has o.F i v w→Goes Tryz.prog false (RW 147 o.wg o.F o.os.length 0 i) DC0 (AtR0 Tryz.prog 147 o.wg o.F o.os.length 0 (i+1) v) 42 (G fr [dz]) w:=by
 obtain⟨rfl,⟨T,rfl⟩,hF⟩:=h;refine⟨rfl,hF,?_⟩;obtain⟨lo,v,h1,h2,h3⟩:=hF;refine⟨v,h2,fun w hK=>?_⟩
 have kr:∀{w w1:World},WgLive 147 o.wg w∧Has o.F i v w→RW 147 o.wg o.F o.os.length 0 i w w1→WgLive 147 o.wg w1∧Has o.F i v w1:=fun h r=>⟨r.live h.1,r.cell.trans h.2⟩
 refine Goes.step (n:=41) rfl fun w1 r1=>?_
 have hK1:=kr hK r1;have e1:stepG Tryz.prog false (G (b39.atR ⟨T,[dcall 114 #[P_ o.wg]]⟩ []) [dz]) w1=.go (G { b39.at ⟨T,[dcall 114 #[P_ o.wg]]⟩ [] with mode:=.returning } [dz]) w1 #[]:=stepG_end (b:=b39);rw[e1];refine⟨⟨rfl,rfl⟩,Goes.step (n:=40) rfl fun w2 r2=>?_⟩;have hK2:=kr hK1 r2;have e2:=stepG_unwind_enter (P:=Tryz.prog) (main:=false) (b:=b39) (a:=⟨T,[dcall 114 #[P_ o.wg]]⟩) (cs:=[dz]) (w:=w2) (todo:=[]) (ds:=[]) (f:=114) (fn:=doneFn link) (args:=#[P_ o.wg]) (c:=body_done link) rfl nB.f_done (nm_done link) rfl;rw[e2];refine⟨⟨rfl,rfl⟩,?_⟩;have hd:=Nk (C:=o.F) (n:=o.os.length) (Low:=0) (k:=i+1) (val:=v) (L:=link) (Wg:=o.wg) nB (c:={ b39.at ⟨T,[]⟩ [] with mode:=.returning }) (cs:=[dz]) rfl (NB T) w2 hK2;exact hd
end
end Go.Proofs.Tw
namespace Go.Proofs.Tw
open Go Go.Fi Go.Fc Go.Conc Go.RowKit Go.ConcR.Gen Go.Conc.Lib
open Go.ConcN (PayAt Has RW WgLive AtR0)
open Go.ConcN.Gen (AnchWN)
open Go.ConcR (DC0)
theorem Cb{s:GStep}{g0:Goroutine}{w0:World}{e0:Array Event}(h:s.goes fun g w es=>g=g0∧w=w0∧es=e0):s=.go g0 w0 e0:=by
 cases s<;>simp only[GStep.goes] at h<;>first|exact h.elim|(obtain⟨rfl,rfl,rfl⟩:=h;rfl)
noncomputable def uw(o:OD):Frame:=(base link.add).at ⟨#[P_ o.wg,.int .i64 1]++Array.replicate 115 undef,[]⟩ [.code (body_add link)]
noncomputable def uy(o:OD):Frame:=(base link.wait).at ⟨#[P_ o.wg]++Array.replicate 83 undef,[]⟩ [.code (body_wait link)]
theorem NF(x y:Value):#[x,y]++Array.replicate 115 undef=#[x,y,undef,undef,undef,undef,undef,undef,undef,undef,undef,undef,undef,undef,undef,undef,undef,undef,undef,undef,undef,undef,undef,undef,undef,undef,undef,undef,undef,undef,undef,undef,undef,undef,undef,undef,undef,undef,undef,undef,undef,undef,undef,undef,undef,undef,undef,undef,undef,undef,undef,undef,undef,undef,undef,undef,undef,undef,undef,undef,undef,undef,undef,undef,undef,undef,undef,undef,undef,undef,undef,undef,undef,undef,undef,undef,undef,undef,undef,undef,undef,undef,undef,undef,undef,undef,undef,undef,undef,undef,undef,undef,undef,undef,undef,undef,undef,undef,undef,undef,undef,undef,undef,undef,undef,undef,undef,undef,undef,undef,undef,undef,undef,undef,undef,undef,undef]:=by kernel_rfl
theorem NG(x:Value):#[x]++Array.replicate 83 undef=#[x,undef,undef,undef,undef,undef,undef,undef,undef,undef,undef,undef,undef,undef,undef,undef,undef,undef,undef,undef,undef,undef,undef,undef,undef,undef,undef,undef,undef,undef,undef,undef,undef,undef,undef,undef,undef,undef,undef,undef,undef,undef,undef,undef,undef,undef,undef,undef,undef,undef,undef,undef,undef,undef,undef,undef,undef,undef,undef,undef,undef,undef,undef,undef,undef,undef,undef,undef,undef,undef,undef,undef,undef,undef,undef,undef,undef,undef,undef,undef,undef,undef,undef,undef]:=by kernel_rfl
noncomputable def scr(o:OD)(base:List Frame):Script where
 base:=base
 csW:=[dz]
 K7:=42
 NK:=10
 I1:=I1o o
 I2:=I2o o
 I3:=I3o o
 WE:=WEo o
 Fin:=kY o
 zj fr:=G (uw o) (fr::base)
 zk fr:=G (uy o) (fr::base)
 fQ fr:=AnchWN link (fun _=>True) o.wg fr base
 child _ fr:=born Tryz.prog (call39 (oW fr))
 frW _ fr:=mh (oW fr)
noncomputable def phd(o:OD)(e0:Nat)(dead:Nat→Prop):PhD:={ ty:=147,Wg:=o.wg,F:=o.F,n:=o.os.length,lo0:=o.lo0,e0:=e0,dead:=dead,v0:=.slice none 0 0 }
section
variable{o:OD}{j:Nat}{fr:Frame}{A:World}{base:List Frame}
theorem Jl(h:I1o o j fr A)(B:World):stepG Tryz.prog true (G fr base) B=.go (G (uw o) (fr::base)) B #[]:=by
 obtain⟨a,ib,ob,rfl,hS,_⟩:=h;have s7:=hS.get 7 (P_ o.wg) rfl;refine Cb ?_
 have hm:#[Operand.tmp 7,Operand.const (Value.int IntKind.i64 1)].map a.eval=#[P_ o.wg,.int .i64 1]:=by simp[Act.eval,s7]
 refine goes_call (b:=b20) (o:=AQ) (f:=112) (fn:=addFn link) (c:=body_add link) (ops:=pJ) (i:=0) rfl rfl cz rfl nB.f_add (nm_add link) rfl ?_;refine⟨?_,rfl,rfl⟩;rw[hm];rfl
theorem Jm(h:I3o o fr A)(B:World):stepG Tryz.prog true (G fr base) B=.go (G (uy o) (fr::base)) B #[]:=by
 obtain⟨a,rfl,hS,_⟩:=h;have s7:=hS.get 7 (P_ o.wg) rfl;refine Cb ?_
 have hm:#[Operand.tmp 7].map a.eval=#[P_ o.wg]:=by simp[Act.eval,s7]
 refine goes_call (b:=b20) (o:=AR) (f:=115) (fn:=waitFn link) (c:=body_wait link) (ops:=mR) (i:=0) rfl rfl cz rfl nB.f_wait (nm_wait link) rfl ?_;refine⟨?_,rfl,rfl⟩;rw[hm];rfl
theorem NH(h:I1o o j fr A)(w:World)(hw:WgLive 147 o.wg w):GL Tryz.prog 147 o.wg (uo Tryz.prog 147 o.wg (G (fr.finish (.tuple #[])) base)) 60 (G (uw o) (fr::base)) w:=by
 obtain⟨a,ib,ob,rfl,hS,_⟩:=h;have:=dK (Wg:=o.wg) (Ng (L:=link) (Wg:=o.wg) (b₀:=b20) (a₀:=a) (ops₀:=pJ) (i₀:=0) (rest₀:=[]) (k₀:=.code (.region 10 jS false)::.inBlock 1::.code (.region 11 gZ false)::kL) (cs:=base) nB w hw);rw[←Frame.finish_at] at this;unfold uw;rw[NF];exact this
theorem Jn(h:I3o o fr A)(w:World)(hw:WgLive 147 o.wg w):GL Tryz.prog 147 o.wg (WtK Tryz.prog 147 o.wg (AnchWN link (fun _=>True) o.wg fr base)) 10 (G (uy o) (fr::base)) w:=by
 obtain⟨a,rfl,hS,_⟩:=h;unfold uy;rw[NG];exact dK (Wg:=o.wg) (kX (L:=link) (Wg:=o.wg) (b₀:=b20) (a₀:=a) (ops₀:=mR) (i₀:=0) (rest₀:=[]) (k₀:=[.code (.seq (.region 13 lB false) .ret)]) (cs:=base) nB w hw)
theorem Jo(hfr:∃a,fr=uv a)(g:Goroutine)(w:World)(h:AnchWN link (fun _=>True) o.wg fr base g w):GL Tryz.prog 147 o.wg (Wt1 Tryz.prog 147 o.wg (G (fr.finish (.tuple #[])) base) (AnchWN link (fun _=>True) o.wg fr base)) 40 g w:=by
 obtain⟨a,rfl⟩:=hfr;have:=dK (Wg:=o.wg) (Nh (L:=link) (Wg:=o.wg) (b₀:=b20) (a₀:=a) (ops₀:=mR) (i₀:=0) (rest₀:=[]) (k₀:=[.code (.seq (.region 13 lB false) .ret)]) (cs:=base) nB g w h);rw[←Frame.finish_at] at this;exact this
end
theorem NI:@codeOk xfW prog jv=true:=by kernel_rfl
theorem NJ:prog.funcs[69]?=some (eH Tryz.f69):=by rw[gO,Tryz.func69];rfl
theorem NL:prog.funcs[113]?=some (eH Tryz.f113):=by rw[gO,Tryz.func113];rfl
theorem E9:Tryz.f69.norace=false:=by kernel_rfl
theorem Fa:Tryz.f113.norace=false:=by kernel_rfl
theorem Jp(c:Array Value):@bD xfW prog Tryz.prog (mh c):=by
 letI:=xfW
 refine⟨fun it hit=>?_,xH,.inr ⟨.inr rfl,rfl,rfl,rfl,trivial⟩,fun ch=>by simp[mh,Frame.atR],⟨_,_,NL,Tryz.func113,Fa,Fa⟩⟩
 have:it=.code jv:=by simpa[mh,Frame.atR] using hit
 subst this;exact NI
theorem sY(f:FuncId)(args:Array Value):∃c,(Frame.enter prog f args .normal).todo=[.code c]:=⟨_,rfl⟩
theorem NM(o:OD)(base:List Frame)(hb:base≠[])(e0:Nat)(dead:Nat→Prop)(hn:o.os.length≤1000)(h64:o.zs.length≤64)(hc:o.ab.length≤1000):@dm E4 xfW Tryz.prog prog (phd o e0 dead) (scr o base):=by
 letI:=xfW
 refine { Nb:=hb,csN:=by simp[scr],st1:=?_,st2:=?_,st3:=?_,stW:=?_,stF:=?_,EO:=?_,add:=?_,mid:=?_,go:=?_,Nc:=?_,beg:=?_,wok:=?_,work:=?_,next:=?_,hwe:=?_,call3:=?_,kX:=?_,EP:=?_,anch:=?_,ER:=?_,ES:=?_,ET:=?_,EU:=?_ }
 ·rintro j fr A A' ⟨a,ib,ob,h1,h2,h3,h4,h5⟩ e
  exact⟨a,ib,ob,h1,h2,h3.mv e,h4,h5.mv e⟩
 ·rintro j fr A A' ⟨a,ib,ob,h1,h2,h3,h4,h5⟩ e
  exact⟨a,ib,ob,h1,h2,h3.mv e,h4,h5.mv e⟩
 ·rintro fr A A' ⟨a,h1,h2,h3⟩ e
  exact⟨a,h1,h2,h3.mv e⟩
 ·rintro i fr cs A A' ⟨h1,h2,h3⟩ e
  exact⟨h1,h2,h3.mv e⟩
 ·intro i A A' h e;exact kY.mv h e
 ·intro j fr A h B;exact Jl h B
 ·intro j fr A h w hw;exact⟨60,NH h w hw⟩
 ·intro j fr A h hj lo;exact⟨4,Ny h⟩
 ·rintro j fr A ⟨a,ib,ob,rfl,hS,_⟩ B
  have:=Nz (cs:=base) hS B;rw[←xI hS] at this;exact this
 ·intro j fr;rfl
 ·rintro j fr A ⟨a,ib,ob,rfl,hS,_⟩ w
  refine⟨6,?_⟩;exact NA (oW (jD a)) (by rw[xI hS];rfl) w
 ·intro j fr A _;exact Jp _
 ·intro j fr A h Aw h1 h2 h3 h4;exact Jk h64 hc h Aw h1 h2 h3 h4
 ·intro j fr A h hj lo hl0 hlo;exact⟨37,Jg hn hl0 hlo h⟩
 ·intro i fr cs A h;exact NC h
 ·intro fr A h B;exact Jm h B
 ·intro fr A h w hw;exact Jn h w hw
 ·rintro fr g w ⟨T,rfl,_⟩;rfl
 ·rintro fr A g w ⟨a,rfl,_⟩ h;exact⟨40,Jo ⟨a,rfl⟩ g w h⟩
 ·rintro j fr A f args ⟨a,ib,ob,rfl,_⟩ e
  obtain⟨c,hc⟩:=sY f args;rw[←e] at hc;cases hc
 ·rintro j fr A f args ⟨a,ib,ob,rfl,_⟩ e
  obtain⟨c,hc⟩:=sY f args;rw[←e] at hc;cases hc
 ·rintro fr A f args ⟨a,rfl,_⟩ e
  obtain⟨c,hc⟩:=sY f args;rw[←e] at hc;cases hc
 ·rintro i fr cs A f args ⟨_,⟨T,rfl⟩,_⟩ e
  obtain⟨c,hc⟩:=sY f args;rw[←e] at hc;cases hc
end Go.Proofs.Tw
