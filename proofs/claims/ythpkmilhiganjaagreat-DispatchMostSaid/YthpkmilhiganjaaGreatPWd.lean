/- Lemmas. -/
import Derived.Test.YthpkmilhiganjaaGreatPWc
import Derived.Test.YthpkmilhiganjaaGreatPWl
import Derived.Test.YthpkmilhiganjaaGreatPNc
import Derived.Test.YthpkmilhiganjaaGreatPNd
set_option linter.all false
set_option maxHeartbeats 32000000
set_option maxRecDepth 100000
namespace Go.Proofs.Tw
open Go Go.Fi Go.Fc Go.Conc
@[reducible] def xfW:Xf:={ xf:=λ_=>False,bot:=λf=>f=69\/f=113,ds:=λ_ _=>True,rng:=false }
instance IX:ConcR.Payload:=⟨136⟩
def xW(f:Nat):Prop:=keep f=false/\∃fn,Tryz.prog.funcs[f]?=some fn
theorem jC(f:Nat):prog.funcs[f]?=(Tryz.prog.funcs[f]?).map λfn=>if keep f then fn else gw fn:=by
 unfold prog;simp
theorem Su:@codeOk xfW prog (Tryz.f107.body.getD .skip)=true:=aj
theorem Sv:@codeOk xfW prog (Tryz.f133.body.getD .skip)=true:=aj
theorem Sw:Tryz.f107.body=some (Tryz.f107.body.getD .skip):=aj
theorem Sx:Tryz.f133.body=some (Tryz.f133.body.getD .skip):=aj
theorem Sy:(Tryz.f107.name == "runtime.NumGoroutine")=false:=aj
theorem Sz:(Tryz.f133.name == "runtime.NumGoroutine")=false:=aj
theorem SB:Tryz.f107.norace=false:=aj
theorem SC:Tryz.f133.norace=false:=aj
theorem SD:prog.inits.idxOf? 107=none:=aj
theorem SE:prog.inits.idxOf? 133=none:=aj
theorem IY:@iv prog Tryz.prog (@Cc xfW prog Tryz.prog) xW:=by
 letI:=xfW
 refine⟨⟨⟨Tryz.prog.funcs,rfl⟩⟩,λf=>?_⟩
 rcases hx:Tryz.prog.funcs[f]? with _|fn
 .exact .inl ⟨by rw[jC,hx];rfl,rfl⟩
 .by_cases hk:keep f=true
  .have:f=107\/f=133:=by simpa[keep] using hk
   rcases this with rfl|rfl
   .refine .inr (.inr (.inr ⟨Tryz.f107,_,func107,by rw[<-hx];rfl,Sy,Sw,Su,⟨Tryz.f107,func107,Tryz.func107,SB⟩,SD⟩))
   .refine .inr (.inr (.inr ⟨Tryz.f133,_,func133,by rw[<-hx];rfl,Sz,Sx,Sv,⟨Tryz.f133,func133,Tryz.func133,SC⟩,SE⟩))
  .have hk:keep f=false:=ak
   refine .inr (.inr (.inl ⟨⟨hk,fn,hx⟩,gw fn,.refuse "known by its contract alone",?_,rfl,rfl⟩));rw[jC,hx];simp[hk]
theorem uk{f:Nat}(h:xW f)(args:Array Value)(cs:List Frame)(w:World)(g':Goroutine)(w':World)(es:Array Event):stepG prog true (G (Frame.enter prog f args .normal) cs) w≠.go g' w' es:=by
 obtain⟨hk,fn,hx⟩:=h
 have hf:prog.funcs[f]?=some (gw fn):=by rw[jC,hx];simp[hk]
 have:Frame.enter prog f args .normal = { fn:=f,tmps:=args++Array.replicate ((gw fn).ntmps-args.size) undef,todo:=[.code (.refuse "known by its contract alone")],defers:=[],mode:=.run,kind:=.normal }:=by
  simp[Frame.enter,hf,gw]
 rw[this];simp[G,stepG,stepG.exec]
theorem IZ:∃c,Tryz.f69.body=some c/\c≠.refuse "known by its contract alone" := ⟨_,rfl,ae⟩
theorem Gq{f:Nat}(h:xfW.bot f):¬(@Cc xfW prog Tryz.prog).fn f:=by
 rintro⟨⟨fn,h1,h2,_⟩,_⟩
 have hk:keep f=false:=by rcases h with rfl|rfl<;>rfl
 rw[jC,h2] at h1;simp[hk] at h1
 have hb:fn.body=some (.refuse "known by its contract alone"):=by rw[<-h1];rfl
 rcases h with rfl|rfl
 .rw[Tryz.func69] at h2;cases h2;obtain⟨c,h3,h4⟩:=IZ;rw[h3] at hb;simp_all
 .rw[Tryz.func113] at h2;cases h2
  have:Tryz.f113.body≠some (.refuse "known by its contract alone"):=by intro h;cases h
  exact this hb
theorem SF(l F k:Nat):@lR xfW (cQ l F k) prog Tryz.prog xW:=by
 letI:=cQ l F k
 letI:=xfW
 exact⟨IY,λf h=>h,λf hb args cs w g' w' es=>uk hb args cs w g' w' es,λw t d=>⟨rfl,rfl,bS _,λ_ _=>rfl⟩,λf h=>Gq h⟩
end Go.Proofs.Tw
namespace Go.Proofs.Tw
open Go Go.Fi Go.Fc Go.Conc Go.RowKit
structure OD where
 rb:Nat
 xv:Nat
 xb:Nat
 wg:Nat
 F:Nat
 lo0:Nat
 ca:Option Addr
 k8:Nat
 bD:List (ByteArray×Int×Bool)
 oa:Option Addr
 de:Nat
 os:List (ByteArray×Int×Bool×Int)
 fa:Option Addr
 nK:Nat
 zs:List (Int×Int)
structure iE(o:OD)(w:World):Prop where
 size:o.lo0<=w.heap.size
 low:o.F<o.lo0/\o.rb<o.lo0/\o.xv<o.lo0/\o.xb<o.lo0
 apart:o.rb≠o.F/\o.xv≠o.F/\o.xb≠o.F
 sI:w.cell? ⟨o.rb,0,none⟩=some (.slice o.ca o.bD.length o.k8)
 Da:w.cell? ⟨o.rb,1,none⟩=some (.slice o.oa o.os.length o.de)
 qS:w.cell? ⟨o.rb,3,none⟩=some (.slice o.fa o.zs.length o.nK)
 xvc:w.cell? ⟨o.xv,0,none⟩=some (.pointer (some ⟨o.xb,0,none⟩))
 oJ:w.cell? ⟨o.xb,4,none⟩=some (.slice (some ⟨o.F,0,none⟩) o.os.length o.os.length)
 bD:sH o.F o.lo0 w o.ca o.bD
 lQ:lP o.F w o.fa o.zs
 qT:∀j,j<o.zs.length->∀ad,o.fa=some ad->ad.block<o.lo0
 I0:nM o.F w o.oa o.os
 I4:∀j,j<o.os.length->∀ad,o.oa=some ad->ad.block<o.lo0
theorem nM.low{F lo:Nat}{w w1:World}{a0:Option Addr}{os:List (ByteArray×Int×Bool×Int)}(h:nM F w a0 os)(h':∀j,j<os.length->∀ad,a0=some ad->ad.block<lo)(e:Bel lo w w1):nM F w1 a0 os:=
 λj hj=>let ⟨b,off,h1,h2,h3,h4,h5,h6⟩:=h j hj
  have hb:b<lo:=h' j hj _ h1
  ⟨b,off,h1,h2,(e.cell (p:=⟨b,_,none⟩) hb).trans h3,(e.cell (p:=⟨b,_,none⟩) hb).trans h4,(e.cell (p:=⟨b,_,none⟩) hb).trans h5,(e.cell (p:=⟨b,_,none⟩) hb).trans h6⟩
theorem iE.bel{o:OD}{w w1:World}(h:iE o w)(e:Bel o.lo0 w w1):iE o w1:=by
 have c:∀{b k:Nat}{v:Value},b<o.lo0->w.cell? ⟨b,k,none⟩=some v->w1.cell? ⟨b,k,none⟩=some v:=λhb hv=>(e.cell (p:=⟨_,_,none⟩) hb).trans hv
 obtain⟨l1,l2,l3,l4⟩:=h.low;exact⟨dJ h.size e.size,h.low,h.apart,c l2 h.sI,c l2 h.Da,c l2 h.qS,c l3 h.xvc,c l4 h.oJ,h.bD.bel e,h.lQ.low h.qT e,h.qT,h.I0.low h.I4 e,h.I4⟩
theorem iE.mv{o:OD}{w w1:World}(h:iE o w)(e:Bel w.heap.size w w1):iE o w1:=h.bel (e.mono h.size)
abbrev cW:Code:=.seq (.region 12 qD false) (.seq (.region 13 o9 false) .ret)
abbrev c8:Code:=.seq (.region 8 mj false) (.seq (.region 9 ui false) (.region 10 ou false))
abbrev cLB:Code:=.seq (.region 7 xd false) (.seq (.cond (.tmp 29) .skip (.exit 0)) (.seq (.block 1 c8) (.region 11 lG false)))
def kL:List Item:=[.inLoop cLB,.inBlock 0,.code cW]
def b20:Frame:={ (default:Frame) with fn:=69,kind:=.normal,roundOf:=none }
theorem eU:b20.kind≠.early:=aE
def fr9(a:Act):Frame:=b20.atR a (.inRegion ui [0]::.code (.region 10 ou false)::.inBlock 1::.code (.region 11 lG false)::kL)
def pN(a:Act):Frame:=b20.atR a (.inRegion ou [1]::.inBlock 1::.code (.region 11 lG false)::kL)
def Db(a:Act):Frame:=b20.atR a [.inRegion qD [0],.code (.seq (.region 13 o9 false) .ret)]
def P_(b:Nat):Value:=.pointer (some ⟨b,0,none⟩)
def sS(o:OD)(j ib ob:Nat)(w:World):Prop:=
 o.lo0<=ib/\o.lo0<=ob/\ib≠ob/\w.heap[ib]?=some (.cells #[.int .i64 j] 3)/\w.heap[ob]?=some (.cells #[.string (o.os.getD j (default,0,false,0)).1,.int .i64 (o.os.getD j (default,0,false,0)).2.1,.bool (o.os.getD j (default,0,false,0)).2.2.1,.int .i64 (o.os.getD j (default,0,false,0)).2.2.2] 91)
theorem sS.mv{o:OD}{j ib ob:Nat}{w w1:World}(h:sS o j ib ob w)(e:Bel w.heap.size w w1):sS o j ib ob w1:=
 ⟨h.1,h.2.1,h.2.2.1,(e.block _ (cY.1 h.2.2.2.1).1).trans h.2.2.2.1,(e.block _ (cY.1 h.2.2.2.2).1).trans h.2.2.2.2⟩
abbrev S9(o:OD)(j ib ob:Nat):Nat->Option Value:=ups (ups (S20 o.wg o.rb o.xv o.oa o.de o.os.length j) 8 (P_ ib)) 9 (P_ ob)
def bY(o:OD)(ib ob:Nat):Array Value:=#[P_ o.wg,P_ o.rb,P_ o.xv,P_ ib,P_ ob]
def I1o(o:OD)(j:Nat)(fr:Frame)(w:World):Prop:=∃a ib ob,fr=fr9 a/\SlS (S9 o j ib ob) a/\iE o w/\j<o.os.length/\sS o j ib ob w
def I2o(o:OD)(j:Nat)(fr:Frame)(w:World):Prop:=∃a ib ob,fr=pN a/\SlS (ups (S9 o j ib ob) 34 (.func (.func 113) #[] (bY o ib ob))) a/\iE o w/\j<o.os.length/\sS o j ib ob w
def I3o(o:OD)(fr:Frame)(w:World):Prop:=∃a,fr=Db a/\SlS (S20 o.wg o.rb o.xv o.oa o.de o.os.length o.os.length) a/\iE o w
section
variable{o:OD}{j:Nat}{fr:Frame}{w:World}{cs:List Frame}{lo:Nat}
theorem SG(h:I1o o j fr w):@TN (cQ lo o.F o.os.length) prog cs.length cs.length (λfr' cs' w'=>cs'=cs/\I2o o j fr' w') 4 (fr.finish (.tuple #[])) cs w:=by
 letI:=cQ lo o.F o.os.length
 obtain⟨a,ib,ob,rfl,hS,hK,hj,hB⟩:=h
 have e1:(fr9 a).finish (.tuple #[])=b20.atR (a.put (some 33) (.tuple #[])) (.inRegion ui []::.code (.region 10 ou false)::.inBlock 1::.code (.region 11 lG false)::kL):=by
  rfl
 rw[e1];have hS1:=hS.put (t:=33) af (.tuple #[]);generalize a.put (some 33) (.tuple #[])=a1 at hS1;refine nu (bS _) (mn (bS _) ?_);show TN prog cs.length cs.length _ 2 (b20.atR a1 (.inRegion ou [0,1]::_)) cs w;have s7:=hS1.get 7 (P_ o.wg) rfl;have s1:=hS1.get 1 (P_ o.rb) rfl;have s6:=hS1.get 6 (P_ o.xv) rfl;have s8:=hS1.get 8 (P_ ib) rfl;have s9:=hS1.get 9 (P_ ob) rfl
 refine nP (o:=Bg) rfl rfl ae eU (bS _) λw1 e=>⟨λf ev a4=>?_,?_⟩
 .have hm:=mem_listed a4;simp[go_sem] at hm
 .have hr:(execOp a1.eval Bg).run prog w1=.ok (.value (.func (.func 113) #[] (bY o ib ob))) w1:=by
   simp[go_sem,s7,s1,s6,s8,s9,bY]
  rw[hr];refine .now ⟨rfl,a1.put (some 34) (.func (.func 113) #[] (bY o ib ob)),ib,ob,rfl,?_,hK.mv e,hj,hB.mv e⟩;have hS2:=hS1.put (t:=34) af (.func (.func 113) #[] (bY o ib ob));refine⟨hS2.size,hS2.defers,λt v ht=>hS2.get t v ?_⟩;unfold ups at ht ⊢;by_cases e34:t=34
  .simp_all
  .by_cases e33:t=33
   .subst e33;cases ht
   simp_all
theorem Gt{a:Act}(hn:o.os.length<=1000)(hj:j<=o.os.length)(h':o.lo0<=lo)(h9:lo<=w.heap.size)(hS:SlS (S20 o.wg o.rb o.xv o.oa o.de o.os.length j) a)(hK:iE o w):@TN (cQ lo o.F o.os.length) prog cs.length cs.length (λfr' cs' w'=>cs'=cs/\if j<o.os.length then I1o o j fr' w' else I3o o fr' w') 30 (b20.atR a (.code cLB::kL)) cs w:=by
 letI:=cQ lo o.F o.os.length
 have hFlo:o.F<lo:=lY hK.low.1 h';refine iM (N:=29) (bS _) ?_
 let Q1:Exit->Act->World->Prop:=λe a w=>e=.normal/\SlS (S20 o.wg o.rb o.xv o.oa o.de o.os.length j) a/\a.tmps[29]?.getD undef=.bool (decide (j<o.os.length))/\iE o w/\lo<=w.heap.size
 refine xi (N:=26) (M:=3) (Q:=Q1) (Nv (F:=o.F) (lo:=lo) (k:=o.os.length) hn hj hS (λw=>iE o w/\lo<=w.heap.size) (λw w1 h e=>⟨h.1.mv e,dJ h.2 e.size⟩) ⟨hK,h9⟩ (λa w h1 h2 h3=>⟨rfl,h1,h2,h3.1,h3.2⟩)) eU (λe a w h=>h.1) λa w hq=>?_
 obtain⟨_,hS,hi,hK,h9⟩:=hq;refine iM (bS _) (Bp (t:=decide (j<o.os.length)) (bS _) (by simp[Act.eval,hi]) ?_);by_cases hh:j<o.os.length
 .simp only[hh,decide_true,cz];refine Gr (bS _) (iM (bS _) (Gs (bS _) (iM (bS _) ?_)))
  let Q2:Exit->Act->World->Prop:=λe a w=>e=.normal/\∃ib ob,SlS (S9 o j ib ob) a/\iE o w/\sS o j ib ob w
  refine xi (N:=11) (M:=9) (Q:=Q2) (Ny (F:=o.F) (lo:=lo) (k:=o.os.length) hFlo rfl hh hS h9 (iE o) (λw w1 h e=>h.mv e) (λw w1 h _ e=>h.bel (e.mono h')) hK hK.I0 (λa w ib ob h1 h2 h3 h4 h5 h6 h7 h8=>⟨rfl,ib,ob,h1,h2,dJ h' h4,dJ h' h5,h6,h7,h8⟩)) eU (λe a w h=>h.1) λa w hq=>?_
  obtain⟨_,ib,ob,hS,hK,hB⟩:=hq;refine iM (bS _) (mn (bS _) (.now ⟨rfl,?_⟩));exact⟨a,ib,ob,rfl,hS,hK,hh,hB⟩
 .simp only[hh,decide_false,dz,cT];refine NQ (k':=[.code cW]) (bS _) rfl (iM (bS _) (mn (bS _) (.now ⟨rfl,?_⟩)))
  have:j=o.os.length:=ab
  subst this;exact⟨a,rfl,hS,hK⟩
theorem NR(hn:o.os.length<=1000)(h':o.lo0<=lo)(h9:lo<=w.heap.size)(h:I2o o j fr w):@TN (cQ lo o.F o.os.length) prog cs.length cs.length (λfr' cs' w'=>cs'=cs/\if j+1<o.os.length then I1o o (j+1) fr' w' else I3o o fr' w') 37 (fr.finish undef) cs w:=by
 letI:=cQ lo o.F o.os.length
 obtain⟨a,ib,ob,rfl,hS,hK,hj,hB⟩:=h
 have e1:(pN a).finish undef=b20.atR a (.inRegion ou []::.inBlock 1::.code (.region 11 lG false)::kL):=by
  rfl
 rw[e1]
 have hS0:SlS (S20 o.wg o.rb o.xv o.oa o.de o.os.length j) a:=⟨hS.size,hS.defers,λt v ht=>hS.get t v (by
  unfold ups;by_cases e34:t=34
  .subst e34;cases ht
  .by_cases e9:t=9
   .subst e9;cases ht
   .by_cases e8:t=8
    .subst e8;cases ht
    grind)⟩
 refine nu (bS _) (NM (bS _) ?_)
 let Q1:Exit->Act->World->Prop:=λe a w=>e=.normal/\SlS (S20 o.wg o.rb o.xv o.oa o.de o.os.length (j+1)) a/\iE o w/\lo<=w.heap.size
 refine xi (N:=31) (M:=4) (Q:=Q1) (Nx (F:=o.F) (lo:=lo) (k:=o.os.length) hn ab hS0 (λw=>iE o w/\lo<=w.heap.size) (λw w1 h e=>⟨h.1.mv e,dJ h.2 e.size⟩) ⟨hK,h9⟩ (λa w h1 h3=>⟨rfl,h1,h3.1,h3.2⟩)) eU (λe a w h=>h.1) λa w hq=>?_
 obtain⟨_,hS,hK,h9⟩:=hq;exact NO (bS _) (Gt hn ab h' h9 hS hK)
end
end Go.Proofs.Tw
namespace Go.Proofs.Tw
open Go Go.Fi Go.Fc Go.Conc Go.RowKit Go.ConcR.Gen Go.Conc.Lib
open Go.ConcN (PayAt Has RW WgLive AtR0)
open Go.ConcR (DC0)
abbrev Gu:Oper:=⟨none,(.defer ⟨(.value (.func 114)),#[(.tmp 0)],#[147]⟩),0, "dispatch.go:120",#[],none⟩
abbrev xj:Array Oper:=#[Gu]
theorem NS:Tryz.f113.body=some (.seq (.region 0 xj false) nL):=rfl
noncomputable def b39:Frame:={ (default:Frame) with fn:=113,kind:=.deferred,roundOf:=none }
theorem Bq:b39.kind≠.early:=aE
noncomputable def gl:Frame:={ (default:Frame) with fn:=Tryz.prog.funcs.size,defers:=[],mode:=.panicking [goexitEntry] }
noncomputable def Dc:Nat->Array Value:=λn=>Array.replicate n undef
noncomputable def jX(c:Array Value):Array Value:=c++Dc 49
noncomputable def call39(c:Array Value):Deferred:={ target:=.fn (.func 113) c,args:=#[] }
noncomputable def pO(c:Array Value):Frame:=b39.atR ⟨jX c,[dcall 114 #[c.getD 0 undef]]⟩ [.code nL]
noncomputable def sT(fr:Frame):Array Value:=match fr.tmps.getD 34 undef with | .func _ _ c=>c|_=>#[]
section
variable{o:OD}{j ib ob:Nat}{a:Act}{cs:List Frame}
theorem SH(hS:SlS (ups (S9 o j ib ob) 34 (.func (.func 113) #[] (bY o ib ob))) a)(B:World):stepG Tryz.prog true (G (pN a) cs) B=.spawn (G ((pN a).finish undef) cs) (born Tryz.prog (call39 (bY o ib ob))) B #[]:=by
 have s34:=hS.get 34 _ rfl
 have hr:(execOp a.eval rU).run Tryz.prog B=.ok (.spawn (call39 (bY o ib ob))) B:=by
  unfold execOp;simp[resolve,Deferred.ofValue,Act.eval,s34,call39]
 have he:∀es,(execOp a.eval rU).events Tryz.prog B es=es:=by
  intro es;unfold execOp;simp[resolve,Deferred.ofValue,Act.eval,s34,call39]
 have e1:(pN a).finish undef=b20.at (a.put rU.dst undef) (.inRegion ou []::.inBlock 1::.code (.region 11 lG false)::kL):=by
  rfl
 have hl:listed Tryz.prog b20.fn a rU B=#[]:=by unfold listed;rw[he,seen_none]
 rw[e1];show stepG Tryz.prog true (G (b20.at a (.inRegion ou (1::[])::.inBlock 1::.code (.region 11 lG false)::kL)) cs) B=_;rw[stepG_spawn (o:=rU) rfl rfl eU hr rfl,hl]
theorem NT(c:Array Value)(hc:c.size=5)(w:World):stepG Tryz.prog false (born Tryz.prog (call39 c)) w=.go (G (b39.atR ⟨jX c,[]⟩ [.code (.seq (.region 0 xj false) nL)]) [gl]) w #[]:=by
 have hb:Tryz.f113.body=some (.seq (.region 0 xj false) nL):=NS;have hn:Tryz.f113.ntmps=54:=rfl
 have hg:(Tryz.f113.name == "runtime.NumGoroutine")=false:=aj
 have h1:¬Tryz.f113.name = "runtime.NumGoroutine" := by trivial
 simp[born,call39,stepG,unwind,callDeferred,invoke,callFunc,Tryz.func113,h1,hb,seen_none,GStep.after,G,Frame.enter,Frame.atR,b39,gl,jX,Dc,hc,hn]
theorem SI(c:Array Value)(hc:c.size=5)(w:World):Goes Tryz.prog false (λ_ _=>True) DC0 (mQ (G (pO c) [gl])) 6 (born Tryz.prog (call39 c)) w:=by
 have st:∀{n:Nat}{g g':Goroutine}{w:World},g.status=.running->(∀w,stepG Tryz.prog false g w=.go g' w #[])->(∀w,Goes Tryz.prog false (λ_ _=>True) DC0 (mQ (G (pO c) [gl])) n g' w)->Goes Tryz.prog false (λ_ _=>True) DC0 (mQ (G (pO c) [gl])) (n+1) g w:=
  λhr h k=>Goes.step hr λw1 _=>by rw[h w1];exact⟨⟨rfl,rfl⟩,k w1⟩
 refine st (n:=5) rfl (NT c hc) λw=>?_
 refine st (n:=4) rfl (λw=>stepG_seq (b:=b39)) λw=>?_
 refine st (n:=3) rfl (λw=>stepG_region (b:=b39)) λw=>?_
 refine st (n:=2) rfl (λw=>stepG_defer (b:=b39) (ops:=xj) (i:=0) (o:=Gu) rfl rfl Bq rfl) λw=>?_
 refine st (n:=1) rfl (λw=>stepG_region_end (b:=b39)) λw=>?_
 refine Goes.stop λw1 _=>?_
 have e:Act.eval ⟨jX c,[]⟩ (.tmp 0)=c.getD 0 undef:=by
  simp[Act.eval,jX,dF,yG,hc]
 have e2:Array.map (Act.eval ⟨jX c,[]⟩) #[Operand.tmp 0]=#[c.getD 0 undef]:=by simp[e]
 show G (b39.at ⟨jX c,[dcall 114 (Array.map (Act.eval ⟨jX c,[]⟩) #[Operand.tmp 0])]⟩ [.code nL]) [gl]=_;rw[e2];rfl
end
noncomputable def odW(o:OD)(i ib ob lo:Nat):WkD:=
 { F:=o.F,i:=i,lo:=lo,rb:=o.rb,xv:=o.xv,xb:=o.xb,ib:=ib,ob:=ob,ca:=o.ca,k8:=o.k8,bD:=o.bD,fa:=o.fa,nK:=o.nK,zs:=o.zs,n:=o.os.length,Cv:=o.os.length,uV:=(o.os.getD i (default,0,false,0)).2.1,oI:=(o.os.getD i (default,0,false,0)).2.2.1 }
noncomputable def Dd(o:OD)(i:Nat):List Bool:=k9 (odW o i 0 0 0) o.bD.length
def oL(o:OD)(i:Nat)(A:World):Prop:=∃lo v,o.lo0<=lo/\A.cell? ⟨o.F,i,none⟩=some v/\iD (odW o i 0 0 lo) A v (Dd o i)
theorem oL.mv{o:OD}{i:Nat}{A A':World}(h:oL o i A)(e:Bel A.heap.size A A'):oL o i A':=
 let ⟨lo,v,h1,h2,h3⟩:=h;⟨lo,v,h1,e.cellAt h2,h3.mv e⟩
def WEo(o:OD)(i:Nat)(fr:Frame)(cs:List Frame)(A:World):Prop:=cs=[gl]/\(∃T,fr=b39.atR ⟨T,[dcall 114 #[P_ o.wg]]⟩ [])/\oL o i A
section
variable{o:OD}{i j ib ob:Nat}{A:World}
theorem Br{a:Act}(hS:SlS (ups (S9 o j ib ob) 34 (.func (.func 113) #[] (bY o ib ob))) a):sT (pN a)=bY o ib ob:=by
 have s34:=hS.get 34 _ rfl
 have:(pN a).tmps.getD 34 undef=.func (.func 113) #[] (bY o ib ob):=by
  rw[dF];exact s34
 unfold sT;rw[this]
theorem gi{w:World}{b k:Nat}{c:Array Value}{e:TypeId}{f:Nat×Nat}{v:Value}(h:w.heap[b]?=some (.cells c e f))(hv:c[k]?=some v):w.cell? ⟨b,k,none⟩=some v:=by
 unfold World.cell?;rw[h];exact hv
theorem NU(t:Nat)(ht:t<5)(v:Value)(lo:Nat)(hv:S0 (odW o j ib ob lo) o.wg 0 t=some v):(jX (bY o ib ob))[t]?.getD undef=v:=by
 have e:(jX (bY o ib ob))[t]?=(bY o ib ob)[t]?:=by
  unfold jX;rw[rD aE]
 rw[e];clear e
 obtain rfl|rfl|rfl|rfl|rfl:t=0\/t=1\/t=2\/t=3\/t=4:=by omega
 all_goals
  simp only[S0,odW,db] at hv;subst hv;simp[bY,P_]
theorem NV{fr:Frame}(ha:o.zs.length<=64)(hy:o.bD.length<=1000)(h:I2o o j fr A)(Aw:World)(ht:∀(a:Addr) v,a.block≠o.F->A.cell? a=some v->Aw.cell? a=some v)(aw:Aw.heap.size=A.heap.size)(hp:PayAt o.F o.os.length Aw)(hv:Aw.cell? ⟨o.F,j,none⟩=some (.slice none 0 0)):∃N,@TN (cQ Aw.heap.size o.F j) prog [gl].length [gl].length (WEo o j) N (pO (sT fr)) [gl] Aw:=by
 obtain⟨a,ib,ob,rfl,hS,hK,hj,hB1,hB2,ao,hB3,hB4⟩:=h;rw[Br hS];obtain⟨l1,l2,l3,l4⟩:=hK.low;obtain⟨a1,a2,a3⟩:=hK.apart;have hs:=hK.size;have ag:=(cY.1 hB3).1;have aq:=(cY.1 hB4).1;obtain⟨cF,hF,hn⟩:=hp
 let d:=odW o j ib ob Aw.heap.size
 have hW:WkW d Aw:=by
  refine⟨bS _,⟨?_,?_,?_,?_,?_,?_⟩,⟨a1,a2,a3,?_,?_⟩,ht _ _ a1 hK.sI,ht _ _ a1 hK.qS,ht _ _ a2 hK.xvc,ht _ _ a3 hK.oJ,ht _ _ ?_ (gi hB3 (by rfl)),ht _ _ ?_ (gi hB4 (by rfl)),ht _ _ ?_ (gi hB4 (by rfl)),λk hk=>?_,λk hk=>?_,λk hk ad ho=>?_⟩
  .show o.F<Aw.heap.size;omega
  .show o.rb<Aw.heap.size;omega
  .show o.xv<Aw.heap.size;omega
  .show o.xb<Aw.heap.size;omega
  .show ib<Aw.heap.size;omega
  .show ob<Aw.heap.size;omega
  .show ib≠o.F;omega
  .show ob≠o.F;omega
  .show ib≠o.F;omega
  .show ob≠o.F;omega
  .show ob≠o.F;omega
  .obtain⟨b,off,x1,x2,x3,x4,x5,x6⟩:=hK.bD k hk;exact⟨b,off,x1,x2,by show b<Aw.heap.size;omega,ht _ _ x2 x4,ht _ _ x2 x5,ht _ _ x2 x6⟩
  .obtain⟨b,off,x1,x2,x3,x4⟩:=hK.lQ k hk;exact⟨b,off,x1,x2,ht _ _ x2 x3,ht _ _ x2 x4⟩
  .have:=hK.qT k hk ad ho;show ad.block<Aw.heap.size;omega
 have hFC:ji d Aw (.slice none 0 0):=by
  refine⟨cF,hF,?_,?_⟩
  .show j<cF.size;omega
  .unfold World.cell? at hv;rw[hF] at hv;exact hv
 obtain⟨N0,aa⟩:∃N0,@Code.wpN (cQ Aw.heap.size o.F j) none prog nL N0 (λe a w=>e=.normal/\a.defers=[dcall 114 #[P_ o.wg]]/\oL o j w) ⟨jX (bY o ib ob),[dcall 114 #[P_ o.wg]]⟩ Aw:=⟨_,@Nu d o.wg [dcall 114 #[P_ o.wg]] none (λe a w=>e=.normal/\a.defers=[dcall 114 #[P_ o.wg]]/\oL o j w) ha hy hj ⟨jX (bY o ib ob),[dcall 114 #[P_ o.wg]]⟩ Aw (by simp[jX,Dc,bY]) rfl (λt ht v hv=>NU t ht v _ hv) hW hFC (λa w h1 h2 ⟨v,h3,h4⟩=>⟨rfl,h1,Aw.heap.size,v,ab,h3.cell,h4⟩)⟩;refine⟨N0,?_⟩
 letI:=cQ Aw.heap.size o.F j
 refine TN.mono (aa b39 [] [gl] rfl Bq) ?_
 rintro fr cs w ⟨rfl,e,a',⟨rfl,h2,h3⟩,rfl⟩
 refine⟨rfl,⟨a'.tmps,?_⟩,h3⟩;show b39.atR a' []=_;rw[<-h2]
theorem SJ(T:Array Value):QuitsD Tryz.prog 2 0 (G { b39.at ⟨T,[]⟩ [] with mode:=.returning } [gl]):=by
 refine QuitsD.ctl (g':=G gl []) rfl (λw=>?_) ?_
 .simp[G,stepG,unwind,doReturn,results,Frame.at,b39,gl,Tryz.func113,Tryz.f113,seen,GStep.after,goexitEntry]
 refine QuitsD.ctl (g':={ G gl [] with status:=.finished }) rfl (λw=>?_) ⟨rfl,rfl⟩;rfl
theorem SK{fr:Frame}{cs:List Frame}(h:WEo o i fr cs A):cs=[gl]/\oL o i A/\∃v,A.cell? ⟨o.F,i,none⟩=some v/\∀w,WgLive 147 o.wg w/\Has o.F i v w->Goes Tryz.prog false (RW 147 o.wg o.F o.os.length 0 i) DC0 (AtR0 Tryz.prog 147 o.wg o.F o.os.length 0 (i+1) v) 42 (G fr [gl]) w:=by
 obtain⟨rfl,⟨T,rfl⟩,hF⟩:=h;refine⟨rfl,hF,?_⟩;obtain⟨lo,v,h1,h2,h3⟩:=hF;refine⟨v,h2,λw hK=>?_⟩
 have kr:∀{w w1:World},WgLive 147 o.wg w/\Has o.F i v w->RW 147 o.wg o.F o.os.length 0 i w w1->WgLive 147 o.wg w1/\Has o.F i v w1:=λh r=>⟨r.live h.1,r.cell.trans h.2⟩
 refine Goes.step (n:=41) rfl λw1 r1=>?_
 have hK1:=kr hK r1;have e1:stepG Tryz.prog false (G (b39.atR ⟨T,[dcall 114 #[P_ o.wg]]⟩ []) [gl]) w1=.go (G { b39.at ⟨T,[dcall 114 #[P_ o.wg]]⟩ [] with mode:=.returning } [gl]) w1 #[]:=stepG_end (b:=b39);rw[e1];refine⟨⟨rfl,rfl⟩,Goes.step (n:=40) rfl λw2 r2=>?_⟩;have hK2:=kr hK1 r2;have e2:=stepG_unwind_enter (P:=Tryz.prog) (main:=false) (b:=b39) (a:=⟨T,[dcall 114 #[P_ o.wg]]⟩) (cs:=[gl]) (w:=w2) (todo:=[]) (ds:=[]) (f:=114) (fn:=doneFn link) (args:=#[P_ o.wg]) (c:=body_done link) rfl qU.f_done (nm_done link) rfl;rw[e2];refine⟨⟨rfl,rfl⟩,?_⟩;have hd:=Sr (C:=o.F) (n:=o.os.length) (Low:=0) (k:=i+1) (val:=v) (L:=link) (Wg:=o.wg) qU (c:={ b39.at ⟨T,[]⟩ [] with mode:=.returning }) (cs:=[gl]) rfl (SJ T) w2 hK2;exact hd
end
end Go.Proofs.Tw
namespace Go.Proofs.Tw
open Go Go.Fi Go.Fc Go.Conc Go.RowKit Go.ConcR.Gen Go.Conc.Lib
open Go.ConcN (PayAt Has RW WgLive AtR0)
open Go.ConcN.Gen (AnchWN)
open Go.ConcR (DC0)
theorem Gv{s:GStep}{g0:Goroutine}{w0:World}{e0:Array Event}(h:s.goes λg w es=>g=g0/\w=w0/\es=e0):s=.go g0 w0 e0:=by
 cases s<;>simp only[GStep.goes] at h<;>first|exact h.elim|simp_all
noncomputable def xX(o:OD):Frame:=(base link.add).at ⟨#[P_ o.wg,.int .i64 1]++Array.replicate 115 undef,[]⟩ [.code (body_add link)]
noncomputable def xY(o:OD):Frame:=(base link.wait).at ⟨#[P_ o.wg]++Array.replicate 83 undef,[]⟩ [.code (body_wait link)]
theorem SL(x y:Value):#[x,y]++Array.replicate 115 undef=#[x,y,undef,undef,undef,undef,undef,undef,undef,undef,undef,undef,undef,undef,undef,undef,undef,undef,undef,undef,undef,undef,undef,undef,undef,undef,undef,undef,undef,undef,undef,undef,undef,undef,undef,undef,undef,undef,undef,undef,undef,undef,undef,undef,undef,undef,undef,undef,undef,undef,undef,undef,undef,undef,undef,undef,undef,undef,undef,undef,undef,undef,undef,undef,undef,undef,undef,undef,undef,undef,undef,undef,undef,undef,undef,undef,undef,undef,undef,undef,undef,undef,undef,undef,undef,undef,undef,undef,undef,undef,undef,undef,undef,undef,undef,undef,undef,undef,undef,undef,undef,undef,undef,undef,undef,undef,undef,undef,undef,undef,undef,undef,undef,undef,undef,undef,undef]:=aj
theorem SN(x:Value):#[x]++Array.replicate 83 undef=#[x,undef,undef,undef,undef,undef,undef,undef,undef,undef,undef,undef,undef,undef,undef,undef,undef,undef,undef,undef,undef,undef,undef,undef,undef,undef,undef,undef,undef,undef,undef,undef,undef,undef,undef,undef,undef,undef,undef,undef,undef,undef,undef,undef,undef,undef,undef,undef,undef,undef,undef,undef,undef,undef,undef,undef,undef,undef,undef,undef,undef,undef,undef,undef,undef,undef,undef,undef,undef,undef,undef,undef,undef,undef,undef,undef,undef,undef,undef,undef,undef,undef,undef,undef]:=aj
noncomputable def scr(o:OD)(base:List Frame):Script where
 base:=base
 csW:=[gl]
 K7:=42
 NK:=10
 I1:=I1o o
 I2:=I2o o
 I3:=I3o o
 WE:=WEo o
 Fin:=oL o
 CS fr:=G (xX o) (fr::base)
 CU fr:=G (xY o) (fr::base)
 jj fr:=AnchWN link (λ_=>True) o.wg fr base
 child _ fr:=born Tryz.prog (call39 (sT fr))
 frW _ fr:=pO (sT fr)
noncomputable def phd(o:OD)(e0:Nat)(dead:Nat->Prop):PhD:={ ty:=147,Wg:=o.wg,F:=o.F,n:=o.os.length,lo0:=o.lo0,e0:=e0,dead:=dead,v0:=.slice none 0 0 }
section
variable{o:OD}{j:Nat}{fr:Frame}{A:World}{base:List Frame}
theorem NW(h:I1o o j fr A)(B:World):stepG Tryz.prog true (G fr base) B=.go (G (xX o) (fr::base)) B #[]:=by
 obtain⟨a,ib,ob,rfl,hS,_⟩:=h;have s7:=hS.get 7 (P_ o.wg) rfl;refine Gv ?_
 have hm:#[Operand.tmp 7,Operand.const (Value.int IntKind.i64 1)].map a.eval=#[P_ o.wg,.int .i64 1]:=by simp[Act.eval,s7]
 refine goes_call (b:=b20) (o:=Gb) (f:=112) (fn:=addFn link) (c:=body_add link) (ops:=ui) (i:=0) rfl rfl eU rfl qU.f_add (nm_add link) rfl ?_;refine⟨?_,rfl,rfl⟩;rw[hm];rfl
theorem NX(h:I3o o fr A)(B:World):stepG Tryz.prog true (G fr base) B=.go (G (xY o) (fr::base)) B #[]:=by
 obtain⟨a,rfl,hS,_⟩:=h;have s7:=hS.get 7 (P_ o.wg) rfl;refine Gv ?_
 have hm:#[Operand.tmp 7].map a.eval=#[P_ o.wg]:=by simp[Act.eval,s7]
 refine goes_call (b:=b20) (o:=Gc) (f:=115) (fn:=waitFn link) (c:=body_wait link) (ops:=qD) (i:=0) rfl rfl eU rfl qU.f_wait (nm_wait link) rfl ?_;refine⟨?_,rfl,rfl⟩;rw[hm];rfl
theorem SO(h:I1o o j fr A)(w:World)(hw:WgLive 147 o.wg w):GL Tryz.prog 147 o.wg (xU Tryz.prog 147 o.wg (G (fr.finish (.tuple #[])) base)) 60 (G (xX o) (fr::base)) w:=by
 obtain⟨a,ib,ob,rfl,hS,_⟩:=h;have:=gr (Wg:=o.wg) (Sk (L:=link) (Wg:=o.wg) (b₀:=b20) (a₀:=a) (ops₀:=ui) (i₀:=0) (rest₀:=[]) (k₀:=.code (.region 10 ou false)::.inBlock 1::.code (.region 11 lG false)::kL) (cs:=base) qU w hw);rw[<-Frame.finish_at] at this;unfold xX;rw[SL];exact this
theorem NY(h:I3o o fr A)(w:World)(hw:WgLive 147 o.wg w):GL Tryz.prog 147 o.wg (WtK Tryz.prog 147 o.wg (AnchWN link (λ_=>True) o.wg fr base)) 10 (G (xY o) (fr::base)) w:=by
 obtain⟨a,rfl,hS,_⟩:=h;unfold xY;rw[SN];exact gr (Wg:=o.wg) (sQ (L:=link) (Wg:=o.wg) (b₀:=b20) (a₀:=a) (ops₀:=qD) (i₀:=0) (rest₀:=[]) (k₀:=[.code (.seq (.region 13 o9 false) .ret)]) (cs:=base) qU w hw)
theorem NZ(a5:∃a,fr=Db a)(g:Goroutine)(w:World)(h:AnchWN link (λ_=>True) o.wg fr base g w):GL Tryz.prog 147 o.wg (Wt1 Tryz.prog 147 o.wg (G (fr.finish (.tuple #[])) base) (AnchWN link (λ_=>True) o.wg fr base)) 40 g w:=by
 obtain⟨a,rfl⟩:=a5;have:=gr (Wg:=o.wg) (Sm (L:=link) (Wg:=o.wg) (b₀:=b20) (a₀:=a) (ops₀:=qD) (i₀:=0) (rest₀:=[]) (k₀:=[.code (.seq (.region 13 o9 false) .ret)]) (cs:=base) qU g w h);rw[<-Frame.finish_at] at this;exact this
end
theorem SP:@codeOk xfW prog nL=true:=aj
theorem SQ:prog.funcs[69]?=some (gw Tryz.f69):=by rw[jC,Tryz.func69];rfl
theorem SR:prog.funcs[113]?=some (gw Tryz.f113):=by rw[jC,Tryz.func113];rfl
theorem I5:Tryz.f69.norace=false:=aj
theorem I6:Tryz.f113.norace=false:=aj
theorem N3(c:Array Value):@dh xfW prog Tryz.prog (pO c):=by
 letI:=xfW
 refine⟨λit a6=>?_,Bq,.inr ⟨.inr rfl,rfl,rfl,rfl,trivial⟩,λch=>by simp[pO,Frame.atR],⟨_,_,SR,Tryz.func113,I6,I6⟩⟩
 have:it=.code nL:=by simpa[pO,Frame.atR] using a6
 subst this;exact SP
theorem xk(f:FuncId)(args:Array Value):∃c,(Frame.enter prog f args .normal).todo=[.code c]:=⟨_,rfl⟩
theorem SS(o:OD)(base:List Frame)(hb:base≠[])(e0:Nat)(dead:Nat->Prop)(hn:o.os.length<=1000)(ha:o.zs.length<=64)(hc:o.bD.length<=1000):@gb IX xfW Tryz.prog prog (phd o e0 dead) (scr o base):=by
 letI:=xfW
 refine { Se:=hb,csN:=by simp[scr],st1:=?_,st2:=?_,st3:=?_,stW:=?_,stF:=?_,IK:=?_,add:=?_,mid:=?_,go:=?_,Sf:=?_,beg:=?_,wok:=?_,work:=?_,next:=?_,hwe:=?_,call3:=?_,sQ:=?_,IL:=?_,anch:=?_,IM:=?_,IN:=?_,IP:=?_,IQ:=?_ }
 .rintro j fr A A' ⟨a,ib,ob,h1,h2,h3,h4,h5⟩ e
  exact⟨a,ib,ob,h1,h2,h3.mv e,h4,h5.mv e⟩
 .rintro j fr A A' ⟨a,ib,ob,h1,h2,h3,h4,h5⟩ e
  exact⟨a,ib,ob,h1,h2,h3.mv e,h4,h5.mv e⟩
 .rintro fr A A' ⟨a,h1,h2,h3⟩ e
  exact⟨a,h1,h2,h3.mv e⟩
 .rintro i fr cs A A' ⟨h1,h2,h3⟩ e
  exact⟨h1,h2,h3.mv e⟩
 .intro i A A' h e;exact oL.mv h e
 .intro j fr A h B;exact NW h B
 .intro j fr A h w hw;exact⟨60,SO h w hw⟩
 .intro j fr A h hj lo;exact⟨4,SG h⟩
 .rintro j fr A ⟨a,ib,ob,rfl,hS,_⟩ B
  have:=SH (cs:=base) hS B;rw[<-Br hS] at this;exact this
 .intro j fr;rfl
 .rintro j fr A ⟨a,ib,ob,rfl,hS,_⟩ w
  refine⟨6,?_⟩;exact SI (sT (pN a)) (by rw[Br hS];rfl) w
 .intro j fr A _;exact N3 _
 .intro j fr A h Aw h1 h2 h3 h4;exact NV ha hc h Aw h1 h2 h3 h4
 .intro j fr A h hj lo a9 h';exact⟨37,NR hn a9 h' h⟩
 .intro i fr cs A h;exact SK h
 .intro fr A h B;exact NX h B
 .intro fr A h w hw;exact NY h w hw
 .rintro fr g w ⟨T,rfl,_⟩;rfl
 .rintro fr A g w ⟨a,rfl,_⟩ h;exact⟨40,NZ ⟨a,rfl⟩ g w h⟩
 .rintro j fr A f args ⟨a,ib,ob,rfl,_⟩ e
  obtain⟨c,hc⟩:=xk f args;rw[<-e] at hc;cases hc
 .rintro j fr A f args ⟨a,ib,ob,rfl,_⟩ e
  obtain⟨c,hc⟩:=xk f args;rw[<-e] at hc;cases hc
 .rintro fr A f args ⟨a,rfl,_⟩ e
  obtain⟨c,hc⟩:=xk f args;rw[<-e] at hc;cases hc
 .rintro i fr cs A f args ⟨_,⟨T,rfl⟩,_⟩ e
  obtain⟨c,hc⟩:=xk f args;rw[<-e] at hc;cases hc
end Go.Proofs.Tw
