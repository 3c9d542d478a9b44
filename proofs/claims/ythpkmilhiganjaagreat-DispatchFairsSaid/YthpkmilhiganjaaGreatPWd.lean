/- Lemmas. -/
import Derived.Test.YthpkmilhiganjaaGreatPWc
import Derived.Test.YthpkmilhiganjaaGreatPWl
import Derived.Test.YthpkmilhiganjaaGreatPNc
import Derived.Test.YthpkmilhiganjaaGreatPNd
set_option linter.all false
set_option maxHeartbeats 32000000
set_option maxRecDepth 100000
namespace Go.Proofs.Tw
open Go Go.Fi Go.Fc Go.Conc
@[reducible] def xfW:Xf:={ xf:=λ_=>False,bot:=λf=>f=69\/f=113,ds:=λ_ _=>True,rng:=false }
instance Iy:ConcR.Payload:=⟨136⟩
def xy(f:Nat):Prop:=keep f=false/\∃fn,Tryz.prog.funcs[f]?=some fn
theorem jL(f:Nat):prog.funcs[f]?=(Tryz.prog.funcs[f]?).map λfn=>if keep f then fn else g7 fn:=by
 unfold prog;simp
theorem Sb:@codeOk xfW prog (Tryz.f107.body.getD .skip)=true:=aj
theorem Sc:@codeOk xfW prog (Tryz.f133.body.getD .skip)=true:=aj
theorem Sd:Tryz.f107.body=some (Tryz.f107.body.getD .skip):=aj
theorem Se:Tryz.f133.body=some (Tryz.f133.body.getD .skip):=aj
theorem Sf:(Tryz.f107.name == "runtime.NumGoroutine")=false:=aj
theorem Sg:(Tryz.f133.name == "runtime.NumGoroutine")=false:=aj
theorem Sj:Tryz.f107.norace=false:=aj
theorem Sk:Tryz.f133.norace=false:=aj
theorem Sm:prog.inits.idxOf? 107=none:=aj
theorem Sn:prog.inits.idxOf? 133=none:=aj
theorem Iz:@j7 prog Tryz.prog (@Cc xfW prog Tryz.prog) xy:=by
 letI:=xfW
 refine⟨⟨⟨Tryz.prog.funcs,rfl⟩⟩,λf=>?_⟩
 rcases hx:Tryz.prog.funcs[f]? with _|fn
 .exact .inl ⟨by rw[jL,hx];rfl,rfl⟩
 .by_cases hk:keep f=true
  .have:f=107\/f=133:=by simpa[keep] using hk
   rcases this with rfl|rfl
   .refine .inr (.inr (.inr ⟨Tryz.f107,_,func107,by rw[<-hx];rfl,Sf,Sd,Sb,⟨Tryz.f107,func107,Tryz.func107,Sj⟩,Sm⟩))
   .refine .inr (.inr (.inr ⟨Tryz.f133,_,func133,by rw[<-hx];rfl,Sg,Se,Sc,⟨Tryz.f133,func133,Tryz.func133,Sk⟩,Sn⟩))
  .have hk:keep f=false:=ak
   refine .inr (.inr (.inl ⟨⟨hk,fn,hx⟩,g7 fn,.refuse "known by its contract alone",?_,rfl,rfl⟩));rw[jL,hx];simp[hk]
theorem tN{f:Nat}(h:xy f)(args:Array Value)(cs:List Frame)(w:World)(g':Goroutine)(w':World)(es:Array Event):stepG prog true (G (Frame.enter prog f args .normal) cs) w≠.go g' w' es:=by
 obtain⟨hk,fn,hx⟩:=h
 have hf:prog.funcs[f]?=some (g7 fn):=by rw[jL,hx];simp[hk]
 have:Frame.enter prog f args .normal = { fn:=f,tmps:=args++Array.replicate ((g7 fn).ntmps-args.size) undef,todo:=[.code (.refuse "known by its contract alone")],defers:=[],mode:=.run,kind:=.normal }:=by
  simp[Frame.enter,hf,g7]
 rw[this];simp[G,stepG,stepG.exec]
theorem IA:∃c,Tryz.f69.body=some c/\c≠.refuse "known by its contract alone" := ⟨_,rfl,ae⟩
theorem FE{f:Nat}(h:xfW.bot f):¬(@Cc xfW prog Tryz.prog).fn f:=by
 rintro⟨⟨fn,h1,h2,_⟩,_⟩
 have hk:keep f=false:=by rcases h with rfl|rfl<;>rfl
 rw[jL,h2] at h1;simp[hk] at h1
 have hb:fn.body=some (.refuse "known by its contract alone"):=by rw[<-h1];rfl
 rcases h with rfl|rfl
 .rw[Tryz.func69] at h2;cases h2;obtain⟨c,h3,h4⟩:=IA;rw[h3] at hb;simp_all
 .rw[Tryz.func113] at h2;cases h2
  have:Tryz.f113.body≠some (.refuse "known by its contract alone"):=by intro h;cases h
  exact this hb
theorem So(l F k:Nat):@lI xfW (cO l F k) prog Tryz.prog xy:=by
 letI:=cO l F k
 letI:=xfW
 exact⟨Iz,λf h=>h,λf hb args cs w g' w' es=>tN hb args cs w g' w' es,λw t d=>⟨rfl,rfl,bU _,λ_ _=>rfl⟩,λf h=>FE h⟩
end Go.Proofs.Tw
namespace Go.Proofs.Tw
open Go Go.Fi Go.Fc Go.Conc Go.RowKit
structure OD where
 rb:Nat
 xv:Nat
 xb:Nat
 wg:Nat
 F:Nat
 lo0:Nat
 ca:Option Addr
 j6:Nat
 bD:List (ByteArray×Int×Bool)
 oa:Option Addr
 cX:Nat
 os:List (ByteArray×Int×Bool×Int)
 fa:Option Addr
 ng:Nat
 zs:List (Int×Int)
structure g9(o:OD)(w:World):Prop where
 size:o.lo0<=w.heap.size
 low:o.F<o.lo0/\o.rb<o.lo0/\o.xv<o.lo0/\o.xb<o.lo0
 apart:o.rb≠o.F/\o.xv≠o.F/\o.xb≠o.F
 rW:w.cell? ⟨o.rb,0,none⟩=some (.slice o.ca o.bD.length o.j6)
 Cp:w.cell? ⟨o.rb,1,none⟩=some (.slice o.oa o.os.length o.cX)
 qz:w.cell? ⟨o.rb,3,none⟩=some (.slice o.fa o.zs.length o.ng)
 xvc:w.cell? ⟨o.xv,0,none⟩=some (.pointer (some ⟨o.xb,0,none⟩))
 om:w.cell? ⟨o.xb,4,none⟩=some (.slice (some ⟨o.F,0,none⟩) o.os.length o.os.length)
 bD:rV o.F o.lo0 w o.ca o.bD
 lE:lD o.F w o.fa o.zs
 qA:∀j,j<o.zs.length->∀ad,o.fa=some ad->ad.block<o.lo0
 IB:nj o.F w o.oa o.os
 ID:∀j,j<o.os.length->∀ad,o.oa=some ad->ad.block<o.lo0
theorem nj.low{F lo:Nat}{w w1:World}{a0:Option Addr}{os:List (ByteArray×Int×Bool×Int)}(h:nj F w a0 os)(h':∀j,j<os.length->∀ad,a0=some ad->ad.block<lo)(e:Bel lo w w1):nj F w1 a0 os:=
 λj hj=>let ⟨b,off,h1,h2,h3,h4,h5,h6⟩:=h j hj
  have hb:b<lo:=h' j hj _ h1
  ⟨b,off,h1,h2,(e.cell (p:=⟨b,_,none⟩) hb).trans h3,(e.cell (p:=⟨b,_,none⟩) hb).trans h4,(e.cell (p:=⟨b,_,none⟩) hb).trans h5,(e.cell (p:=⟨b,_,none⟩) hb).trans h6⟩
theorem g9.bel{o:OD}{w w1:World}(h:g9 o w)(e:Bel o.lo0 w w1):g9 o w1:=by
 have c:∀{b k:Nat}{v:Value},b<o.lo0->w.cell? ⟨b,k,none⟩=some v->w1.cell? ⟨b,k,none⟩=some v:=λhb hv=>(e.cell (p:=⟨_,_,none⟩) hb).trans hv
 obtain⟨l1,l2,l3,l4⟩:=h.low;exact⟨dN h.size e.size,h.low,h.apart,c l2 h.rW,c l2 h.Cp,c l2 h.qz,c l3 h.xvc,c l4 h.om,h.bD.bel e,h.lE.low h.qA e,h.qA,h.IB.low h.ID e,h.ID⟩
theorem g9.mv{o:OD}{w w1:World}(h:g9 o w)(e:Bel w.heap.size w w1):g9 o w1:=h.bel (e.mono h.size)
abbrev cW:Code:=.seq (.region 12 qb false) (.seq (.region 13 oO false) .ret)
abbrev c8:Code:=.seq (.region 8 lW false) (.seq (.region 9 tG false) (.region 10 nN false))
abbrev cLB:Code:=.seq (.region 7 wi false) (.seq (.cond (.tmp 29) .skip (.exit 0)) (.seq (.block 1 c8) (.region 11 k8 false)))
def kL:List Item:=[.inLoop cLB,.inBlock 0,.code cW]
def b20:Frame:={ (default:Frame) with fn:=69,kind:=.normal,roundOf:=none }
theorem ew:b20.kind≠.early:=aE
def fr9(a:Act):Frame:=b20.atR a (.inRegion tG [0]::.code (.region 10 nN false)::.inBlock 1::.code (.region 11 k8 false)::kL)
def pz(a:Act):Frame:=b20.atR a (.inRegion nN [1]::.inBlock 1::.code (.region 11 k8 false)::kL)
def Cq(a:Act):Frame:=b20.atR a [.inRegion qb [0],.code (.seq (.region 13 oO false) .ret)]
def P_(b:Nat):Value:=.pointer (some ⟨b,0,none⟩)
def sa(o:OD)(j ib ob:Nat)(w:World):Prop:=
 o.lo0<=ib/\o.lo0<=ob/\ib≠ob/\w.heap[ib]?=some (.cells #[.int .i64 j] 3)/\w.heap[ob]?=some (.cells #[.string (o.os.getD j (default,0,false,0)).1,.int .i64 (o.os.getD j (default,0,false,0)).2.1,.bool (o.os.getD j (default,0,false,0)).2.2.1,.int .i64 (o.os.getD j (default,0,false,0)).2.2.2] 91)
theorem sa.mv{o:OD}{j ib ob:Nat}{w w1:World}(h:sa o j ib ob w)(e:Bel w.heap.size w w1):sa o j ib ob w1:=
 ⟨h.1,h.2.1,h.2.2.1,(e.block _ (cT.1 h.2.2.2.1).1).trans h.2.2.2.1,(e.block _ (cT.1 h.2.2.2.2).1).trans h.2.2.2.2⟩
abbrev S9(o:OD)(j ib ob:Nat):Nat->Option Value:=ups (ups (S20 o.wg o.rb o.xv o.oa o.cX o.os.length j) 8 (P_ ib)) 9 (P_ ob)
def bT(o:OD)(ib ob:Nat):Array Value:=#[P_ o.wg,P_ o.rb,P_ o.xv,P_ ib,P_ ob]
def I1o(o:OD)(j:Nat)(fr:Frame)(w:World):Prop:=∃a ib ob,fr=fr9 a/\SlS (S9 o j ib ob) a/\g9 o w/\j<o.os.length/\sa o j ib ob w
def I2o(o:OD)(j:Nat)(fr:Frame)(w:World):Prop:=∃a ib ob,fr=pz a/\SlS (ups (S9 o j ib ob) 34 (.func (.func 113) #[] (bT o ib ob))) a/\g9 o w/\j<o.os.length/\sa o j ib ob w
def I3o(o:OD)(fr:Frame)(w:World):Prop:=∃a,fr=Cq a/\SlS (S20 o.wg o.rb o.xv o.oa o.cX o.os.length o.os.length) a/\g9 o w
section
variable{o:OD}{j:Nat}{fr:Frame}{w:World}{cs:List Frame}{lo:Nat}
theorem Sq(h:I1o o j fr w):@TN (cO lo o.F o.os.length) prog cs.length cs.length (λfr' cs' w'=>cs'=cs/\I2o o j fr' w') 4 (fr.finish (.tuple #[])) cs w:=by
 letI:=cO lo o.F o.os.length
 obtain⟨a,ib,ob,rfl,hS,hK,hj,hB⟩:=h
 have e1:(fr9 a).finish (.tuple #[])=b20.atR (a.put (some 33) (.tuple #[])) (.inRegion tG []::.code (.region 10 nN false)::.inBlock 1::.code (.region 11 k8 false)::kL):=by
  rfl
 rw[e1];have hS1:=hS.put (t:=33) af (.tuple #[]);generalize a.put (some 33) (.tuple #[])=a1 at hS1;refine mY (bU _) (lX (bU _) ?_);show TN prog cs.length cs.length _ 2 (b20.atR a1 (.inRegion nN [0,1]::_)) cs w;have s7:=hS1.get 7 (P_ o.wg) rfl;have s1:=hS1.get 1 (P_ o.rb) rfl;have s6:=hS1.get 6 (P_ o.xv) rfl;have s8:=hS1.get 8 (P_ ib) rfl;have s9:=hS1.get 9 (P_ ob) rfl
 refine nz (o:=Ab) rfl rfl ae ew (bU _) λw1 e=>⟨λf ev a4=>?_,?_⟩
 .have hm:=mem_listed a4;simp[go_sem] at hm
 .have hr:(execOp a1.eval Ab).run prog w1=.ok (.value (.func (.func 113) #[] (bT o ib ob))) w1:=by
   simp[go_sem,s7,s1,s6,s8,s9,bT]
  rw[hr];refine .now ⟨rfl,a1.put (some 34) (.func (.func 113) #[] (bT o ib ob)),ib,ob,rfl,?_,hK.mv e,hj,hB.mv e⟩;have hS2:=hS1.put (t:=34) af (.func (.func 113) #[] (bT o ib ob));refine⟨hS2.size,hS2.defers,λt v ht=>hS2.get t v ?_⟩;unfold ups at ht ⊢;by_cases e34:t=34
  .simp_all
  .by_cases e33:t=33
   .subst e33;cases ht
   simp_all
theorem FH{a:Act}(hn:o.os.length<=1000)(hj:j<=o.os.length)(h':o.lo0<=lo)(h9:lo<=w.heap.size)(hS:SlS (S20 o.wg o.rb o.xv o.oa o.cX o.os.length j) a)(hK:g9 o w):@TN (cO lo o.F o.os.length) prog cs.length cs.length (λfr' cs' w'=>cs'=cs/\if j<o.os.length then I1o o j fr' w' else I3o o fr' w') 30 (b20.atR a (.code cLB::kL)) cs w:=by
 letI:=cO lo o.F o.os.length
 have hFlo:o.F<lo:=lO hK.low.1 h';refine im (N:=29) (bU _) ?_
 let Q1:Exit->Act->World->Prop:=λe a w=>e=.normal/\SlS (S20 o.wg o.rb o.xv o.oa o.cX o.os.length j) a/\a.tmps[29]?.getD undef=.bool (decide (j<o.os.length))/\g9 o w/\lo<=w.heap.size
 refine wJ (N:=26) (M:=3) (Q:=Q1) (Ll (F:=o.F) (lo:=lo) (k:=o.os.length) hn hj hS (λw=>g9 o w/\lo<=w.heap.size) (λw w1 h e=>⟨h.1.mv e,dN h.2 e.size⟩) ⟨hK,h9⟩ (λa w h1 h2 h3=>⟨rfl,h1,h2,h3.1,h3.2⟩)) ew (λe a w h=>h.1) λa w hq=>?_
 obtain⟨_,hS,hi,hK,h9⟩:=hq;refine im (bU _) (AJ (t:=decide (j<o.os.length)) (bU _) (by simp[Act.eval,hi]) ?_);by_cases hh:j<o.os.length
 .simp only[hh,decide_true,cz];refine FF (bU _) (im (bU _) (FG (bU _) (im (bU _) ?_)))
  let Q2:Exit->Act->World->Prop:=λe a w=>e=.normal/\∃ib ob,SlS (S9 o j ib ob) a/\g9 o w/\sa o j ib ob w
  refine wJ (N:=11) (M:=9) (Q:=Q2) (Ln (F:=o.F) (lo:=lo) (k:=o.os.length) hFlo rfl hh hS h9 (g9 o) (λw w1 h e=>h.mv e) (λw w1 h _ e=>h.bel (e.mono h')) hK hK.IB (λa w ib ob h1 h2 h3 h4 h5 h6 h7 h8=>⟨rfl,ib,ob,h1,h2,dN h' h4,dN h' h5,h6,h7,h8⟩)) ew (λe a w h=>h.1) λa w hq=>?_
  obtain⟨_,ib,ob,hS,hK,hB⟩:=hq;refine im (bU _) (lX (bU _) (.now ⟨rfl,?_⟩));exact⟨a,ib,ob,rfl,hS,hK,hh,hB⟩
 .simp only[hh,decide_false,dB,cP];refine Nl (k':=[.code cW]) (bU _) rfl (im (bU _) (lX (bU _) (.now ⟨rfl,?_⟩)))
  have:j=o.os.length:=ab
  subst this;exact⟨a,rfl,hS,hK⟩
theorem Nm(hn:o.os.length<=1000)(h':o.lo0<=lo)(h9:lo<=w.heap.size)(h:I2o o j fr w):@TN (cO lo o.F o.os.length) prog cs.length cs.length (λfr' cs' w'=>cs'=cs/\if j+1<o.os.length then I1o o (j+1) fr' w' else I3o o fr' w') 37 (fr.finish undef) cs w:=by
 letI:=cO lo o.F o.os.length
 obtain⟨a,ib,ob,rfl,hS,hK,hj,hB⟩:=h
 have e1:(pz a).finish undef=b20.atR a (.inRegion nN []::.inBlock 1::.code (.region 11 k8 false)::kL):=by
  rfl
 rw[e1]
 have hS0:SlS (S20 o.wg o.rb o.xv o.oa o.cX o.os.length j) a:=⟨hS.size,hS.defers,λt v ht=>hS.get t v (by
  unfold ups;by_cases e34:t=34
  .subst e34;cases ht
  .by_cases e9:t=9
   .subst e9;cases ht
   .by_cases e8:t=8
    .subst e8;cases ht
    grind)⟩
 refine mY (bU _) (Ni (bU _) ?_)
 let Q1:Exit->Act->World->Prop:=λe a w=>e=.normal/\SlS (S20 o.wg o.rb o.xv o.oa o.cX o.os.length (j+1)) a/\g9 o w/\lo<=w.heap.size
 refine wJ (N:=31) (M:=4) (Q:=Q1) (Lm (F:=o.F) (lo:=lo) (k:=o.os.length) hn ab hS0 (λw=>g9 o w/\lo<=w.heap.size) (λw w1 h e=>⟨h.1.mv e,dN h.2 e.size⟩) ⟨hK,h9⟩ (λa w h1 h3=>⟨rfl,h1,h3.1,h3.2⟩)) ew (λe a w h=>h.1) λa w hq=>?_
 obtain⟨_,hS,hK,h9⟩:=hq;exact Nk (bU _) (FH hn ab h' h9 hS hK)
end
end Go.Proofs.Tw
namespace Go.Proofs.Tw
open Go Go.Fi Go.Fc Go.Conc Go.RowKit Go.ConcR.Gen Go.Conc.Lib
open Go.ConcN (PayAt Has RW WgLive AtR0)
open Go.ConcR (DC0)
abbrev FI:Oper:=⟨none,(.defer ⟨(.value (.func 114)),#[(.tmp 0)],#[147]⟩),0, "dispatch.go:120",#[],none⟩
abbrev wK:Array Oper:=#[FI]
theorem No:Tryz.f113.body=some (.seq (.region 0 wK false) nh):=rfl
noncomputable def b39:Frame:={ (default:Frame) with fn:=113,kind:=.deferred,roundOf:=none }
theorem AK:b39.kind≠.early:=aE
noncomputable def gi:Frame:={ (default:Frame) with fn:=Tryz.prog.funcs.size,defers:=[],mode:=.panicking [goexitEntry] }
noncomputable def Cr:Nat->Array Value:=λn=>Array.replicate n undef
noncomputable def jM(c:Array Value):Array Value:=c++Cr 49
noncomputable def call39(c:Array Value):Deferred:={ target:=.fn (.func 113) c,args:=#[] }
noncomputable def pA(c:Array Value):Frame:=b39.atR ⟨jM c,[dcall 114 #[c.getD 0 undef]]⟩ [.code nh]
noncomputable def sb(fr:Frame):Array Value:=match fr.tmps.getD 34 undef with | .func _ _ c=>c|_=>#[]
section
variable{o:OD}{j ib ob:Nat}{a:Act}{cs:List Frame}
theorem Sr(hS:SlS (ups (S9 o j ib ob) 34 (.func (.func 113) #[] (bT o ib ob))) a)(B:World):stepG Tryz.prog true (G (pz a) cs) B=.spawn (G ((pz a).finish undef) cs) (born Tryz.prog (call39 (bT o ib ob))) B #[]:=by
 have s34:=hS.get 34 _ rfl
 have hr:(execOp a.eval rj).run Tryz.prog B=.ok (.spawn (call39 (bT o ib ob))) B:=by
  unfold execOp;simp[resolve,Deferred.ofValue,Act.eval,s34,call39]
 have he:∀es,(execOp a.eval rj).events Tryz.prog B es=es:=by
  intro es;unfold execOp;simp[resolve,Deferred.ofValue,Act.eval,s34,call39]
 have e1:(pz a).finish undef=b20.at (a.put rj.dst undef) (.inRegion nN []::.inBlock 1::.code (.region 11 k8 false)::kL):=by
  rfl
 have hl:listed Tryz.prog b20.fn a rj B=#[]:=by unfold listed;rw[he,seen_none]
 rw[e1];show stepG Tryz.prog true (G (b20.at a (.inRegion nN (1::[])::.inBlock 1::.code (.region 11 k8 false)::kL)) cs) B=_;rw[stepG_spawn (o:=rj) rfl rfl ew hr rfl,hl]
theorem Np(c:Array Value)(hc:c.size=5)(w:World):stepG Tryz.prog false (born Tryz.prog (call39 c)) w=.go (G (b39.atR ⟨jM c,[]⟩ [.code (.seq (.region 0 wK false) nh)]) [gi]) w #[]:=by
 have hb:Tryz.f113.body=some (.seq (.region 0 wK false) nh):=No;have hn:Tryz.f113.ntmps=54:=rfl
 have hg:(Tryz.f113.name == "runtime.NumGoroutine")=false:=aj
 have h1:¬Tryz.f113.name = "runtime.NumGoroutine" := by trivial
 simp[born,call39,stepG,unwind,callDeferred,invoke,callFunc,Tryz.func113,h1,hb,seen_none,GStep.after,G,Frame.enter,Frame.atR,b39,gi,jM,Cr,hc,hn]
theorem Ss(c:Array Value)(hc:c.size=5)(w:World):Goes Tryz.prog false (λ_ _=>True) DC0 (mn (G (pA c) [gi])) 6 (born Tryz.prog (call39 c)) w:=by
 have st:∀{n:Nat}{g g':Goroutine}{w:World},g.status=.running->(∀w,stepG Tryz.prog false g w=.go g' w #[])->(∀w,Goes Tryz.prog false (λ_ _=>True) DC0 (mn (G (pA c) [gi])) n g' w)->Goes Tryz.prog false (λ_ _=>True) DC0 (mn (G (pA c) [gi])) (n+1) g w:=
  λhr h k=>Goes.step hr λw1 _=>by rw[h w1];exact⟨⟨rfl,rfl⟩,k w1⟩
 refine st (n:=5) rfl (Np c hc) λw=>?_
 refine st (n:=4) rfl (λw=>stepG_seq (b:=b39)) λw=>?_
 refine st (n:=3) rfl (λw=>stepG_region (b:=b39)) λw=>?_
 refine st (n:=2) rfl (λw=>stepG_defer (b:=b39) (ops:=wK) (i:=0) (o:=FI) rfl rfl AK rfl) λw=>?_
 refine st (n:=1) rfl (λw=>stepG_region_end (b:=b39)) λw=>?_
 refine Goes.stop λw1 _=>?_
 have e:Act.eval ⟨jM c,[]⟩ (.tmp 0)=c.getD 0 undef:=by
  simp[Act.eval,jM,dC,xY,hc]
 have e2:Array.map (Act.eval ⟨jM c,[]⟩) #[Operand.tmp 0]=#[c.getD 0 undef]:=by simp[e]
 show G (b39.at ⟨jM c,[dcall 114 (Array.map (Act.eval ⟨jM c,[]⟩) #[Operand.tmp 0])]⟩ [.code nh]) [gi]=_;rw[e2];rfl
end
noncomputable def odW(o:OD)(i ib ob lo:Nat):WkD:=
 { F:=o.F,i:=i,lo:=lo,rb:=o.rb,xv:=o.xv,xb:=o.xb,ib:=ib,ob:=ob,ca:=o.ca,j6:=o.j6,bD:=o.bD,fa:=o.fa,ng:=o.ng,zs:=o.zs,n:=o.os.length,BT:=o.os.length,uA:=(o.os.getD i (default,0,false,0)).2.1,oh:=(o.os.getD i (default,0,false,0)).2.2.1 }
noncomputable def IE(o:OD)(i:Nat):List Bool:=lG (odW o i 0 0 0) o.bD.length
def oA(o:OD)(i:Nat)(A:World):Prop:=∃lo v,o.lo0<=lo/\A.cell? ⟨o.F,i,none⟩=some v/\g8 (odW o i 0 0 lo) A v (IE o i)
theorem oA.mv{o:OD}{i:Nat}{A A':World}(h:oA o i A)(e:Bel A.heap.size A A'):oA o i A':=
 let ⟨lo,v,h1,h2,h3⟩:=h;⟨lo,v,h1,e.cellAt h2,h3.mv e⟩
def WEo(o:OD)(i:Nat)(fr:Frame)(cs:List Frame)(A:World):Prop:=cs=[gi]/\(∃T,fr=b39.atR ⟨T,[dcall 114 #[P_ o.wg]]⟩ [])/\oA o i A
section
variable{o:OD}{i j ib ob:Nat}{A:World}
theorem AL{a:Act}(hS:SlS (ups (S9 o j ib ob) 34 (.func (.func 113) #[] (bT o ib ob))) a):sb (pz a)=bT o ib ob:=by
 have s34:=hS.get 34 _ rfl
 have:(pz a).tmps.getD 34 undef=.func (.func 113) #[] (bT o ib ob):=by
  rw[dC];exact s34
 unfold sb;rw[this]
theorem ga{w:World}{b k:Nat}{c:Array Value}{e:TypeId}{f:Nat×Nat}{v:Value}(h:w.heap[b]?=some (.cells c e f))(hv:c[k]?=some v):w.cell? ⟨b,k,none⟩=some v:=by
 unfold World.cell?;rw[h];exact hv
theorem Nq(t:Nat)(ht:t<5)(v:Value)(lo:Nat)(hv:S0 (odW o j ib ob lo) o.wg 0 t=some v):(jM (bT o ib ob))[t]?.getD undef=v:=by
 have e:(jM (bT o ib ob))[t]?=(bT o ib ob)[t]?:=by
  unfold jM;rw[sY aE]
 rw[e];clear e
 obtain rfl|rfl|rfl|rfl|rfl:t=0\/t=1\/t=2\/t=3\/t=4:=by omega
 all_goals
  simp only[S0,odW,cV] at hv;subst hv;simp[bT,P_]
theorem Nr{fr:Frame}(ha:o.zs.length<=64)(hy:o.bD.length<=1000)(h:I2o o j fr A)(Aw:World)(ht:∀(a:Addr) v,a.block≠o.F->A.cell? a=some v->Aw.cell? a=some v)(aw:Aw.heap.size=A.heap.size)(hp:PayAt o.F o.os.length Aw)(hv:Aw.cell? ⟨o.F,j,none⟩=some (.slice none 0 0)):∃N,@TN (cO Aw.heap.size o.F j) prog [gi].length [gi].length (WEo o j) N (pA (sb fr)) [gi] Aw:=by
 obtain⟨a,ib,ob,rfl,hS,hK,hj,hB1,hB2,ao,hB3,hB4⟩:=h;rw[AL hS];obtain⟨l1,l2,l3,l4⟩:=hK.low;obtain⟨a1,a2,a3⟩:=hK.apart;have hs:=hK.size;have ag:=(cT.1 hB3).1;have aq:=(cT.1 hB4).1;obtain⟨cF,hF,hn⟩:=hp
 let d:=odW o j ib ob Aw.heap.size
 have hW:WkW d Aw:=by
  refine⟨bU _,⟨?_,?_,?_,?_,?_,?_⟩,⟨a1,a2,a3,?_,?_⟩,ht _ _ a1 hK.rW,ht _ _ a1 hK.qz,ht _ _ a2 hK.xvc,ht _ _ a3 hK.om,ht _ _ ?_ (ga hB3 (by rfl)),ht _ _ ?_ (ga hB4 (by rfl)),ht _ _ ?_ (ga hB4 (by rfl)),λk hk=>?_,λk hk=>?_,λk hk ad ho=>?_⟩
  .show o.F<Aw.heap.size;omega
  .show o.rb<Aw.heap.size;omega
  .show o.xv<Aw.heap.size;omega
  .show o.xb<Aw.heap.size;omega
  .show ib<Aw.heap.size;omega
  .show ob<Aw.heap.size;omega
  .show ib≠o.F;omega
  .show ob≠o.F;omega
  .show ib≠o.F;omega
  .show ob≠o.F;omega
  .show ob≠o.F;omega
  .obtain⟨b,off,x1,x2,x3,x4,x5,x6⟩:=hK.bD k hk;exact⟨b,off,x1,x2,by show b<Aw.heap.size;omega,ht _ _ x2 x4,ht _ _ x2 x5,ht _ _ x2 x6⟩
  .obtain⟨b,off,x1,x2,x3,x4⟩:=hK.lE k hk;exact⟨b,off,x1,x2,ht _ _ x2 x3,ht _ _ x2 x4⟩
  .have:=hK.qA k hk ad ho;show ad.block<Aw.heap.size;omega
 have hFC:iQ d Aw (.slice none 0 0):=by
  refine⟨cF,hF,?_,?_⟩
  .show j<cF.size;omega
  .unfold World.cell? at hv;rw[hF] at hv;exact hv
 obtain⟨N0,aa⟩:∃N0,@Code.wpN (cO Aw.heap.size o.F j) none prog nh N0 (λe a w=>e=.normal/\a.defers=[dcall 114 #[P_ o.wg]]/\oA o j w) ⟨jM (bT o ib ob),[dcall 114 #[P_ o.wg]]⟩ Aw:=⟨_,@Lh d o.wg [dcall 114 #[P_ o.wg]] none (λe a w=>e=.normal/\a.defers=[dcall 114 #[P_ o.wg]]/\oA o j w) ha hy hj ⟨jM (bT o ib ob),[dcall 114 #[P_ o.wg]]⟩ Aw (by simp[jM,Cr,bT]) rfl (λt ht v hv=>Nq t ht v _ hv) hW hFC (λa w h1 h2 ⟨v,h3,h4⟩=>⟨rfl,h1,Aw.heap.size,v,ab,h3.cell,h4⟩)⟩;refine⟨N0,?_⟩
 letI:=cO Aw.heap.size o.F j
 refine TN.mono (aa b39 [] [gi] rfl AK) ?_
 rintro fr cs w ⟨rfl,e,a',⟨rfl,h2,h3⟩,rfl⟩
 refine⟨rfl,⟨a'.tmps,?_⟩,h3⟩;show b39.atR a' []=_;rw[<-h2]
theorem Su(T:Array Value):QuitsD Tryz.prog 2 0 (G { b39.at ⟨T,[]⟩ [] with mode:=.returning } [gi]):=by
 refine QuitsD.ctl (g':=G gi []) rfl (λw=>?_) ?_
 .simp[G,stepG,unwind,doReturn,results,Frame.at,b39,gi,Tryz.func113,Tryz.f113,seen,GStep.after,goexitEntry]
 refine QuitsD.ctl (g':={ G gi [] with status:=.finished }) rfl (λw=>?_) ⟨rfl,rfl⟩;rfl
theorem Sv{fr:Frame}{cs:List Frame}(h:WEo o i fr cs A):cs=[gi]/\oA o i A/\∃v,A.cell? ⟨o.F,i,none⟩=some v/\∀w,WgLive 147 o.wg w/\Has o.F i v w->Goes Tryz.prog false (RW 147 o.wg o.F o.os.length 0 i) DC0 (AtR0 Tryz.prog 147 o.wg o.F o.os.length 0 (i+1) v) 42 (G fr [gi]) w:=by
 obtain⟨rfl,⟨T,rfl⟩,hF⟩:=h;refine⟨rfl,hF,?_⟩;obtain⟨lo,v,h1,h2,h3⟩:=hF;refine⟨v,h2,λw hK=>?_⟩
 have kr:∀{w w1:World},WgLive 147 o.wg w/\Has o.F i v w->RW 147 o.wg o.F o.os.length 0 i w w1->WgLive 147 o.wg w1/\Has o.F i v w1:=λh r=>⟨r.live h.1,r.cell.trans h.2⟩
 refine Goes.step (n:=41) rfl λw1 r1=>?_
 have hK1:=kr hK r1;have e1:stepG Tryz.prog false (G (b39.atR ⟨T,[dcall 114 #[P_ o.wg]]⟩ []) [gi]) w1=.go (G { b39.at ⟨T,[dcall 114 #[P_ o.wg]]⟩ [] with mode:=.returning } [gi]) w1 #[]:=stepG_end (b:=b39);rw[e1];refine⟨⟨rfl,rfl⟩,Goes.step (n:=40) rfl λw2 r2=>?_⟩;have hK2:=kr hK1 r2;have e2:=stepG_unwind_enter (P:=Tryz.prog) (main:=false) (b:=b39) (a:=⟨T,[dcall 114 #[P_ o.wg]]⟩) (cs:=[gi]) (w:=w2) (todo:=[]) (ds:=[]) (f:=114) (fn:=doneFn link) (args:=#[P_ o.wg]) (c:=body_done link) rfl qB.f_done (nm_done link) rfl;rw[e2];refine⟨⟨rfl,rfl⟩,?_⟩;have hd:=Sa (C:=o.F) (n:=o.os.length) (Low:=0) (k:=i+1) (val:=v) (L:=link) (Wg:=o.wg) qB (c:={ b39.at ⟨T,[]⟩ [] with mode:=.returning }) (cs:=[gi]) rfl (Su T) w2 hK2;exact hd
end
end Go.Proofs.Tw
namespace Go.Proofs.Tw
open Go Go.Fi Go.Fc Go.Conc Go.RowKit Go.ConcR.Gen Go.Conc.Lib
open Go.ConcN (PayAt Has RW WgLive AtR0)
open Go.ConcN.Gen (AnchWN)
open Go.ConcR (DC0)
theorem FJ{s:GStep}{g0:Goroutine}{w0:World}{e0:Array Event}(h:s.goes λg w es=>g=g0/\w=w0/\es=e0):s=.go g0 w0 e0:=by
 cases s<;>simp only[GStep.goes] at h<;>first|exact h.elim|simp_all
noncomputable def xz(o:OD):Frame:=(base link.add).at ⟨#[P_ o.wg,.int .i64 1]++Array.replicate 115 undef,[]⟩ [.code (body_add link)]
noncomputable def xA(o:OD):Frame:=(base link.wait).at ⟨#[P_ o.wg]++Array.replicate 83 undef,[]⟩ [.code (body_wait link)]
theorem Sw(x y:Value):#[x,y]++Array.replicate 115 undef=#[x,y,undef,undef,undef,undef,undef,undef,undef,undef,undef,undef,undef,undef,undef,undef,undef,undef,undef,undef,undef,undef,undef,undef,undef,undef,undef,undef,undef,undef,undef,undef,undef,undef,undef,undef,undef,undef,undef,undef,undef,undef,undef,undef,undef,undef,undef,undef,undef,undef,undef,undef,undef,undef,undef,undef,undef,undef,undef,undef,undef,undef,undef,undef,undef,undef,undef,undef,undef,undef,undef,undef,undef,undef,undef,undef,undef,undef,undef,undef,undef,undef,undef,undef,undef,undef,undef,undef,undef,undef,undef,undef,undef,undef,undef,undef,undef,undef,undef,undef,undef,undef,undef,undef,undef,undef,undef,undef,undef,undef,undef,undef,undef,undef,undef,undef,undef]:=aj
theorem Sx(x:Value):#[x]++Array.replicate 83 undef=#[x,undef,undef,undef,undef,undef,undef,undef,undef,undef,undef,undef,undef,undef,undef,undef,undef,undef,undef,undef,undef,undef,undef,undef,undef,undef,undef,undef,undef,undef,undef,undef,undef,undef,undef,undef,undef,undef,undef,undef,undef,undef,undef,undef,undef,undef,undef,undef,undef,undef,undef,undef,undef,undef,undef,undef,undef,undef,undef,undef,undef,undef,undef,undef,undef,undef,undef,undef,undef,undef,undef,undef,undef,undef,undef,undef,undef,undef,undef,undef,undef,undef,undef,undef]:=aj
noncomputable def scr(o:OD)(base:List Frame):Script where
 base:=base
 csW:=[gi]
 K7:=42
 NK:=10
 I1:=I1o o
 I2:=I2o o
 I3:=I3o o
 WE:=WEo o
 Fin:=oA o
 Cj fr:=G (xz o) (fr::base)
 Ck fr:=G (xA o) (fr::base)
 iR fr:=AnchWN link (λ_=>True) o.wg fr base
 child _ fr:=born Tryz.prog (call39 (sb fr))
 frW _ fr:=pA (sb fr)
noncomputable def phd(o:OD)(e0:Nat)(dead:Nat->Prop):PhD:={ ty:=147,Wg:=o.wg,F:=o.F,n:=o.os.length,lo0:=o.lo0,e0:=e0,dead:=dead,v0:=.slice none 0 0 }
section
variable{o:OD}{j:Nat}{fr:Frame}{A:World}{base:List Frame}
theorem Ns(h:I1o o j fr A)(B:World):stepG Tryz.prog true (G fr base) B=.go (G (xz o) (fr::base)) B #[]:=by
 obtain⟨a,ib,ob,rfl,hS,_⟩:=h;have s7:=hS.get 7 (P_ o.wg) rfl;refine FJ ?_
 have hm:#[Operand.tmp 7,Operand.const (Value.int IntKind.i64 1)].map a.eval=#[P_ o.wg,.int .i64 1]:=by simp[Act.eval,s7]
 refine goes_call (b:=b20) (o:=Ev) (f:=112) (fn:=addFn link) (c:=body_add link) (ops:=tG) (i:=0) rfl rfl ew rfl qB.f_add (nm_add link) rfl ?_;refine⟨?_,rfl,rfl⟩;rw[hm];rfl
theorem Nt(h:I3o o fr A)(B:World):stepG Tryz.prog true (G fr base) B=.go (G (xA o) (fr::base)) B #[]:=by
 obtain⟨a,rfl,hS,_⟩:=h;have s7:=hS.get 7 (P_ o.wg) rfl;refine FJ ?_
 have hm:#[Operand.tmp 7].map a.eval=#[P_ o.wg]:=by simp[Act.eval,s7]
 refine goes_call (b:=b20) (o:=Ew) (f:=115) (fn:=waitFn link) (c:=body_wait link) (ops:=qb) (i:=0) rfl rfl ew rfl qB.f_wait (nm_wait link) rfl ?_;refine⟨?_,rfl,rfl⟩;rw[hm];rfl
theorem Sy(h:I1o o j fr A)(w:World)(hw:WgLive 147 o.wg w):GL Tryz.prog 147 o.wg (xw Tryz.prog 147 o.wg (G (fr.finish (.tuple #[])) base)) 60 (G (xz o) (fr::base)) w:=by
 obtain⟨a,ib,ob,rfl,hS,_⟩:=h;have:=gn (Wg:=o.wg) (R6 (L:=link) (Wg:=o.wg) (b₀:=b20) (a₀:=a) (ops₀:=tG) (i₀:=0) (rest₀:=[]) (k₀:=.code (.region 10 nN false)::.inBlock 1::.code (.region 11 k8 false)::kL) (cs:=base) qB w hw);rw[<-Frame.finish_at] at this;unfold xz;rw[Sw];exact this
theorem Nu(h:I3o o fr A)(w:World)(hw:WgLive 147 o.wg w):GL Tryz.prog 147 o.wg (WtK Tryz.prog 147 o.wg (AnchWN link (λ_=>True) o.wg fr base)) 10 (G (xA o) (fr::base)) w:=by
 obtain⟨a,rfl,hS,_⟩:=h;unfold xA;rw[Sx];exact gn (Wg:=o.wg) (r9 (L:=link) (Wg:=o.wg) (b₀:=b20) (a₀:=a) (ops₀:=qb) (i₀:=0) (rest₀:=[]) (k₀:=[.code (.seq (.region 13 oO false) .ret)]) (cs:=base) qB w hw)
theorem Nv(a5:∃a,fr=Cq a)(g:Goroutine)(w:World)(h:AnchWN link (λ_=>True) o.wg fr base g w):GL Tryz.prog 147 o.wg (Wt1 Tryz.prog 147 o.wg (G (fr.finish (.tuple #[])) base) (AnchWN link (λ_=>True) o.wg fr base)) 40 g w:=by
 obtain⟨a,rfl⟩:=a5;have:=gn (Wg:=o.wg) (R7 (L:=link) (Wg:=o.wg) (b₀:=b20) (a₀:=a) (ops₀:=qb) (i₀:=0) (rest₀:=[]) (k₀:=[.code (.seq (.region 13 oO false) .ret)]) (cs:=base) qB g w h);rw[<-Frame.finish_at] at this;exact this
end
theorem Sz:@codeOk xfW prog nh=true:=aj
theorem SB:prog.funcs[69]?=some (g7 Tryz.f69):=by rw[jL,Tryz.func69];rfl
theorem SC:prog.funcs[113]?=some (g7 Tryz.f113):=by rw[jL,Tryz.func113];rfl
theorem IF:Tryz.f69.norace=false:=aj
theorem IG:Tryz.f113.norace=false:=aj
theorem Nx(c:Array Value):@dw xfW prog Tryz.prog (pA c):=by
 letI:=xfW
 refine⟨λit a6=>?_,AK,.inr ⟨.inr rfl,rfl,rfl,rfl,trivial⟩,λch=>by simp[pA,Frame.atR],⟨_,_,SC,Tryz.func113,IG,IG⟩⟩
 have:it=.code nh:=by simpa[pA,Frame.atR] using a6
 subst this;exact Sz
theorem wL(f:FuncId)(args:Array Value):∃c,(Frame.enter prog f args .normal).todo=[.code c]:=⟨_,rfl⟩
theorem SD(o:OD)(base:List Frame)(hb:base≠[])(e0:Nat)(dead:Nat->Prop)(hn:o.os.length<=1000)(ha:o.zs.length<=64)(hc:o.bD.length<=1000):@fV Iy xfW Tryz.prog prog (phd o e0 dead) (scr o base):=by
 letI:=xfW
 refine { RZ:=hb,csN:=by simp[scr],st1:=?_,st2:=?_,st3:=?_,stW:=?_,stF:=?_,Io:=?_,add:=?_,mid:=?_,go:=?_,R3:=?_,beg:=?_,wok:=?_,work:=?_,next:=?_,hwe:=?_,call3:=?_,r9:=?_,Ip:=?_,anch:=?_,Iq:=?_,Ir:=?_,Is:=?_,It:=?_ }
 .rintro j fr A A' ⟨a,ib,ob,h1,h2,h3,h4,h5⟩ e
  exact⟨a,ib,ob,h1,h2,h3.mv e,h4,h5.mv e⟩
 .rintro j fr A A' ⟨a,ib,ob,h1,h2,h3,h4,h5⟩ e
  exact⟨a,ib,ob,h1,h2,h3.mv e,h4,h5.mv e⟩
 .rintro fr A A' ⟨a,h1,h2,h3⟩ e
  exact⟨a,h1,h2,h3.mv e⟩
 .rintro i fr cs A A' ⟨h1,h2,h3⟩ e
  exact⟨h1,h2,h3.mv e⟩
 .intro i A A' h e;exact oA.mv h e
 .intro j fr A h B;exact Ns h B
 .intro j fr A h w hw;exact⟨60,Sy h w hw⟩
 .intro j fr A h hj lo;exact⟨4,Sq h⟩
 .rintro j fr A ⟨a,ib,ob,rfl,hS,_⟩ B
  have:=Sr (cs:=base) hS B;rw[<-AL hS] at this;exact this
 .intro j fr;rfl
 .rintro j fr A ⟨a,ib,ob,rfl,hS,_⟩ w
  refine⟨6,?_⟩;exact Ss (sb (pz a)) (by rw[AL hS];rfl) w
 .intro j fr A _;exact Nx _
 .intro j fr A h Aw h1 h2 h3 h4;exact Nr ha hc h Aw h1 h2 h3 h4
 .intro j fr A h hj lo a9 h';exact⟨37,Nm hn a9 h' h⟩
 .intro i fr cs A h;exact Sv h
 .intro fr A h B;exact Nt h B
 .intro fr A h w hw;exact Nu h w hw
 .rintro fr g w ⟨T,rfl,_⟩;rfl
 .rintro fr A g w ⟨a,rfl,_⟩ h;exact⟨40,Nv ⟨a,rfl⟩ g w h⟩
 .rintro j fr A f args ⟨a,ib,ob,rfl,_⟩ e
  obtain⟨c,hc⟩:=wL f args;rw[<-e] at hc;cases hc
 .rintro j fr A f args ⟨a,ib,ob,rfl,_⟩ e
  obtain⟨c,hc⟩:=wL f args;rw[<-e] at hc;cases hc
 .rintro fr A f args ⟨a,rfl,_⟩ e
  obtain⟨c,hc⟩:=wL f args;rw[<-e] at hc;cases hc
 .rintro i fr cs A f args ⟨_,⟨T,rfl⟩,_⟩ e
  obtain⟨c,hc⟩:=wL f args;rw[<-e] at hc;cases hc
end Go.Proofs.Tw
