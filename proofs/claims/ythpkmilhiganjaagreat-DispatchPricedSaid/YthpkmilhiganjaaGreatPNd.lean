/- Lemmas. -/
import Derived.Test.YthpkmilhiganjaaGreatPNc
import Derived.Test.YthpkmilhiganjaaGreatPMe
import Derived.Test.YthpkmilhiganjaaGreatPMc
set_option linter.unusedSimpArgs false
set_option linter.unusedVariables false
set_option linter.unusedSectionVars false
set_option maxHeartbeats 32000000
set_option maxRecDepth 100000
namespace Go.Fi
open Go Go.RowKit
open Go.Conc (G)
section
variable[EnvD]{P:Program}{n m N:Nat}{Φ:Frame→List Frame→World→Prop}{b:Frame}{a:Act}{k:List Item}{cs:List Frame}{w:World}{ops:Array Oper}
theorem jC{i:Nat}{rest:List Nat}{o:Oper}(ho:ops[i]?=some o)(hw:Region.wanted o (yielded ops a.tmps)=true)(hd:∀c,o.op≠.defer c)(hk:b.kind≠.early)(hn:n≤cs.length)(h:∀w1,EnvD.E w w1→(∀f,EnvD.D w1 (Go.Conc.listed P f a o w1))∧o.da a (fun a' w'=>TN P n m Φ N (b.atR a' (.inRegion ops rest::k)) cs w') ((execOp a.eval o).run P w1)):TN P n m Φ (N+1) (b.atR a (.inRegion ops (i::rest)::k)) cs w:=by
 refine .bV (fun w1 e=>?_) hn;obtain⟨hev,hu⟩:=h w1 e;have hg:=qZ (P:=P) (b:=b) (k:=k) (cs:=cs) (w:=w1) (rest:=rest) ho hw hd
 have hfin:∀v,(b.atR a (.inRegion ops (i::rest)::k)).finish v=b.atR (a.put o.dst v) (.inRegion ops rest::k):=by
  intro v;rw[Frame.finish_atR,ho];rfl
 have hk':((b.atR a (.inRegion ops (i::rest)::k)).kind==CallKind.early)=false:=by simpa[Frame.atR] using hk
 have hls:EnvD.D w1 (seen P (b.atR a (.inRegion ops (i::rest)::k)).fn ((execOp a.eval o).events P w1 #[])++#[]):=by rw[Array.append_empty];exact hev _
 generalize hrun:(execOp a.eval o).run P w1=R at hu
 cases R with
 |halt x w'=>exact hu.elim
 |ok x w'=>
  cases x<;>simp only[Oper.da] at hu
  ·rename_i v;exact⟨b.atR (a.put o.dst v) (.inRegion ops rest::k),cs,w',_,by rw[hg,←hfin];simp only[stepG.apply,if_true,Sem.runT_eq,hrun,hk',Bool.false_eq_true,if_false,GStep.after];rfl,bw,.inl rfl,hls,hu⟩
  ·exact⟨b.atR (a.put o.dst undef) (.inRegion ops rest::k),cs,w',_,by rw[hg,←hfin];simp only[stepG.apply,if_true,Sem.runT_eq,hrun,hk',Bool.false_eq_true,if_false,GStep.after];rfl,bw,.inl rfl,hls,hu⟩
variable(hn:n≤cs.length)
include hn
theorem ji(h:TN P n m Φ N (b.atR a k) cs w):TN P n m Φ (N+1) (b.atR a (.inRegion ops []::k)) cs w:=.quiet _ _ (fun _=>qY) bw (.inl rfl) h hn
theorem iI{id:Nat}(h:TN P n m Φ N (b.atR a (.inRegion ops (List.range ops.size)::k)) cs w):TN P n m Φ (N+1) (b.atR a (.code (.region id ops false)::k)) cs w:=.quiet _ _ (fun _=>vc) bw (.inl rfl) h hn
theorem eZ{x y:Code}(h:TN P n m Φ N (b.atR a (.code x::.code y::k)) cs w):TN P n m Φ (N+1) (b.atR a (.code (.seq x y)::k)) cs w:=.quiet _ _ (fun _=>uX) bw (.inl rfl) h hn
theorem B7(h:TN P n m Φ N (b.atR a k) cs w):TN P n m Φ (N+1) (b.atR a (.code .skip::k)) cs w:=.quiet _ _ (fun _=>uV) bw (.inl rfl) h hn
theorem xG{c:Operand}{x y:Code}{t:Bool}(hc:a.eval c=.bool t)(h:TN P n m Φ N (b.atR a (.code (if t then x else y)::k)) cs w):TN P n m Φ (N+1) (b.atR a (.code (.cond c x y)::k)) cs w:=.quiet _ _ (fun _=>uY hc) bw (.inl rfl) h hn
theorem B8{id:Nat}{c:Code}(h:TN P n m Φ N (b.atR a (.code c::.inBlock id::k)) cs w):TN P n m Φ (N+1) (b.atR a (.code (.block id c)::k)) cs w:=.quiet _ _ (fun _=>uZ) bw (.inl rfl) h hn
theorem Jc{id:Nat}(h:TN P n m Φ N (b.atR a k) cs w):TN P n m Φ (N+1) (b.atR a (.inBlock id::k)) cs w:=.quiet _ _ (fun _=>uW) bw (.inl rfl) h hn
theorem Jd{c:Code}(h:TN P n m Φ N (b.atR a (.code c::.inLoop c::k)) cs w):TN P n m Φ (N+1) (b.atR a (.code (.loop c)::k)) cs w:=.quiet _ _ (fun _=>u5) bw (.inl rfl) h hn
theorem Je{c:Code}(h:TN P n m Φ N (b.atR a (.code c::.inLoop c::k)) cs w):TN P n m Φ (N+1) (b.atR a (.inLoop c::k)) cs w:=.quiet _ _ (fun _=>u6) bw (.inl rfl) h hn
theorem Jf{id:Nat}{k':List Item}(he:exitTo id k=some k')(h:TN P n m Φ N (b.atR a k') cs w):TN P n m Φ (N+1) (b.atR a (.code (.exit id)::k)) cs w:=.quiet _ _ (fun _=>u7 he) bw (.inl rfl) h hn
omit hn in
theorem sV{c:Code}{M:Nat}{Q:Exit→Act→World→Prop}(hc:c.wpN b.roundOf P M Q a w)(hk:b.kind≠.early)(hQ:∀e a w,Q e a w→e=.normal)(h:∀a w,Q .normal a w→TN P cs.length cs.length Φ N (b.atR a k) cs w):TN P cs.length cs.length Φ (N+M) (b.atR a (.code c::k)) cs w:=by
 refine (hc b k cs rfl hk).bind ?_
 rintro fr cs' w' ⟨rfl,e,a',hq,he⟩
 obtain rfl:=hQ _ _ _ hq;subst he;exact h a' w' hq
end
end Go.Fi
namespace Go.Fc
open Go Go.Conc Go.Fi
open Go.ConcN (PayAt Has RW WgLive WSit CTag WD RelBy phi Vc Ssum Fsum cnt sumTo isFin pend AllQuit)
open Go.ConcR (KK WgAt stA smA Payload)
section
variable[Payload][Xf]{P P1:Program}{d:PhD}{s:Script}{bad:Nat→Prop}
structure NN(P P1:Program)(d:PhD)(s:Script)(S:Sh)(B:World)(gs:Array Goroutine)(B':World)(t:Trace)(q:Nat→Nat):Prop where
 zero:∃fr A0 S0,gs[0]?=some (dR s fr)∧s.I3 fr A0∧bD P1 P fr∧Lk (Cc P1 P) S0 A0 B'∧(∀b k,S0.part b k→b=d.F)
 NO:∀i,i<d.n→∃Ai Si,s.Fin i Ai∧Lk (Cc P1 P) Si Ai B'∧(∀b k,Si.part b k→b=d.F∧k≠i)
 left:Leavers P t gs q
 kE:Past (fun l=>jz S l∨∃a,l=.cell a∧a.block=d.Wg) B'.heap.size t
 pay:PayAt d.F d.n B'
 mg:∀b o,d.lo0≤b→B'.heap[b]?=some o→okO (Cc P1 P) o
 same:∀b,b<d.lo0→b≠d.F→b≠d.Wg→B'.heap[b]?=B.heap[b]?
 os:B'.os=B.os
 output:B'.output=B.output
 size:d.lo0≤B'.heap.size
 grp:∃st sm,WgAt d.ty d.Wg B' st sm
theorem WkS.Fb{i l st m dd:Nat}{g:Goroutine}{S:Sh}{A B:World}(h:WkS P P1 d s i l st m dd g S A B)(h1:st=1):QuitsD P m dd g∧s.Fin i A∧¬S.part d.F i:=by
 cases h with
 |b0=>cases h1
 |b1=>cases h1
 |b2=>cases h1
 |b3 _ hp hF _ h5=>exact⟨h5.quits h1,hF,hp⟩
theorem Jq(hs:dm P P1 d s)(hd:dc d)(hc:∀l k,@iB _ (a7 l d.F k) P1 P bad){gs:Array Goroutine}{B:World}{sl:Option (Nat×Nat)}{t:Trace}{q:Nat→Nat}{S:Sh}{Bsz:Nat}{fr:Frame}(hsz:gs.size=d.e0)(h0:gs[0]?=some (G fr s.base))(hL:Leavers P t gs q)(hP:Past (jz S) Bsz t)(hB:Bsz≤d.Wg)(hlo:d.lo0=B.heap.size)(hS:S.dead=d.dead)(hcell:∀b,d.dead b→bI B b)(hwg:WgAt d.ty d.Wg B 0 0)(hpay:PayAt d.F d.n B)(hinit:∀i,i<d.n→B.cell? ⟨d.F,i,none⟩=some d.v0)(hfr:bD P1 P fr)(hT:∃N,@TN (a7 d.lo0 d.F d.n) P1 s.base.length s.base.length (fun fr' cs' A'=>cs'=s.base∧if 0<d.n then s.I1 0 fr' A' else s.I3 fr' A') N fr s.base (mkA (Cc P1 P) (fun b=>d.dead b∨b=d.Wg) B)):∃N gs' B' sl' t' q',runNT P N (crowd gs B sl) t=(.next (crowd gs' B' sl'),t')∧NN P P1 d s S B gs' B' t' q':=by
 obtain⟨N0,hT⟩:=hT
 have hdd:∀b,d.dead b∨b=d.Wg→bI B b:=fun b hb=>hb.elim (hcell b) fun e=>e▸⟨_,_,_,hwg⟩
 let S0:Sh:=⟨fun b=>d.dead b∨b=d.Wg,fun b k=>b=d.F∧k≠d.n,fun b o=>b<d.lo0∧B.heap[b]?=some o⟩
 let A0:=mkA (Cc P1 P) (fun b=>d.dead b∨b=d.Wg) B
 have hlk:Lk (Cc P1 P) S0 A0 B:=sS hdd fun b o _ ho hbad=>⟨by rw[hlo];exact (Array.getElem?_eq_some_iff.1 ho).1,ho⟩
 have hM:Mem (Cc P1 P) d 0 (fun _=>0) (fun _=>0) (fun _=>S0) (fun _=>A0) B B:=
  ⟨fun p _=>hlk,fun b hb=>absurd rfl hb,fun p h1 h2=>by omega,fun p _ b hb=>hb,fun p hp b _ hne _=>absurd (by omega) hne,fun p _ b o ho=>ho.1,fun p _ b k hk=>hk.1,fun p hp k hk=>⟨rfl,by
    obtain rfl:p=0:=by omega
    simpa[slot] using hk⟩,fun x=>x.2 rfl,hpay,fun i _ h=>hinit i h,fun b o hb ho=>by
    have:=(Array.getElem?_eq_some_iff.1 ho).1
    omega,fun _ _ _ _=>rfl,rfl,rfl,by omega⟩
 have hsh:bQ P1 P S0 s.base fr s.base A0 B:=⟨⟨[],rfl,by simp,by simp⟩,hfr,hlk⟩
 have htr:Trc d 0 (fun _=>0) (fun _=>0) gs.size t t B.heap.size (fun _=>(⟨0,0,0⟩:WD)) 0:=
  I7 hP (fun b hb=>hS▸hb) hB (by have:=hd.wg;omega) hL.above _ _
 have eld:∀i,0<i→i<d.e0→∃g,gs[i]?=some g∧QuitsD P (q i) (Deaf t i) g:=fun i h1 h2=>⟨gs[i]'(by omega),Array.getElem?_eq_getElem _,hL.old i _ h1 (Array.getElem?_eq_getElem _)⟩
 have hmode:∀tag,ConcN.isOpen tag→pend tag=0→(∀vs,tag≠.w2 vs)→ConcN.Mode 0 (fun _=>(⟨0,0,0⟩:WD)) tag 0 0:=fun tag h1 h2 h3=>by
  have:=ConcN.Mode.opn (j:=0) (D:=fun _=>(⟨0,0,0⟩:WD)) h1 (fun i hi=>by omega) (fun vs e=>absurd e (h3 vs));simpa[Vc,sumTo,h2] using this
 have mk:∀tag f0,ConcN.isOpen tag→pend tag=0→(∀vs,tag≠.w2 vs)→StS P P1 d s (fun _=>0) tag 0 f0 0 (G fr s.base) S0 A0 B→∃μ,cg P P1 d s t B μ (crowd gs B sl) t:=fun tag f0 h1 h2 h3 hst=>
  ⟨_,gs,B,sl,0,fun _=>⟨0,0,0⟩,tag,f0,0,_,q,fun _=>0,fun _=>0,fun _=>S0,fun _=>A0,0,0,rfl,⟨by rw[hsz];rfl,h0,hst,eld,fun i hi=>by omega,hM,htr,hwg,hmode tag h1 h2 h3,fun e=>by subst e;exact h1.elim,Nat.zero_le _,hcell⟩,rfl⟩
 obtain⟨μ,hI⟩:∃μ,cg P P1 d s t B μ (crowd gs B sl) t:=by
  by_cases hn:0<d.n
  ·simp only[if_pos hn] at hT
   have e0:d.n-(d.n-1+1)=0:=by omega
   have hst:=StS.p6 (P:=P) (P1:=P1) (s:=s) (d:=d) (r:=d.n-1) (lo:=fun _=>0) (by omega) hsh (Nat.le_refl _) (fun x h1 h2=>Nat.zero_le _) (by rw[e0];exact hT);rw[e0] at hst;exact mk (.sp (d.n-1) 6) N0 trivial rfl (by simp) hst
  ·simp only[if_neg hn] at hT
   have e0:d.n=0:=by omega
   have hst:=StS.pk (P:=P) (P1:=P1) (s:=s) (d:=d) (lo:=fun _=>0) hsh (Nat.le_refl _) (fun x h1 h2=>Nat.zero_le _) hT;rw[e0] at hst;exact mk .kd (N0+s.NK+1) trivial rfl (by simp) hst
 obtain⟨N,m',t',hr,gs',B',sl',D,f0,fr',q',own,lo,S',A',st,sm,rfl,h,hI3,hfo⟩:=Jb hs hd hc μ _ _ hI;obtain⟨hq,e1,e2⟩:=h.mode.fin_inv trivial;obtain⟨qa,a1,a2,a3,a4⟩:=h.acq rfl;obtain⟨u,hu⟩:=h.trc.pre;refine⟨N,gs',B',sl',t',fun i=>if i<d.e0 then q' i else (D (i-d.e0)).fuel,hr,⟨⟨fr',A' 0,S' 0,h.zero,hI3,hfo,h.mem.lk 0 (Nat.zero_le _),h.mem.jA 0 (Nat.zero_le _)⟩,fun i hi=>?_,⟨fun i g hi hg=>?_,h.trc.above⟩,?_,h.mem.pay,h.mem.mg,h.mem.same,h.mem.os,h.mem.output,h.mem.size,⟨_,_,h.wg⟩⟩⟩
 ·obtain⟨g,hg,hw⟩:=h.wk i hi;obtain⟨_,hF,hp⟩:=hw.Fb (hq i hi);refine⟨A' (i+1),S' (i+1),hF,h.mem.lk (i+1) (by omega),fun b k hk=>?_⟩;have hb:=h.mem.jA (i+1) (by omega) b k hk;exact⟨hb,fun e=>by subst e;exact hp (hb▸hk)⟩
 ·by_cases hie:i<d.e0
  ·simp only[if_pos hie];obtain⟨g',hg',hq'⟩:=h.eld i hi hie;rw[hg] at hg';cases hg';exact hq'
  ·simp only[if_neg hie];have hlt:=(Array.getElem?_eq_some_iff.1 hg).1;rw[h.size] at hlt;obtain⟨g',hg',hw⟩:=h.wk (i-d.e0) (by omega);rw[show d.e0+(i-d.e0)=i by omega] at hg';rw[hg] at hg';cases hg';obtain⟨hQ,_⟩:=hw.Fb (hq _ (by omega));have:=h.trc.deafW (i-d.e0) (by omega);rw[show d.e0+(i-d.e0)=i by omega] at this;rw[this];exact hQ
 ·refine IY hP hu h.trc.tr.nr h.trc.ph h.trc.norel a1 a2 a3 (fun g hg=>?_) h.trc.deaf0 h.trc.low;obtain⟨r,h1,h2⟩:=a4 (g-d.e0) (by omega);rw[show d.e0+(g-d.e0)=g by omega] at h1;exact⟨r,h1,h2⟩
end
end Go.Fc
namespace Go.Fc
open Go Go.Conc Go.Fi
open Go.ConcN (sumTo)
theorem Ce{P:Program}{gs:Array Goroutine}{a a':Goroutine}{w':World}{t:Trace}{q:Nat→Nat}(hL:Leavers P t gs q)(hpos:0<gs.size)(fn:FuncId)(pos:String)(es:Array Event):Leavers P (t++MemOp.ofEvents 0 fn pos es) ((gs.map (woken P a a' w')).setIfInBounds 0 a') q:=
 ⟨fun j x hj hx=>by
   rw[Array.getElem?_setIfInBounds_ne (by omega),Array.getElem?_map] at hx;obtain⟨y,hy,rfl⟩:=Option.map_eq_some_iff.1 hx;have hq:=hL.old j y hj hy;rw[woken_quitsD hq,Deaf_other t (g':=0) (by omega) _ (fun op hop=>by obtain⟨e,_,rfl⟩:=Go.Conc.mem_ofEvents hop;rfl)]
   exact hq,
  fun j hj=>by
   have hj':gs.size≤j:=by simpa using hj
   rw[Deaf_other t (g':=0) (by omega) _ (fun op hop=>by obtain⟨e,_,rfl⟩:=Go.Conc.mem_ofEvents hop;rfl)]
   exact hL.above j hj'⟩
theorem Fe{P:Program}{Shun:Loc→Prop}{gs:Array Goroutine}{a a':Goroutine}{B:World}{sl:Option (Nat×Nat)}{t:Trace}{q:Nat→Nat}{n:Nat}(f:World→World)(h0:gs[0]?=some a)(hrun:a.status=.running)(hL:Leavers P t gs q)(hP:Past Shun B.heap.size t)(hn:B.heap.size≤n)(hst:∀w1,AtRel B w1→∃es,stepG P true a w1=.go a' (f w1) es∧∀e∈es,Go.Conc.EvL Shun n e):∃K gs' w1 sl' t' q',runNT P K (crowd gs B sl) t=(.next (crowd gs' (f w1) sl'),t')∧AtRel B w1∧gs'.size=gs.size∧gs'[0]?=some a'∧Leavers P t' gs' q'∧Past Shun n t':=by
 obtain⟨N,gs',w',sl',t',q',d,sl2,hr,hsz,h0',hL',hP',hat,hstp⟩:=xB (P:=P) (a:=a) hrun _ gs B sl t q (Nat.le_refl _) h0 hL hP;obtain⟨es,hs,hes⟩:=hst (w'.at d) hat;have hrunT:=runT_crowd_go (P:=P) (sl:=sl2) (i:=0) h0' (show stepG P (0==0) a (w'.at d)=_ from hs);have hpos:0<gs'.size:=(Array.getElem?_eq_some_iff.1 h0').1;refine⟨N+1,(gs'.map (woken P a a' (f (w'.at d)))).setIfInBounds 0 a',w'.at d,sl2,t'++MemOp.ofEvents 0 a.frame.fn a.frame.place es,q',?_,hat,?_,?_,Ce hL' hpos _ _ es,(hP'.mono hn).own hes⟩
 ·rw[runNT_add,hr];show runNT P 1 _ _=_;simp only[runNT,hstp,hrunT]
 ·simp[hsz]
 ·simp[hpos]
@[reducible] def di:EnvD where
 E w w':=Bel w.heap.size w w'
 ext h:=h
 xt _ _ _ _:=False
 D _ _:=True
 nil _:=trivial
variable[Xf]
theorem Jr{P P1:Program}{bad:Nat→Prop}(hc:@iB _ di P1 P bad){base:List Frame}{Φ:Frame→List Frame→World→Prop}(hb:∀f args cs w,¬Φ (Frame.enter P1 f args .normal) cs w)(hΦ2:∀fr cs w,cs.length<base.length→¬Φ fr cs w)(hst:∀fr cs w w1,Φ fr cs w→Bel w.heap.size w w1→Φ fr cs w1){S:Sh}(hwh:∀b i,¬S.part b i):∀(N:Nat)(gs:Array Goroutine)(B:World)(sl:Option (Nat×Nat))(t:Trace)(q:Nat→Nat)(A:World)(fr:Frame)(cs:List Frame),gs[0]?=some (G fr cs)→bQ P1 P S base fr cs A B→Leavers P t gs q→Past (jz S) B.heap.size t→@TN di P1 base.length base.length Φ N fr cs A→∃K gs' B' sl' t' q' fr' cs' A',runNT P K (crowd gs B sl) t=(.next (crowd gs' B' sl'),t')∧gs'.size=gs.size∧gs'[0]?=some (G fr' cs')∧Φ fr' cs' A'∧bQ P1 P S base fr' cs' A' B'∧Leavers P t' gs' q'∧Past (jz S) B'.heap.size t':=by
 intro N
 induction N with
 |zero=>intro gs B sl t q A fr cs h0 hsh hL hP hT;exact⟨0,gs,B,sl,t,q,fr,cs,A,rfl,rfl,h0,hT,hsh,hL,hP⟩
 |succ N ih=>
  intro gs B sl t q A fr cs h0 hsh hL hP hT;by_cases hΦ:Φ fr cs A
  ·exact⟨0,gs,B,sl,t,q,fr,cs,A,rfl,rfl,h0,hΦ,hsh,hL,hP⟩
  obtain⟨K,gs',w',sl',t',q',d,sl2,hr,hsz,h0',hL',hP',⟨d2,hat⟩,hstp⟩:=xB (P:=P) (a:=G fr cs) rfl _ gs B sl t q (Nat.le_refl _) h0 hL hP
  have hsh1:bQ P1 P S base fr cs A (w'.at d):=by rw[hat];exact⟨hsh.pre,hsh.ok,hsh.lk.drawn d2⟩
  rcases @xC _ di P1 P bad S base Φ hc true (.inl rfl) (fun w es _ e _ a _=>hwh _ _) (fun f args cs w _=>hb f args cs w) hΦ2 fr cs A (w'.at d) N hsh1 hT with hw|⟨fr',cs',A',B',es,hgo,hsh',⟨A2,e1,e2,e3,hT'⟩,htp,hk,hev,_,hsz2⟩
  ·exact absurd hw hΦ
  ·have hrunT:=runT_crowd_go (P:=P) (sl:=sl2) (i:=0) h0' (show stepG P (0==0) (G fr cs) (w'.at d)=_ from hgo);have hpos:0<gs'.size:=(Array.getElem?_eq_some_iff.1 h0').1
   have hszB:B.heap.size≤B'.heap.size:=by have:=hk.size;rw[hat] at this;exact this
   have hT2:@TN di P1 base.length base.length Φ N fr' cs' A':=
    @TN.rely di _ _ _ _ lH hst _ _ _ _ _ hT' ⟨e2.symm,e3.symm,by rw[e1];exact Nat.le_refl _,fun b _=>by rw[e1]⟩
   obtain⟨K2,gs2,B2,sl3,t2,q2,fr2,cs2,A3,x1,x2,x3,x4,x5,x6,x7⟩:=ih ((gs'.map (woken P (G fr cs) (G fr' cs') B')).setIfInBounds 0 (G fr' cs')) B' sl2 (t'++MemOp.ofEvents 0 (G fr cs).frame.fn (G fr cs).frame.place es) q' A' fr' cs' (by simp[hpos]) hsh' (Ce hL' hpos _ _ es) ((hP'.mono hszB).own fun e he=>BN (hev e he)) hT2;refine⟨K+(1+K2),gs2,B2,sl3,t2,q2,fr2,cs2,A3,?_,by rw[x2];simp[hsz],x3,x4,x5,x6,x7⟩;rw[runNT_add,hr];show runNT P (1+K2) _ _=_;rw[runNT_add];simp only[runNT,hstp,hrunT];exact x1
section
variable{C C0:Cx}{dead:Nat→Prop}{B B' A':World}{K:fV}
structure gP(C0:Cx)(K:fV)(dead:Nat→Prop)(B:World):Prop where
 iw:∀b,dead b→K.n0≤b∧bI B b
 old:∀b o,¬dead b→B.heap[b]?=some o→¬okO C0 o→K.old b o
def shW(dead:Nat→Prop)(B:World):Sh:=⟨dead,fun _ _=>False,fun b o=>b<B.heap.size∧B.heap[b]?=some o⟩
omit [Xf] in
theorem Js(h:∀b,dead b→bI B b):Lk C (shW dead B) (mkA C dead B) B:=sS h fun b o _ ho _=>⟨(Array.getElem?_eq_some_iff.1 ho).1,ho⟩
omit [Xf] in
theorem Cf(h:gP C0 K dead B):Lk C0 ⟨dead,fun _ _=>False,K.old⟩ (mkA C0 dead B) B:=sS (fun b hb=>(h.iw b hb).2) h.old
omit [Xf] in
theorem Cg(b:Nat)(o:Obj):¬okO C (gn b o):=by cases o<;>exact id
omit [Xf] in
theorem gP.step(h:gP C0 K dead B)(hup:∀o,okO C o→okO C0 o)(hl:Lk C (shW dead B) A' B'):gP C0 K dead B':=by
 refine⟨fun b hb=>⟨(h.iw b hb).1,?_⟩,fun b o hd ho hbad=>?_⟩
 ·obtain⟨c,e,f,_,h2⟩:=hl.dead b hb;exact⟨c,e,f,h2⟩
 ·rcases hl.same b hd with ⟨e,hk⟩|⟨o',h1,_,_,h2⟩|⟨_,_,_,_,_,h1,_⟩
  ·exact absurd (hup o (hk o (e.trans ho))) hbad
  ·rw[ho] at h1;cases h1;exact h.old b o hd h2.2 hbad
  ·rw[ho] at h1;cases h1;exact absurd trivial hbad
omit [Xf] in
theorem Jt(hl:Lk C (shW dead B) A' B')(hcell:∀b,dead b→bI B b)(hb:Bel B.heap.size (mkA C dead B) A'){C2:Cx}:Bel B.heap.size (mkA C2 dead B) (mkA C2 dead B')∧(∀b,b<B.heap.size→¬dead b→B'.heap[b]?=B.heap[b]?):=by
 have key:∀b,b<B.heap.size→¬dead b→B'.heap[b]?=B.heap[b]?:=fun b hlt hd=>by
  have hA:=hb.block b hlt;obtain⟨o,hx⟩:∃o,B.heap[b]?=some o:=⟨_,Array.getElem?_eq_getElem hlt⟩
  rcases hl.same b hd with ⟨e,hk⟩|⟨o',h1,_,h3,h4⟩|⟨cA,cB,e,f,h1,h2,h3,h4⟩
  ·rw[←e,hA];by_cases hok:okO C o
   ·rw[jh hd hx hok,hx]
   ·rw[lG hd hx hok] at hA;exact absurd (hk _ hA) (Cg b o)
  ·rw[h1,h4.2]
  ·have hc:cA=cB:=Array.ext' (List.ext_getElem? fun i=>by simpa using h4 i (fun x=>x));subst hc;rw[h2,←h1,hA];by_cases hok:okO C o
   ·rw[jh hd hx hok,hx]
   ·rw[lG hd hx hok,h1] at hA;have:=Cg (C:=C) b o;rw[←Option.some.inj hA] at this;exact absurd trivial this
 have hszA:(mkA C dead B).heap.size=B.heap.size:=cE
 have hsz:B.heap.size≤B'.heap.size:=by rw[←hl.size,←hszA];exact hb.size
 refine⟨⟨?_,?_,?_,fun b hlt=>?_⟩,key⟩
 ·show B'.os=B.os;rw[←hl.os];exact hb.os
 ·show B'.output=B.output;rw[←hl.output];exact hb.output
 ·rw[cE,cE];exact hsz
 ·by_cases hd:dead b
  ·obtain⟨c,e,f,hc⟩:=hcell b hd;obtain⟨c',e',f',h1,h2⟩:=hl.dead b hd;have hA:=hb.block b hlt;rw[jV hd,hc] at hA;rw[h1] at hA;rw[jV hd,jV hd,hc,h2];simp only[Option.map_some,nE,Option.some.injEq] at hA ⊢;exact hA
  ·simp only[mkA,Array.getElem?_mapIdx,key b hlt hd]
end
def fB(P:Program)(m:Machine)(t:Trace)(m':Machine)(t':Trace):Prop:=∃N,runNT P N m t=(.next m',t')
theorem fB.trans{P:Program}{m m1 m2:Machine}{t t1 t2:Trace}(h:fB P m t m1 t1)(k:fB P m1 t1 m2 t2):fB P m t m2 t2:=by
 obtain⟨N,h⟩:=h;obtain⟨M,k⟩:=k;exact⟨N+M,by rw[runNT_add,h];exact k⟩
theorem fB.refl{P:Program}{m:Machine}{t:Trace}:fB P m t m t:=⟨0,rfl⟩
def qL(dead:Nat→Prop):Loc→Prop:=fun l=>∃a,l=.cell a∧dead a.block
theorem JA{S S':Loc→Prop}{B:Nat}{t:Trace}(h:Past S B t)(hs:∀l,S l→S' l):Past S' B t:=
 ⟨h.clean,fun i a h1 h2=>(h.known i a h1 h2).imp id fun x=>⟨hs _ x.1,x.2⟩,h.over,h.hears,h.seen⟩
section
variable{C C':Cx}{S:Sh}{dead:Nat→Prop}{A B:World}
theorem Lk.unique(h:Lk C S A B)(hp:∀b i,¬S.part b i)(b:Nat):A.heap[b]?=(mkA C S.dead B).heap[b]?:=by
 by_cases hd:S.dead b
 ·obtain⟨c,e,f,h1,h2⟩:=h.dead b hd;rw[jV hd,h1,h2];rfl
 ·rcases h.same b hd with ⟨e,hk⟩|⟨o,h1,h2,h3,_⟩|⟨cA,cB,e,f,h1,h2,_,h4⟩
  ·rcases hx:B.heap[b]? with _|o
   ·rw[e,hx,pQ hx]
   ·rw[e,hx,jh hd hx (hk o (e.trans hx))]
  ·rw[h3,lG hd h1 h2]
  ·have:cA=cB:=Array.ext' (List.ext_getElem? fun i=>by simpa using h4 i (hp b i));subst this;rw[h1,mV hd h2]
theorem Cv{b:Nat}{c:Array Value}{e:TypeId}{f:Nat×Nat}(h:(mkA C dead B).heap[b]?=some (.cells c e f)):(mkA C' dead B).heap[b]?=some (.cells c e f):=by
 by_cases hd:dead b
 ·rw[jV hd] at h ⊢;exact h
 ·rcases hx:B.heap[b]? with _|o
  ·rw[pQ hx] at h;cases h
  ·by_cases ho:okO C o
   ·rw[jh hd hx ho] at h;obtain rfl:=Option.some.inj h;exact mV hd hx
   ·rw[lG hd hx ho] at h
    cases o<;>cases h
theorem pW{b:Nat}{c:Array Value}{e:TypeId}{f:Nat×Nat}(h:(mkA C dead B).heap[b]?=some (.cells c e f))(hd:¬dead b):B.heap[b]?=some (.cells c e f):=by
 rcases hx:B.heap[b]? with _|o
 ·rw[pQ hx] at h;cases h
 ·by_cases ho:okO C o
  ·rw[jh hd hx ho] at h;exact h
  ·rw[lG hd hx ho] at h
   cases o<;>cases h
theorem Cw{b:Nat}{c:Array Value}{e:TypeId}{f:Nat×Nat}(h:(mkA C dead B).heap[b]?=some (.cells c e f))(hc:0<c.size):¬dead b:=fun hd=>by
 rw[jV hd] at h
 rcases hx:B.heap[b]? with _|o
 ·rw[hx] at h;cases h
 ·rw[hx] at h
  cases o<;>simp[nE] at h
  rw[h.1] at hc;simp at hc
theorem JB{a:Addr}{v:Value}(h:A.cell? a=some v):∃c e f,A.heap[a.block]?=some (.cells c e f)∧0<c.size:=by
 unfold World.cell? at h
 rcases hx:A.heap[a.block]? with _|o
 ·rw[hx] at h;cases h
 ·rw[hx] at h
  cases o<;>first|cases h|skip
  rename_i c e f
  have:c[a.off]?=some v:=by
   simp only at h;split at h
   ·cases h
   ·exact h
  exact⟨c,e,f,rfl,Nat.lt_of_le_of_lt (Nat.zero_le _) (Array.getElem?_eq_some_iff.1 this).1⟩
theorem Cy{a:Addr}(h:A.heap[a.block]?=B.heap[a.block]?):A.cell? a=B.cell? a:=by
 unfold World.cell?;rw[h]
theorem JC{a:Addr}{v:Value}(h:(mkA C dead B).cell? a=some v):¬dead a.block∧B.cell? a=some v:=by
 obtain⟨c,e,f,h1,h2⟩:=JB h;have hd:=Cw h1 h2;exact⟨hd,by rw[Cy ((pW h1 hd).trans h1.symm)];exact h⟩
theorem Bel.congr{n:Nat}{A A' W W':World}(h:Bel n A A')(e1:∀b:Nat,A.heap[b]?=W.heap[b]?)(e2:∀b:Nat,A'.heap[b]?=W'.heap[b]?)(o1:A.os=W.os)(o2:A'.os=W'.os)(p1:A.output=W.output)(p2:A'.output=W'.output):Bel n W W':=by
 have s1:A.heap=W.heap:=Array.ext_getElem? e1;have s2:A'.heap=W'.heap:=Array.ext_getElem? e2;exact⟨by rw[←o1,←o2];exact h.os,by rw[←p1,←p2];exact h.output,by rw[←s1,←s2];exact h.size,fun k hk=>by rw[←e1,←e2];exact h.block k hk⟩
end
structure Stg(C0:Cx)(P:Program)(K:fV)(dead:Nat→Prop)(gs:Array Goroutine)(B:World)(t:Trace)(q:Nat→Nat)(fr:Frame)(cs:List Frame):Prop where
 zero:gs[0]?=some (G fr cs)
 iU:gP C0 K dead B
 left:Leavers P t gs q
 kE:Past (qL dead) B.heap.size t
 n0:K.n0≤B.heap.size
section
variable{P P1 P0:Program}{C0:Cx}{K:fV}{dead:Nat→Prop}{gs:Array Goroutine}{B:World}{sl:Option (Nat×Nat)}{t:Trace}{q:Nat→Nat}{fr fr':Frame}{cs cs':List Frame}{bad:Nat→Prop}
theorem gP.Fq{S:Sh}{A:World}(h:Lk C0 S A B)(hp:∀b i,¬S.part b i)(hd:∀b,S.dead b→K.n0≤b)(ho:S.old=K.old):gP C0 K S.dead B:=by
 refine⟨fun b hb=>⟨hd b hb,?_⟩,fun b o hnd hx hbad=>?_⟩
 ·obtain⟨c,e,f,_,h2⟩:=h.dead b hb;exact⟨c,e,f,h2⟩
 ·rcases h.same b hnd with ⟨e,hk⟩|⟨o',h1,_,_,h2⟩|⟨_,_,_,_,_,h1,_⟩
  ·exact absurd (hk o (e.trans hx)) hbad
  ·rw[hx] at h1;cases h1;rw[←ho];exact h2
  ·rw[hx] at h1;cases h1;exact absurd trivial hbad
theorem ti(h:Stg C0 P K dead gs B t q fr cs)(hst:∀w,stepG P true (G fr cs) w=.go (G fr' cs') w #[]∨stepG P true (G fr cs) w=.go (G fr' cs') w #[]):∃gs' d sl' t' q',fB P (crowd gs B sl) t (crowd gs' (B.at d) sl') t'∧gs'.size=gs.size∧Stg C0 P K dead gs' (B.at d) t' q' fr' cs':=by
 obtain⟨k,gs',w1,sl',t',q',hr,⟨d,rfl⟩,hsz,h0,hL,hP⟩:=Fe (P:=P) (a:=G fr cs) (a':=G fr' cs') (B:=B) (sl:=sl) (n:=B.heap.size) id h.zero rfl h.left h.kE (Nat.le_refl _) fun w1 _=>⟨#[],by rcases hst w1 with e|e<;>exact e,by simp⟩
 exact⟨gs',d,sl',t',q',⟨k,hr⟩,hsz,h0,⟨h.iU.iw,h.iU.old⟩,hL,hP,h.n0⟩
theorem JD(h:Stg C0 P K dead gs B t q fr cs){c:Array Value}{e:TypeId}(hst:∀w,AtRel B w→stepG P true (G fr cs) w=.go (G fr' cs') (w.alloc (.cells c e)) #[]):∃gs' B' sl' t' q',fB P (crowd gs B sl) t (crowd gs' B' sl') t'∧gs'.size=gs.size∧gs'[0]?=some (G fr' cs')∧gP C0 K dead B'∧Leavers P t' gs' q'∧Past (qL dead) B.heap.size t'∧B'.heap=B.heap.push (.cells c e)∧B'.os=B.os∧B'.output=B.output:=by
 obtain⟨k,gs',w1,sl',t',q',hr,⟨d,rfl⟩,hsz,h0,hL,hP⟩:=Fe (P:=P) (a:=G fr cs) (a':=G fr' cs') (B:=B) (sl:=sl) (n:=B.heap.size) (fun w=>w.alloc (.cells c e)) h.zero rfl h.left h.kE (Nat.le_refl _) fun w1 hw=>⟨#[],hst w1 hw,by simp⟩
 refine⟨gs',_,sl',t',q',⟨k,hr⟩,hsz,h0,⟨fun b hb=>?_,fun b o hd ho hbad=>?_⟩,hL,hP,rfl,rfl,rfl⟩
 ·obtain⟨h1,c',e',f',h2⟩:=h.iU.iw b hb;have hlt:=(Array.getElem?_eq_some_iff.1 h2).1
  exact⟨h1,c',e',f',by
   show (B.heap.push _)[b]?=_
   rw[Array.getElem?_push_lt hlt];simpa[Array.getElem?_eq_getElem hlt] using h2⟩
 ·change (B.heap.push _)[b]?=_ at ho
  rw[Array.getElem?_push] at ho;split at ho
  ·cases ho;exact absurd trivial hbad
  ·exact h.iU.old b o hd ho hbad
theorem tj[XF:Xf](hc:@iB _ di P1 P bad)(hup:∀o,okO (Cc P1 P) o→okO C0 o)(h:Stg C0 P K dead gs B t q fr cs)(hfr:bD P1 P fr){Φ:Frame→List Frame→World→Prop}{N:Nat}(hT:@TN di P1 cs.length cs.length Φ N fr cs (mkA (Cc P1 P) dead B))(hΦ:∀fr' cs' w,Φ fr' cs' w→cs'=cs∧Bel (mkA (Cc P1 P) dead B).heap.size (mkA (Cc P1 P) dead B) w)(hb:∀f args cs w,¬Φ (Frame.enter P1 f args .normal) cs w)(hst:∀fr cs w w1,Φ fr cs w→Bel w.heap.size w w1→Φ fr cs w1):∃gs' B' sl' t' q' fr' A',fB P (crowd gs B sl) t (crowd gs' B' sl') t'∧gs'.size=gs.size∧Stg C0 P K dead gs' B' t' q' fr' cs∧Φ fr' cs A'∧bD P1 P fr'∧(∀b:Nat,A'.heap[b]?=(mkA (Cc P1 P) dead B').heap[b]?)∧Bel B.heap.size (mkA C0 dead B) (mkA C0 dead B'):=by
 have hcell:∀b,dead b→bI B b:=fun b hb=>(h.iU.iw b hb).2
 have hsh:bQ P1 P (shW dead B) cs fr cs (mkA (Cc P1 P) dead B) B:=⟨⟨[],rfl,by simp,by simp⟩,hfr,Js hcell⟩;obtain⟨k,gs',B',sl',t',q',fr',cs',A',hr,hsz,h0,hphi,hsh',hL,hP⟩:=Jr hc hb (fun fr cs' w hlt hph=>by have:=(hΦ _ _ _ hph).1;subst this;omega) hst (S:=shW dead B) (fun b i h=>h) N gs B sl t q _ fr cs h.zero hsh h.left h.kE hT;obtain⟨rfl,hbel⟩:=hΦ _ _ _ hphi;rw[cE] at hbel;have hB:=(Jt (C2:=C0) hsh'.lk hcell hbel).1
 have hszX:B.heap.size≤B'.heap.size:=by have:=hB.size;rw[cE,cE] at this;exact this
 exact⟨gs',B',sl',t',q',fr',A',⟨k,hr⟩,hsz,⟨h0,h.iU.step hup hsh'.lk,hL,hP,Nat.le_trans h.n0 hszX⟩,hphi,hsh'.ok,hsh'.lk.unique (fun b i h=>h),hB⟩
theorem JE[XF:Xf][EV:EnvD](hp:nD P0 P bad)(kI:oQ P0 P K)(hbot:∀f,¬Xf.bot f){f:FuncId}{args:Array Value}(ho:Frame.enter P f args .normal=Frame.enter P0 f args .normal)(hok:bD P0 P (Frame.enter P0 f args .normal)){cl:Frame}(hcl:fj cl)(h:Stg (Cc P0 P) P K dead gs B t q (Frame.enter P f args .normal) (cl::cs)){R:Ending→World→Prop}(hT:gF P0 f args (mkA (Cc P0 P) dead B) R)(hne:∀f args v,bad f→Frame.enter P0 f args .normal≠cl.finish v):∃gs' B' sl' t' q' dead' A' v,fB P (crowd gs B sl) t (crowd gs' B' sl') t'∧Stg (Cc P0 P) P K dead' gs' B' t' q' (cl.finish v) cs∧R (.returned v) A'∧(∀b:Nat,A'.heap[b]?=(mkA (Cc P0 P) dead' B').heap[b]?)∧A'.os=B'.os∧A'.output=B'.output:=by
 have hsit:Sit P0 P K ⟨dead,fun _ _=>False,K.old⟩ (cl::cs) (Frame.enter P0 f args .normal) (cl::cs) (mkA (Cc P0 P) dead B) gs B t q:=
  ⟨⟨_,h.zero,.inl ⟨[],rfl,by simp,.inl ⟨ho,hok⟩⟩⟩,Cf h.iU,fun b i h=>h,fun b hb=>(h.iU.iw b hb).1,rfl,h.left,h.kE,h.n0⟩
 obtain⟨k,gs',B',sl',t',q',S',fr',cs',A',hr,hsit',hcs,v,hR,hfr⟩:=BQ hp kI hbot (base:=cl::cs) (fun f args cs w hb hph=>by
  obtain⟨_,v,_,e⟩:=hph
  exact hne f args v hb e) (hT cl cs hcl) _ gs B sl t q hsit
 subst hcs;subst hfr;obtain⟨⟨fr2,h0,hstd⟩,hlk,hwh,hde,hol,hold,hpast,hn0⟩:=hsit'
 rcases hstd with ⟨pre,e,_⟩|⟨e,_⟩
 ·have:=congrArg List.length e;simp at this;omega
 ·subst e;exact⟨gs',B',sl',t',q',S'.dead,A',v,⟨k,hr⟩,⟨h0,gP.Fq hlk hwh hde hol,hold,hpast,hn0⟩,hR,hlk.unique hwh,hlk.os,hlk.output⟩
end
section
variable[PL:ConcR.Payload][XF:Xf]{P P1:Program}{d:PhD}{s:Script}{bad:Nat→Prop}{C0:Cx}{K:fV}
open Go.ConcN (PayAt)
open Go.ConcR (WgAt wgBlock)
theorem JF(hs:dm P P1 d s)(hd:dc d)(hc:∀l k,@iB _ (a7 l d.F k) P1 P bad)(hup:∀o,okO (Cc P1 P) o→okO C0 o){gs:Array Goroutine}{B:World}{sl:Option (Nat×Nat)}{t:Trace}{q:Nat→Nat}{Bsz:Nat}{fr:Frame}(hsz:gs.size=d.e0)(h0:gs[0]?=some (G fr s.base))(hr:gP C0 K d.dead B)(hL:Leavers P t gs q)(hP:Past (qL d.dead) Bsz t)(hB:Bsz≤d.Wg)(hlo:d.lo0=B.heap.size)(hwg:WgAt d.ty d.Wg B 0 0)(hpay:PayAt d.F d.n B)(hinit:∀i,i<d.n→B.cell? ⟨d.F,i,none⟩=some d.v0)(hfr:bD P1 P fr)(hK:K.n0≤d.Wg)(hT:∃N,@TN (a7 d.lo0 d.F d.n) P1 s.base.length s.base.length (fun fr' cs' A'=>cs'=s.base∧if 0<d.n then s.I1 0 fr' A' else s.I3 fr' A') N fr s.base (mkA (Cc P1 P) (fun b=>d.dead b∨b=d.Wg) B)):∃gs' B' sl' t' q' fr' A0,fB P (crowd gs B sl) t (crowd gs' B' sl') t'∧Stg C0 P K (fun b=>d.dead b∨b=d.Wg) gs' B' t' q' (fr'.finish (.tuple #[])) s.base∧s.I3 fr' A0∧bD P1 P fr'∧(∀i,i<d.n→∃Ai Si,s.Fin i Ai∧Lk (Cc P1 P) Si Ai B'∧(∀b k,Si.part b k→b=d.F∧k≠i))∧(∀b,b<d.lo0→b≠d.F→b≠d.Wg→B'.heap[b]?=B.heap[b]?)∧B'.os=B.os∧B'.output=B.output∧d.lo0≤B'.heap.size∧PayAt d.F d.n B':=by
 obtain⟨N,gs',B',sl',t',q',hrun,h⟩:=Jq (S:=⟨d.dead,fun _ _=>False,fun _ _=>False⟩) hs hd hc hsz h0 hL hP hB hlo rfl (fun b hb=>(hr.iw b hb).2) hwg hpay hinit hfr hT;obtain⟨fr',A0,S0,z1,z2,z3,z4,z5⟩:=h.zero;refine⟨gs',B',sl',t',q',fr',A0,⟨N,hrun⟩,⟨z1,⟨fun b hb=>?_,fun b o hnd ho hbad=>?_⟩,h.left,JA h.kE fun l hl=>?_,Nat.le_trans hK (Nat.le_of_lt (Nat.lt_of_lt_of_le hd.wg h.size))⟩,z2,z3,h.NO,h.same,h.os,h.output,h.size,h.pay⟩
 ·rcases hb with hb|rfl
  ·obtain⟨x1,c,e,f,x2⟩:=hr.iw b hb;obtain⟨y1,y2,y3⟩:=hd.dead b hb;exact⟨x1,c,e,f,(h.same b y1 y2 y3).trans x2⟩
  ·obtain⟨st,sm,hg⟩:=h.grp;exact⟨hK,_,_,_,hg⟩
 ·by_cases hlt:b<d.lo0
  ·by_cases hF:b=d.F
   ·subst hF;obtain⟨cF,hF,_⟩:=h.pay;rw[hF] at ho;cases ho;exact absurd trivial hbad
   ·have hW:b≠d.Wg:=fun e=>hnd (.inr e)
    rw[h.same b hlt hF hW] at ho;exact hr.old b o (fun x=>hnd (.inl x)) ho hbad
  ·exact absurd (hup o (h.mg b o (by omega) ho)) hbad
 ·rcases hl with ⟨a,e1,e2⟩|⟨a,e1,e2⟩
  ·exact⟨a,e1,.inl e2⟩
  ·exact⟨a,e1,.inr e2⟩
end
end Go.Fc
