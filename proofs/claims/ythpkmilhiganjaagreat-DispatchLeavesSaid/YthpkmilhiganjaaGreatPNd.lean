/- Lemmas. -/
import Derived.Test.YthpkmilhiganjaaGreatPNc
import Derived.Test.YthpkmilhiganjaaGreatPMe
import Derived.Test.YthpkmilhiganjaaGreatPMc
set_option linter.all false
set_option maxHeartbeats 32000000
set_option maxRecDepth 100000
namespace Go.Fi
open Go Go.RowKit
open Go.Conc (G)
section
variable[EnvD]{P:Program}{n m N:Nat}{Φ:Frame->List Frame->World->Prop}{b:Frame}{a:Act}{k:List Item}{cs:List Frame}{w:World}{ops:Array Oper}
theorem mL{i:Nat}{rest:List Nat}{o:Oper}(ho:ops[i]?=some o)(hw:Region.wanted o (yielded ops a.tmps)=true)(hd:∀c,o.op≠.defer c)(hk:b.kind≠.early)(hn:n<=cs.length)(h:∀w1,EnvD.E w w1->(∀f,EnvD.D w1 (Go.Conc.listed P f a o w1))/\o.dP a (λa' w'=>TN P n m Φ N (b.atR a' (.inRegion ops rest::k)) cs w') ((execOp a.eval o).run P w1)):TN P n m Φ (N+1) (b.atR a (.inRegion ops (i::rest)::k)) cs w:=by
 refine .dj (λw1 e=>?_) hn;obtain⟨bc,hu⟩:=h w1 e;have hg:=uY (P:=P) (b:=b) (k:=k) (cs:=cs) (w:=w1) (rest:=rest) ho hw hd
 have aw:∀v,(b.atR a (.inRegion ops (i::rest)::k)).finish v=b.atR (a.put o.dst v) (.inRegion ops rest::k):=by
  intro v;rw[Frame.finish_atR,ho];rfl
 have bl:((b.atR a (.inRegion ops (i::rest)::k)).kind==CallKind.early)=false:=by simpa[Frame.atR] using hk
 have bm:EnvD.D w1 (seen P (b.atR a (.inRegion ops (i::rest)::k)).fn ((execOp a.eval o).events P w1 #[])++#[]):=by rw[lM];exact bc _
 generalize a5:(execOp a.eval o).run P w1=R at hu
 cases R with
 |halt x w'=>exact hu.elim
 |ok x w'=>
  cases x<;>simp only[Oper.dP] at hu
  .rename_i v;exact⟨b.atR (a.put o.dst v) (.inRegion ops rest::k),cs,w',_,by rw[hg,<-aw];simp only[stepG.apply,aX,Sem.runT_eq,a5,bl,bI,a9,GStep.after];rfl,bY,.inl rfl,bm,hu⟩
  .exact⟨b.atR (a.put o.dst undef) (.inRegion ops rest::k),cs,w',_,by rw[hg,<-aw];simp only[stepG.apply,aX,Sem.runT_eq,a5,bl,bI,a9,GStep.after];rfl,bY,.inl rfl,bm,hu⟩
variable(hn:n<=cs.length)
include hn
theorem lY(h:TN P n m Φ N (b.atR a k) cs w):TN P n m Φ (N+1) (b.atR a (.inRegion ops []::k)) cs w:=.quiet _ _ (λ_=>uX) bY (.inl rfl) h hn
theorem kY{id:Nat}(h:TN P n m Φ N (b.atR a (.inRegion ops (List.range ops.size)::k)) cs w):TN P n m Φ (N+1) (b.atR a (.code (.region id ops false)::k)) cs w:=.quiet _ _ (λ_=>yB) bY (.inl rfl) h hn
theorem gK{x y:Code}(h:TN P n m Φ N (b.atR a (.code x::.code y::k)) cs w):TN P n m Φ (N+1) (b.atR a (.code (.seq x y)::k)) cs w:=.quiet _ _ (λ_=>yp) bY (.inl rfl) h hn
theorem FG(h:TN P n m Φ N (b.atR a k) cs w):TN P n m Φ (N+1) (b.atR a (.code .skip::k)) cs w:=.quiet _ _ (λ_=>yn) bY (.inl rfl) h hn
theorem AP{c:Operand}{x y:Code}{t:Bool}(hc:a.eval c=.bool t)(h:TN P n m Φ N (b.atR a (.code (if t then x else y)::k)) cs w):TN P n m Φ (N+1) (b.atR a (.code (.cond c x y)::k)) cs w:=.quiet _ _ (λ_=>yq hc) bY (.inl rfl) h hn
theorem FH{id:Nat}{c:Code}(h:TN P n m Φ N (b.atR a (.code c::.inBlock id::k)) cs w):TN P n m Φ (N+1) (b.atR a (.code (.block id c)::k)) cs w:=.quiet _ _ (λ_=>yr) bY (.inl rfl) h hn
theorem ML{id:Nat}(h:TN P n m Φ N (b.atR a k) cs w):TN P n m Φ (N+1) (b.atR a (.inBlock id::k)) cs w:=.quiet _ _ (λ_=>yo) bY (.inl rfl) h hn
theorem MM{c:Code}(h:TN P n m Φ N (b.atR a (.code c::.inLoop c::k)) cs w):TN P n m Φ (N+1) (b.atR a (.code (.loop c)::k)) cs w:=.quiet _ _ (λ_=>yu) bY (.inl rfl) h hn
theorem MN{c:Code}(h:TN P n m Φ N (b.atR a (.code c::.inLoop c::k)) cs w):TN P n m Φ (N+1) (b.atR a (.inLoop c::k)) cs w:=.quiet _ _ (λ_=>yw) bY (.inl rfl) h hn
theorem MP{id:Nat}{k':List Item}(he:exitTo id k=some k')(h:TN P n m Φ N (b.atR a k') cs w):TN P n m Φ (N+1) (b.atR a (.code (.exit id)::k)) cs w:=.quiet _ _ (λ_=>yx he) bY (.inl rfl) h hn
omit hn in
theorem wI{c:Code}{M:Nat}{Q:Exit->Act->World->Prop}(hc:c.wpN b.roundOf P M Q a w)(hk:b.kind≠.early)(hQ:∀e a w,Q e a w->e=.normal)(h:∀a w,Q .normal a w->TN P cs.length cs.length Φ N (b.atR a k) cs w):TN P cs.length cs.length Φ (N+M) (b.atR a (.code c::k)) cs w:=by
 refine (hc b k cs rfl hk).bind ?_
 rintro fr cs' w' ⟨rfl,e,a',hq,he⟩
 obtain rfl:=hQ _ _ _ hq;subst he;exact h a' w' hq
end
end Go.Fi
namespace Go.Fc
open Go Go.Conc Go.Fi
open Go.ConcN (PayAt Has RW WgLive WSit CTag WD RelBy phi Vc Ssum Fsum cnt sumTo isFin pend AllQuit)
open Go.ConcR (KK WgAt stA smA Payload)
section
variable[Payload][Xf]{P P1:Program}{d:PhD}{s:Script}{bad:Nat->Prop}
structure Rw(P P1:Program)(d:PhD)(s:Script)(S:Sh)(B:World)(gs:Array Goroutine)(B':World)(t:Trace)(q:Nat->Nat):Prop where
 zero:∃fr A0 S0,gs[0]?=some (fS s fr)/\s.I3 fr A0/\b8 P1 P fr/\Lk (Cc P1 P) S0 A0 B'/\(∀b k,S0.part b k->b=d.F)
 Rx:∀i,i<d.n->∃Ai Si,s.Fin i Ai/\Lk (Cc P1 P) Si Ai B'/\(∀b k,Si.part b k->b=d.F/\k≠i)
 left:Leavers P t gs q
 nR:Past (λl=>mD S l\/∃a,l=.cell a/\a.block=d.Wg) B'.heap.size t
 pay:PayAt d.F d.n B'
 pq:∀b o,d.lo0<=b->B'.heap[b]?=some o->okO (Cc P1 P) o
 same:∀b,b<d.lo0->b≠d.F->b≠d.Wg->B'.heap[b]?=B.heap[b]?
 os:B'.os=B.os
 output:B'.output=B.output
 size:d.lo0<=B'.heap.size
 grp:∃st sm,WgAt d.ty d.Wg B' st sm
theorem WkS.Ie{i l st m dd:Nat}{g:Goroutine}{S:Sh}{A B:World}(h:WkS P P1 d s i l st m dd g S A B)(h1:st=1):QuitsD P m dd g/\s.Fin i A/\¬S.part d.F i:=by
 cases h with
 |b0=>cases h1
 |b1=>cases h1
 |b2=>cases h1
 |b3 _ hp hF _ h5=>exact⟨h5.quits h1,hF,hp⟩
theorem M5(hs:eU P P1 d s)(hd:dU d)(hc:∀l k,@j8 _ (bn l d.F k) P1 P bad){gs:Array Goroutine}{B:World}{sl:Option (Nat×Nat)}{t:Trace}{q:Nat->Nat}{S:Sh}{Bsz:Nat}{fr:Frame}(hm:gs.size=d.e0)(h0:gs[0]?=some (G fr s.base))(hL:Leavers P t gs q)(hP:Past (mD S) Bsz t)(hB:Bsz<=d.Wg)(bf:d.lo0=B.heap.size)(hS:S.dead=d.dead)(hh:∀b,d.dead b->cQ B b)(b9:WgAt d.ty d.Wg B 0 0)(al:PayAt d.F d.n B)(a8:∀i,i<d.n->B.cell? ⟨d.F,i,none⟩=some d.v0)(ag:b8 P1 P fr)(hT:∃N,@TN (bn d.lo0 d.F d.n) P1 s.base.length s.base.length (λfr' cs' A'=>cs'=s.base/\if 0<d.n then s.I1 0 fr' A' else s.I3 fr' A') N fr s.base (mkA (Cc P1 P) (λb=>d.dead b\/b=d.Wg) B)):∃N h8 B' h9 t' q',runNT P N (crowd gs B sl) t=(.next (crowd h8 B' h9),t')/\Rw P P1 d s S B h8 B' t' q':=by
 obtain⟨N0,hT⟩:=hT
 have c3:∀b,d.dead b\/b=d.Wg->cQ B b:=λb hb=>hb.elim (hh b) λe=>e▸⟨_,_,_,b9⟩
 let S0:Sh:=⟨λb=>d.dead b\/b=d.Wg,λb k=>b=d.F/\k≠d.n,λb o=>b<d.lo0/\B.heap[b]?=some o⟩
 let A0:=mkA (Cc P1 P) (λb=>d.dead b\/b=d.Wg) B
 have ai:Lk (Cc P1 P) S0 A0 B:=wF c3 λb o _ ho h'=>⟨by rw[bf];grind,ho⟩
 have hM:Mem (Cc P1 P) d 0 (λ_=>0) (λ_=>0) (λ_=>S0) (λ_=>A0) B B:=
  ⟨λp _=>ai,λb hb=>absurd rfl hb,λp h1 h2=>by omega,λp _ b hb=>hb,λp hp b _ bo _=>absurd (by omega) bo,λp _ b o ho=>ho.1,λp _ b k hk=>hk.1,λp hp k hk=>⟨rfl,by
    obtain rfl:p=0:=by omega
    trivial⟩,λx=>x.2 rfl,al,λi _ h=>a8 i h,λb o hb ho=>by
    have:=(bD.1 ho).1
    omega,λ_ _ _ _=>rfl,rfl,rfl,by omega⟩
 have ae:de P1 P S0 s.base fr s.base A0 B:=⟨⟨[],rfl,by simp,by simp⟩,ag,ai⟩
 have cg:Trc d 0 (λ_=>0) (λ_=>0) gs.size t t B.heap.size (λ_=>(⟨0,0,0⟩:WD)) 0:=
  MF hP (λb hb=>hS▸hb) hB (by have:=hd.wg;omega) hL.above _ _
 have eld:∀i,0<i->i<d.e0->∃g,gs[i]?=some g/\QuitsD P (q i) (Deaf t i) g:=λi h1 h2=>⟨gs[i]'(by omega),cJ _,hL.old i _ h1 (cJ _)⟩
 have ay:∀tag,ConcN.isOpen tag->pend tag=0->(∀vs,tag≠.w2 vs)->ConcN.Mode 0 (λ_=>(⟨0,0,0⟩:WD)) tag 0 0:=λtag h1 h2 h3=>by
  have:=ConcN.Mode.opn (j:=0) (D:=λ_=>(⟨0,0,0⟩:WD)) h1 (λi hi=>by omega) (λvs e=>absurd e (h3 vs));simpa[Vc,sumTo,h2] using this
 have mk:∀tag f0,ConcN.isOpen tag->pend tag=0->(∀vs,tag≠.w2 vs)->StS P P1 d s (λ_=>0) tag 0 f0 0 (G fr s.base) S0 A0 B->∃μ,dq P P1 d s t B μ (crowd gs B sl) t:=λtag f0 h1 h2 h3 ha=>
  ⟨_,gs,B,sl,0,λ_=>⟨0,0,0⟩,tag,f0,0,_,q,λ_=>0,λ_=>0,λ_=>S0,λ_=>A0,0,0,rfl,⟨by rw[hm];rfl,h0,ha,eld,λi hi=>by omega,hM,cg,b9,ay tag h1 h2 h3,λe=>by subst e;exact h1.elim,aK _,hh⟩,rfl⟩
 obtain⟨μ,hI⟩:∃μ,dq P P1 d s t B μ (crowd gs B sl) t:=by
  by_cases hn:0<d.n
  .simp only[aB hn] at hT
   have e0:d.n-(d.n-1+1)=0:=by omega
   have ha:=StS.p6 (P:=P) (P1:=P1) (s:=s) (d:=d) (r:=d.n-1) (lo:=λ_=>0) (by omega) ae (aE _) (λx h1 h2=>aK _) (by rw[e0];exact hT);rw[e0] at ha;exact mk (.sp (d.n-1) 6) N0 trivial rfl (by simp) ha
  .simp only[ar hn] at hT
   have e0:d.n=0:=by omega
   have ha:=StS.pk (P:=P) (P1:=P1) (s:=s) (d:=d) (lo:=λ_=>0) ae (aE _) (λx h1 h2=>aK _) hT;rw[e0] at ha;exact mk .kd (N0+s.NK+1) trivial rfl (by simp) ha
 obtain⟨N,m',t',hr,h8,B',h9,D,f0,fr',q',own,lo,S',A',st,sm,rfl,h,hI3,c6⟩:=MK hs hd hc μ _ _ hI;obtain⟨hq,e1,e2⟩:=h.mode.fin_inv trivial;obtain⟨qa,a1,a2,a3,a4⟩:=h.acq rfl;obtain⟨u,hu⟩:=h.trc.pre;refine⟨N,h8,B',h9,t',λi=>if i<d.e0 then q' i else (D (i-d.e0)).fuel,hr,⟨⟨fr',A' 0,S' 0,h.zero,hI3,c6,h.mem.lk 0 (aK _),h.mem.mG 0 (aK _)⟩,λi hi=>?_,⟨λi g hi hg=>?_,h.trc.above⟩,?_,h.mem.pay,h.mem.pq,h.mem.same,h.mem.os,h.mem.output,h.mem.size,⟨_,_,h.wg⟩⟩⟩
 .obtain⟨g,hg,hw⟩:=h.wk i hi;obtain⟨_,hF,hp⟩:=hw.Ie (hq i hi);refine⟨A' (i+1),S' (i+1),hF,h.mem.lk (i+1) (by omega),λb k hk=>?_⟩;have hb:=h.mem.mG (i+1) (by omega) b k hk
  grind
 .by_cases bd:i<d.e0
  .simp only[aB bd];obtain⟨g',ax,cj⟩:=h.eld i hi bd;rw[hg] at ax;simp_all
  .simp only[ar bd];have a7:=(bD.1 hg).1;rw[h.size] at a7;obtain⟨g',ax,hw⟩:=h.wk (i-d.e0) (by omega);rw[show d.e0+(i-d.e0)=i by omega] at ax;rw[hg] at ax;cases ax;obtain⟨hQ,_⟩:=hw.Ie (hq _ (by omega));have:=h.trc.deafW (i-d.e0) (by omega);rw[show d.e0+(i-d.e0)=i by omega] at this;rw[this];exact hQ
 .refine MA hP hu h.trc.tr.nr h.trc.ph h.trc.norel a1 a2 a3 (λg hg=>?_) h.trc.deaf0 h.trc.low;obtain⟨r,h1,h2⟩:=a4 (g-d.e0) (by omega);rw[show d.e0+(g-d.e0)=g by omega] at h1
  grind
end
end Go.Fc
namespace Go.Fc
open Go Go.Conc Go.Fi
open Go.ConcN (sumTo)
theorem FM{P:Program}{gs:Array Goroutine}{a a':Goroutine}{w':World}{t:Trace}{q:Nat->Nat}(hL:Leavers P t gs q)(aa:0<gs.size)(fn:FuncId)(pos:String)(es:Array Event):Leavers P (t++MemOp.ofEvents 0 fn pos es) ((gs.map (woken P a a' w')).setIfInBounds 0 a') q:=
 ⟨λj x hj hx=>by
   rw[uO (by omega),yd] at hx;obtain⟨y,hy,rfl⟩:=sP.1 hx;have hq:=hL.old j y hj hy;rw[woken_quitsD hq,Deaf_other t (g':=0) (by omega) _ (λop bg=>by obtain⟨e,_,rfl⟩:=Go.Conc.mem_ofEvents bg;rfl)]
   exact hq,
  λj hj=>by
   have c7:gs.size<=j:=by grind
   rw[Deaf_other t (g':=0) (by omega) _ (λop bg=>by obtain⟨e,_,rfl⟩:=Go.Conc.mem_ofEvents bg;rfl)]
   exact hL.above j c7⟩
theorem Ig{P:Program}{Shun:Loc->Prop}{gs:Array Goroutine}{a a':Goroutine}{B:World}{sl:Option (Nat×Nat)}{t:Trace}{q:Nat->Nat}{n:Nat}(f:World->World)(h0:gs[0]?=some a)(a5:a.status=.running)(hL:Leavers P t gs q)(hP:Past Shun B.heap.size t)(hn:B.heap.size<=n)(ha:∀w1,AtRel B w1->∃es,stepG P true a w1=.go a' (f w1) es/\∀e∈es,Go.Conc.EvL Shun n e):∃K h8 w1 h9 t' q',runNT P K (crowd gs B sl) t=(.next (crowd h8 (f w1) h9),t')/\AtRel B w1/\h8.size=gs.size/\h8[0]?=some a'/\Leavers P t' h8 q'/\Past Shun n t':=by
 obtain⟨N,h8,w',h9,t',q',d,sl2,hr,hm,aq,bh,ba,hat,ao⟩:=AK (P:=P) (a:=a) a5 _ gs B sl t q (aE _) h0 hL hP;obtain⟨es,hs,c5⟩:=ha (w'.at d) hat;have hrunT:=runT_crowd_go (P:=P) (sl:=sl2) (i:=0) aq (show stepG P (0==0) a (w'.at d)=_ from hs);have aa:0<h8.size:=(bD.1 aq).1;refine⟨N+1,(h8.map (woken P a a' (f (w'.at d)))).setIfInBounds 0 a',w'.at d,sl2,t'++MemOp.ofEvents 0 a.frame.fn a.frame.place es,q',?_,hat,?_,?_,FM bh aa _ _ es,(ba.mono hn).own c5⟩
 .rw[runNT_add,hr];show runNT P 1 _ _=_;simp only[runNT,ao,hrunT]
 .simp[hm]
 grind
@[reducible] def eD:EnvD where
 E w w':=Bel w.heap.size w w'
 ext h:=h
 xt _ _ _ _:=False
 D _ _:=True
 nil _:=trivial
variable[Xf]
theorem M6{P P1:Program}{bad:Nat->Prop}(hc:@j8 _ eD P1 P bad){base:List Frame}{Φ:Frame->List Frame->World->Prop}(hb:∀f args cs w,¬Φ (Frame.enter P1 f args .normal) cs w)(hΦ2:∀fr cs w,cs.length<base.length->¬Φ fr cs w)(ha:∀fr cs w w1,Φ fr cs w->Bel w.heap.size w w1->Φ fr cs w1){S:Sh}(b':∀b i,¬S.part b i):∀(N:Nat)(gs:Array Goroutine)(B:World)(sl:Option (Nat×Nat))(t:Trace)(q:Nat->Nat)(A:World)(fr:Frame)(cs:List Frame),gs[0]?=some (G fr cs)->de P1 P S base fr cs A B->Leavers P t gs q->Past (mD S) B.heap.size t->@TN eD P1 base.length base.length Φ N fr cs A->∃K h8 B' h9 t' q' fr' cs' A',runNT P K (crowd gs B sl) t=(.next (crowd h8 B' h9),t')/\h8.size=gs.size/\h8[0]?=some (G fr' cs')/\Φ fr' cs' A'/\de P1 P S base fr' cs' A' B'/\Leavers P t' h8 q'/\Past (mD S) B'.heap.size t':=by
 intro N
 induction N with
 |zero=>intro gs B sl t q A fr cs h0 ae hL hP hT;exact⟨0,gs,B,sl,t,q,fr,cs,A,rfl,rfl,h0,hT,ae,hL,hP⟩
 |succ N ih=>
  intro gs B sl t q A fr cs h0 ae hL hP hT;by_cases hΦ:Φ fr cs A
  .exact⟨0,gs,B,sl,t,q,fr,cs,A,rfl,rfl,h0,hΦ,ae,hL,hP⟩
  obtain⟨K,h8,w',h9,t',q',d,sl2,hr,hm,aq,bh,ba,⟨d2,hat⟩,ao⟩:=AK (P:=P) (a:=G fr cs) rfl _ gs B sl t q (aE _) h0 hL hP
  have bi:de P1 P S base fr cs A (w'.at d):=by rw[hat];exact⟨ae.pre,ae.ok,ae.lk.drawn d2⟩
  rcases @AL _ eD P1 P bad S base Φ hc true (.inl rfl) (λw es _ e _ a _=>b' _ _) (λf args cs w _=>hb f args cs w) hΦ2 fr cs A (w'.at d) N bi hT with hw|⟨fr',cs',A',B',es,hgo,a6,⟨A2,e1,e2,e3,bq⟩,cm,hk,bc,_,cf⟩
  .trivial
  .have hrunT:=runT_crowd_go (P:=P) (sl:=sl2) (i:=0) aq (show stepG P (0==0) (G fr cs) (w'.at d)=_ from hgo);have aa:0<h8.size:=(bD.1 aq).1
   have hszB:B.heap.size<=B'.heap.size:=by have:=hk.size;rw[hat] at this;exact this
   have hT2:@TN eD P1 base.length base.length Φ N fr' cs' A':=
    @TN.rely eD _ _ _ _ oL ha _ _ _ _ _ bq ⟨e2.symm,e3.symm,by rw[e1];simp,λb _=>by rw[e1]⟩
   obtain⟨K2,gs2,B2,sl3,t2,q2,fr2,cs2,A3,x1,x2,x3,x4,x5,x6,x7⟩:=ih ((h8.map (woken P (G fr cs) (G fr' cs') B')).setIfInBounds 0 (G fr' cs')) B' sl2 (t'++MemOp.ofEvents 0 (G fr cs).frame.fn (G fr cs).frame.place es) q' A' fr' cs' (by simp[aa]) a6 (FM bh aa _ _ es) ((ba.mono hszB).own λe he=>Fv (bc e he)) hT2;refine⟨K+(1+K2),gs2,B2,sl3,t2,q2,fr2,cs2,A3,?_,by rw[x2];simp[hm],x3,x4,x5,x6,x7⟩;rw[runNT_add,hr];show runNT P (1+K2) _ _=_;rw[runNT_add];simp only[runNT,ao,hrunT];exact x1
section
variable{C C0:Cx}{dead:Nat->Prop}{B B' A':World}{K:iL}
structure jI(C0:Cx)(K:iL)(dead:Nat->Prop)(B:World):Prop where
 j7:∀b,dead b->K.n0<=b/\cQ B b
 old:∀b o,¬dead b->B.heap[b]?=some o->¬okO C0 o->K.old b o
def shW(dead:Nat->Prop)(B:World):Sh:=⟨dead,λ_ _=>False,λb o=>b<B.heap.size/\B.heap[b]?=some o⟩
omit [Xf] in
theorem M7(h:∀b,dead b->cQ B b):Lk C (shW dead B) (mkA C dead B) B:=wF h λb o _ ho _=>⟨(bD.1 ho).1,ho⟩
omit [Xf] in
theorem FN(h:jI C0 K dead B):Lk C0 ⟨dead,λ_ _=>False,K.old⟩ (mkA C0 dead B) B:=wF (λb hb=>(h.j7 b hb).2) h.old
omit [Xf] in
theorem FO(b:Nat)(o:Obj):¬okO C (jf b o):=by cases o<;>exact id
omit [Xf] in
theorem jI.step(h:jI C0 K dead B)(b7:∀o,okO C o->okO C0 o)(hl:Lk C (shW dead B) A' B'):jI C0 K dead B':=by
 refine⟨λb hb=>⟨(h.j7 b hb).1,?_⟩,λb o hd ho h'=>?_⟩
 .obtain⟨c,e,f,_,h2⟩:=hl.dead b hb;exact⟨c,e,f,h2⟩
 .rcases hl.same b hd with ⟨e,hk⟩|⟨o',h1,_,_,h2⟩|⟨_,_,_,_,_,h1,_⟩
  .simp_all
  .rw[ho] at h1;cases h1;exact h.old b o hd h2.2 h'
  .rw[ho] at h1;cases h1;exact absurd trivial h'
omit [Xf] in
theorem M8(hl:Lk C (shW dead B) A' B')(hh:∀b,dead b->cQ B b)(hb:Bel B.heap.size (mkA C dead B) A'){C2:Cx}:Bel B.heap.size (mkA C2 dead B) (mkA C2 dead B')/\(∀b,b<B.heap.size->¬dead b->B'.heap[b]?=B.heap[b]?):=by
 have key:∀b,b<B.heap.size->¬dead b->B'.heap[b]?=B.heap[b]?:=λb a7 hd=>by
  have hA:=hb.block b a7;obtain⟨o,hx⟩:∃o,B.heap[b]?=some o:=⟨_,cJ a7⟩
  rcases hl.same b hd with ⟨e,hk⟩|⟨o',h1,_,h3,h4⟩|⟨cA,cB,e,f,h1,h2,h3,h4⟩
  .rw[<-e,hA];by_cases aj:okO C o
   .rw[lX hd hx aj,hx]
   .rw[oK hd hx aj] at hA;exact absurd (hk _ hA) (FO b o)
  .rw[h1,h4.2]
  .have hc:cA=cB:=Df (uQ λi=>by simpa using h4 i (λx=>x));subst hc;rw[h2,<-h1,hA];by_cases aj:okO C o
   .rw[lX hd hx aj,hx]
   .rw[oK hd hx aj,h1] at hA;have:=FO (C:=C) b o;rw[<-eu hA] at this;exact absurd trivial this
 have hszA:(mkA C dead B).heap.size=B.heap.size:=dD
 have hm:B.heap.size<=B'.heap.size:=by rw[<-hl.size,<-hszA];exact hb.size
 refine⟨⟨?_,?_,?_,λb a7=>?_⟩,key⟩
 .show B'.os=B.os;rw[<-hl.os];exact hb.os
 .show B'.output=B.output;rw[<-hl.output];exact hb.output
 .rw[dD,dD];exact hm
 .by_cases hd:dead b
  .obtain⟨c,e,f,hc⟩:=hh b hd;obtain⟨c',e',f',h1,h2⟩:=hl.dead b hd;have hA:=hb.block b a7;rw[nu hd,hc] at hA;rw[h1] at hA;rw[nu hd,nu hd,hc,h2];trivial
  .simp only[mkA,sQ,key b a7 hd]
end
def gU(P:Program)(m:Machine)(t:Trace)(m':Machine)(t':Trace):Prop:=∃N,runNT P N m t=(.next m',t')
theorem gU.trans{P:Program}{m m1 m2:Machine}{t t1 t2:Trace}(h:gU P m t m1 t1)(k:gU P m1 t1 m2 t2):gU P m t m2 t2:=by
 obtain⟨N,h⟩:=h;obtain⟨M,k⟩:=k;exact⟨N+M,by rw[runNT_add,h];exact k⟩
theorem gU.refl{P:Program}{m:Machine}{t:Trace}:gU P m t m t:=⟨0,rfl⟩
def uz(dead:Nat->Prop):Loc->Prop:=λl=>∃a,l=.cell a/\dead a.block
theorem Nj{S S':Loc->Prop}{B:Nat}{t:Trace}(h:Past S B t)(hs:∀l,S l->S' l):Past S' B t:=
 ⟨h.clean,λi a h1 h2=>(h.known i a h1 h2).imp id λx=>⟨hs _ x.1,x.2⟩,h.over,h.hears,h.seen⟩
section
variable{C C':Cx}{S:Sh}{dead:Nat->Prop}{A B:World}
theorem Lk.unique(h:Lk C S A B)(hp:∀b i,¬S.part b i)(b:Nat):A.heap[b]?=(mkA C S.dead B).heap[b]?:=by
 by_cases hd:S.dead b
 .obtain⟨c,e,f,h1,h2⟩:=h.dead b hd;rw[nu hd,h1,h2];rfl
 .rcases h.same b hd with ⟨e,hk⟩|⟨o,h1,h2,h3,_⟩|⟨cA,cB,e,f,h1,h2,_,h4⟩
  .rcases hx:B.heap[b]? with _|o
   .rw[e,hx,tJ hx]
   .rw[e,hx,lX hd hx (hk o (e.trans hx))]
  .rw[h3,oK hd h1 h2]
  .have:cA=cB:=Df (uQ λi=>by simp_all);subst this;rw[h1,qm hd h2]
theorem F3{b:Nat}{c:Array Value}{e:TypeId}{f:Nat×Nat}(h:(mkA C dead B).heap[b]?=some (.cells c e f)):(mkA C' dead B).heap[b]?=some (.cells c e f):=by
 by_cases hd:dead b
 .rw[nu hd] at h ⊢;exact h
 .rcases hx:B.heap[b]? with _|o
  .rw[tJ hx] at h;cases h
  .by_cases ho:okO C o
   .rw[lX hd hx ho] at h;obtain rfl:=eu h;exact qm hd hx
   .rw[oK hd hx ho] at h
    cases o<;>cases h
theorem tL{b:Nat}{c:Array Value}{e:TypeId}{f:Nat×Nat}(h:(mkA C dead B).heap[b]?=some (.cells c e f))(hd:¬dead b):B.heap[b]?=some (.cells c e f):=by
 rcases hx:B.heap[b]? with _|o
 .rw[tJ hx] at h;cases h
 .by_cases ho:okO C o
  .rw[lX hd hx ho] at h;exact h
  .rw[oK hd hx ho] at h
   cases o<;>cases h
theorem F4{b:Nat}{c:Array Value}{e:TypeId}{f:Nat×Nat}(h:(mkA C dead B).heap[b]?=some (.cells c e f))(hc:0<c.size):¬dead b:=λhd=>by
 rw[nu hd] at h
 rcases hx:B.heap[b]? with _|o
 .rw[hx] at h;cases h
 .rw[hx] at h
  cases o<;>simp[rZ] at h
  rw[h.1] at hc;simp at hc
theorem Nk{a:Addr}{v:Value}(h:A.cell? a=some v):∃c e f,A.heap[a.block]?=some (.cells c e f)/\0<c.size:=by
 unfold World.cell? at h
 grind
theorem F5{a:Addr}(h:A.heap[a.block]?=B.heap[a.block]?):A.cell? a=B.cell? a:=by
 unfold World.cell?;rw[h]
theorem Nl{a:Addr}{v:Value}(h:(mkA C dead B).cell? a=some v):¬dead a.block/\B.cell? a=some v:=by
 obtain⟨c,e,f,h1,h2⟩:=Nk h;have hd:=F4 h1 h2;exact⟨hd,by rw[F5 ((tL h1 hd).trans h1.symm)];exact h⟩
theorem Bel.congr{n:Nat}{A A' W W':World}(h:Bel n A A')(e1:∀b:Nat,A.heap[b]?=W.heap[b]?)(e2:∀b:Nat,A'.heap[b]?=W'.heap[b]?)(o1:A.os=W.os)(o2:A'.os=W'.os)(p1:A.output=W.output)(p2:A'.output=W'.output):Bel n W W':=by
 have s1:A.heap=W.heap:=I7 e1;have s2:A'.heap=W'.heap:=I7 e2;exact⟨by rw[<-o1,<-o2];exact h.os,by rw[<-p1,<-p2];exact h.output,by rw[<-s1,<-s2];exact h.size,λk hk=>by rw[<-e1,<-e2];exact h.block k hk⟩
end
structure Stg(C0:Cx)(P:Program)(K:iL)(dead:Nat->Prop)(gs:Array Goroutine)(B:World)(t:Trace)(q:Nat->Nat)(fr:Frame)(cs:List Frame):Prop where
 zero:gs[0]?=some (G fr cs)
 lD:jI C0 K dead B
 left:Leavers P t gs q
 nR:Past (uz dead) B.heap.size t
 n0:K.n0<=B.heap.size
section
variable{P P1 P0:Program}{C0:Cx}{K:iL}{dead:Nat->Prop}{gs:Array Goroutine}{B:World}{sl:Option (Nat×Nat)}{t:Trace}{q:Nat->Nat}{fr fr':Frame}{cs cs':List Frame}{bad:Nat->Prop}
theorem jI.Ip{S:Sh}{A:World}(h:Lk C0 S A B)(hp:∀b i,¬S.part b i)(hd:∀b,S.dead b->K.n0<=b)(ho:S.old=K.old):jI C0 K S.dead B:=by
 refine⟨λb hb=>⟨hd b hb,?_⟩,λb o b6 hx h'=>?_⟩
 .obtain⟨c,e,f,_,h2⟩:=h.dead b hb;exact⟨c,e,f,h2⟩
 .rcases h.same b b6 with ⟨e,hk⟩|⟨o',h1,_,_,h2⟩|⟨_,_,_,_,_,h1,_⟩
  .simp_all
  .rw[hx] at h1;simp_all
  .rw[hx] at h1;cases h1;exact absurd trivial h'
theorem wN(h:Stg C0 P K dead gs B t q fr cs)(ha:∀w,stepG P true (G fr cs) w=.go (G fr' cs') w #[]\/stepG P true (G fr cs) w=.go (G fr' cs') w #[]):∃h8 d h9 t' q',gU P (crowd gs B sl) t (crowd h8 (B.at d) h9) t'/\h8.size=gs.size/\Stg C0 P K dead h8 (B.at d) t' q' fr' cs':=by
 obtain⟨k,h8,w1,h9,t',q',hr,⟨d,rfl⟩,hm,h0,hL,hP⟩:=Ig (P:=P) (a:=G fr cs) (a':=G fr' cs') (B:=B) (sl:=sl) (n:=B.heap.size) id h.zero rfl h.left h.nR (aE _) λw1 _=>⟨#[],by rcases ha w1 with e|e<;>exact e,by simp⟩
 exact⟨h8,d,h9,t',q',⟨k,hr⟩,hm,h0,⟨h.lD.j7,h.lD.old⟩,hL,hP,h.n0⟩
theorem Nm(h:Stg C0 P K dead gs B t q fr cs){c:Array Value}{e:TypeId}(ha:∀w,AtRel B w->stepG P true (G fr cs) w=.go (G fr' cs') (w.alloc (.cells c e)) #[]):∃h8 B' h9 t' q',gU P (crowd gs B sl) t (crowd h8 B' h9) t'/\h8.size=gs.size/\h8[0]?=some (G fr' cs')/\jI C0 K dead B'/\Leavers P t' h8 q'/\Past (uz dead) B.heap.size t'/\B'.heap=B.heap.push (.cells c e)/\B'.os=B.os/\B'.output=B.output:=by
 obtain⟨k,h8,w1,h9,t',q',hr,⟨d,rfl⟩,hm,h0,hL,hP⟩:=Ig (P:=P) (a:=G fr cs) (a':=G fr' cs') (B:=B) (sl:=sl) (n:=B.heap.size) (λw=>w.alloc (.cells c e)) h.zero rfl h.left h.nR (aE _) λw1 hw=>⟨#[],ha w1 hw,by simp⟩
 refine⟨h8,_,h9,t',q',⟨k,hr⟩,hm,h0,⟨λb hb=>?_,λb o hd ho h'=>?_⟩,hL,hP,rfl,rfl,rfl⟩
 .obtain⟨h1,c',e',f',h2⟩:=h.lD.j7 b hb;have a7:=(bD.1 h2).1
  exact⟨h1,c',e',f',by
   show (B.heap.push _)[b]?=_
   rw[uP a7];simp_all⟩
 .change (B.heap.push _)[b]?=_ at ho
  rw[pR] at ho;split at ho
  .cases ho;exact absurd trivial h'
  .exact h.lD.old b o hd ho h'
theorem wO[XF:Xf](hc:@j8 _ eD P1 P bad)(b7:∀o,okO (Cc P1 P) o->okO C0 o)(h:Stg C0 P K dead gs B t q fr cs)(ag:b8 P1 P fr){Φ:Frame->List Frame->World->Prop}{N:Nat}(hT:@TN eD P1 cs.length cs.length Φ N fr cs (mkA (Cc P1 P) dead B))(hΦ:∀fr' cs' w,Φ fr' cs' w->cs'=cs/\Bel (mkA (Cc P1 P) dead B).heap.size (mkA (Cc P1 P) dead B) w)(hb:∀f args cs w,¬Φ (Frame.enter P1 f args .normal) cs w)(ha:∀fr cs w w1,Φ fr cs w->Bel w.heap.size w w1->Φ fr cs w1):∃h8 B' h9 t' q' fr' A',gU P (crowd gs B sl) t (crowd h8 B' h9) t'/\h8.size=gs.size/\Stg C0 P K dead h8 B' t' q' fr' cs/\Φ fr' cs A'/\b8 P1 P fr'/\(∀b:Nat,A'.heap[b]?=(mkA (Cc P1 P) dead B').heap[b]?)/\Bel B.heap.size (mkA C0 dead B) (mkA C0 dead B'):=by
 have hh:∀b,dead b->cQ B b:=λb hb=>(h.lD.j7 b hb).2
 have ae:de P1 P (shW dead B) cs fr cs (mkA (Cc P1 P) dead B) B:=⟨⟨[],rfl,by simp,by simp⟩,ag,M7 hh⟩;obtain⟨k,h8,B',h9,t',q',fr',cs',A',hr,hm,h0,b4,a6,hL,hP⟩:=M6 hc hb (λfr cs' w a7 bp=>by have:=(hΦ _ _ _ bp).1;simp_all) ha (S:=shW dead B) (λb i h=>h) N gs B sl t q _ fr cs h.zero ae h.left h.nR hT;obtain⟨rfl,au⟩:=hΦ _ _ _ b4;rw[dD] at au;have hB:=(M8 (C2:=C0) a6.lk hh au).1
 have hszX:B.heap.size<=B'.heap.size:=by have:=hB.size;rw[dD,dD] at this;exact this
 exact⟨h8,B',h9,t',q',fr',A',⟨k,hr⟩,hm,⟨h0,h.lD.step b7 a6.lk,hL,hP,bN h.n0 hszX⟩,b4,a6.ok,a6.lk.unique (λb i h=>h),hB⟩
theorem No[XF:Xf][EV:EnvD](hp:qI P0 P bad)(nS:rX P0 P K)(bb:∀f,¬Xf.bot f){f:FuncId}{args:Array Value}(ho:Frame.enter P f args .normal=Frame.enter P0 f args .normal)(aj:b8 P0 P (Frame.enter P0 f args .normal)){cl:Frame}(bv:gN cl)(h:Stg (Cc P0 P) P K dead gs B t q (Frame.enter P f args .normal) (cl::cs)){R:Ending->World->Prop}(hT:jA P0 f args (mkA (Cc P0 P) dead B) R)(bo:∀f args v,bad f->Frame.enter P0 f args .normal≠cl.finish v):∃h8 B' h9 t' q' af A' v,gU P (crowd gs B sl) t (crowd h8 B' h9) t'/\Stg (Cc P0 P) P K af h8 B' t' q' (cl.finish v) cs/\R (.returned v) A'/\(∀b:Nat,A'.heap[b]?=(mkA (Cc P0 P) af B').heap[b]?)/\A'.os=B'.os/\A'.output=B'.output:=by
 have bj:Sit P0 P K ⟨dead,λ_ _=>False,K.old⟩ (cl::cs) (Frame.enter P0 f args .normal) (cl::cs) (mkA (Cc P0 P) dead B) gs B t q:=
  ⟨⟨_,h.zero,.inl ⟨[],rfl,by simp,.inl ⟨ho,aj⟩⟩⟩,FN h.lD,λb i h=>h,λb hb=>(h.lD.j7 b hb).1,rfl,h.left,h.nR,h.n0⟩
 obtain⟨k,h8,B',h9,t',q',S',fr',cs',A',hr,b5,c2,v,hR,ag⟩:=Fw hp nS bb (base:=cl::cs) (λf args cs w hb bp=>by
  simp_all) (hT cl cs bv) _ gs B sl t q bj
 subst c2;subst ag;obtain⟨⟨fr2,h0,bk⟩,ai,b',c4,c9,hold,az,c8⟩:=b5
 rcases bk with ⟨pre,e,_⟩|⟨e,_⟩
 .have:=congrArg List.length e
  grind
 .subst e;exact⟨h8,B',h9,t',q',S'.dead,A',v,⟨k,hr⟩,⟨h0,jI.Ip ai b' c4 c9,hold,az,c8⟩,hR,ai.unique b',ai.os,ai.output⟩
end
section
variable[PL:ConcR.Payload][XF:Xf]{P P1:Program}{d:PhD}{s:Script}{bad:Nat->Prop}{C0:Cx}{K:iL}
open Go.ConcN (PayAt)
open Go.ConcR (WgAt wgBlock)
theorem Np(hs:eU P P1 d s)(hd:dU d)(hc:∀l k,@j8 _ (bn l d.F k) P1 P bad)(b7:∀o,okO (Cc P1 P) o->okO C0 o){gs:Array Goroutine}{B:World}{sl:Option (Nat×Nat)}{t:Trace}{q:Nat->Nat}{Bsz:Nat}{fr:Frame}(hm:gs.size=d.e0)(h0:gs[0]?=some (G fr s.base))(hr:jI C0 K d.dead B)(hL:Leavers P t gs q)(hP:Past (uz d.dead) Bsz t)(hB:Bsz<=d.Wg)(bf:d.lo0=B.heap.size)(b9:WgAt d.ty d.Wg B 0 0)(al:PayAt d.F d.n B)(a8:∀i,i<d.n->B.cell? ⟨d.F,i,none⟩=some d.v0)(ag:b8 P1 P fr)(hK:K.n0<=d.Wg)(hT:∃N,@TN (bn d.lo0 d.F d.n) P1 s.base.length s.base.length (λfr' cs' A'=>cs'=s.base/\if 0<d.n then s.I1 0 fr' A' else s.I3 fr' A') N fr s.base (mkA (Cc P1 P) (λb=>d.dead b\/b=d.Wg) B)):∃h8 B' h9 t' q' fr' A0,gU P (crowd gs B sl) t (crowd h8 B' h9) t'/\Stg C0 P K (λb=>d.dead b\/b=d.Wg) h8 B' t' q' (fr'.finish (.tuple #[])) s.base/\s.I3 fr' A0/\b8 P1 P fr'/\(∀i,i<d.n->∃Ai Si,s.Fin i Ai/\Lk (Cc P1 P) Si Ai B'/\(∀b k,Si.part b k->b=d.F/\k≠i))/\(∀b,b<d.lo0->b≠d.F->b≠d.Wg->B'.heap[b]?=B.heap[b]?)/\B'.os=B.os/\B'.output=B.output/\d.lo0<=B'.heap.size/\PayAt d.F d.n B':=by
 obtain⟨N,h8,B',h9,t',q',a5,h⟩:=M5 (S:=⟨d.dead,λ_ _=>False,λ_ _=>False⟩) hs hd hc hm h0 hL hP hB bf rfl (λb hb=>(hr.j7 b hb).2) b9 al a8 ag hT;obtain⟨fr',A0,S0,z1,z2,z3,z4,z5⟩:=h.zero;refine⟨h8,B',h9,t',q',fr',A0,⟨N,a5⟩,⟨z1,⟨λb hb=>?_,λb o b6 ho h'=>?_⟩,h.left,Nj h.nR λl hl=>?_,bN hK (Nat.le_of_lt (kD hd.wg h.size))⟩,z2,z3,h.Rx,h.same,h.os,h.output,h.size,h.pay⟩
 .rcases hb with hb|rfl
  .obtain⟨x1,c,e,f,x2⟩:=hr.j7 b hb;obtain⟨y1,y2,y3⟩:=hd.dead b hb;exact⟨x1,c,e,f,(h.same b y1 y2 y3).trans x2⟩
  .obtain⟨st,sm,hg⟩:=h.grp;exact⟨hK,_,_,_,hg⟩
 .by_cases a7:b<d.lo0
  .by_cases hF:b=d.F
   .subst hF;obtain⟨cF,hF,_⟩:=h.pay;rw[hF] at ho;cases ho;exact absurd trivial h'
   .have hW:b≠d.Wg:=λe=>b6 (.inr e)
    rw[h.same b a7 hF hW] at ho;exact hr.old b o (λx=>b6 (.inl x)) ho h'
  .exact absurd (b7 o (h.pq b o (by omega) ho)) h'
 .rcases hl with ⟨a,e1,e2⟩|⟨a,e1,e2⟩
  .exact⟨a,e1,.inl e2⟩
  .exact⟨a,e1,.inr e2⟩
end
end Go.Fc
