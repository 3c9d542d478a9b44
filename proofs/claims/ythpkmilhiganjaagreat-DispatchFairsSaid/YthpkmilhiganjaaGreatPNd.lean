/- Lemmas. -/
import Derived.Test.YthpkmilhiganjaaGreatPNc
import Derived.Test.YthpkmilhiganjaaGreatPMe
import Derived.Test.YthpkmilhiganjaaGreatPMc
set_option linter.all false
set_option maxHeartbeats 32000000
set_option maxRecDepth 100000
namespace Go.Fi
open Go Go.RowKit
open Go.Conc (G)
section
variable[EnvD]{P:Program}{n m N:Nat}{Φ:Frame->List Frame->World->Prop}{b:Frame}{a:Act}{k:List Item}{cs:List Frame}{w:World}{ops:Array Oper}
theorem nz{i:Nat}{rest:List Nat}{o:Oper}(ho:ops[i]?=some o)(hw:Region.wanted o (yielded ops a.tmps)=true)(hd:∀c,o.op≠.defer c)(hk:b.kind≠.early)(hn:n<=cs.length)(h:∀w1,EnvD.E w w1->(∀f,EnvD.D w1 (Go.Conc.listed P f a o w1))/\o.fq a (λa' w'=>TN P n m Φ N (b.atR a' (.inRegion ops rest::k)) cs w') ((execOp a.eval o).run P w1)):TN P n m Φ (N+1) (b.atR a (.inRegion ops (i::rest)::k)) cs w:=by
 refine .eD (λw1 e=>?_) hn;obtain⟨bn,hu⟩:=h w1 e;have hg:=uY (P:=P) (b:=b) (k:=k) (cs:=cs) (w:=w1) (rest:=rest) ho hw hd
 have b9:∀v,(b.atR a (.inRegion ops (i::rest)::k)).finish v=b.atR (a.put o.dst v) (.inRegion ops rest::k):=by
  intro v;rw[Frame.finish_atR,ho];rfl
 have bv:((b.atR a (.inRegion ops (i::rest)::k)).kind==CallKind.early)=false:=by simpa[Frame.atR] using hk
 have bw:EnvD.D w1 (seen P (b.atR a (.inRegion ops (i::rest)::k)).fn ((execOp a.eval o).events P w1 #[])++#[]):=by rw[mN];exact bn _
 generalize a6:(execOp a.eval o).run P w1=R at hu
 cases R with
 |halt x w'=>exact hu.elim
 |ok x w'=>
  cases x<;>simp only[Oper.fq] at hu
  .rename_i v;exact⟨b.atR (a.put o.dst v) (.inRegion ops rest::k),cs,w',_,by rw[hg,<-b9];simp only[stepG.apply,cz,Sem.runT_eq,a6,bv,dB,cP,GStep.after];rfl,dt,.inl rfl,bw,hu⟩
  .exact⟨b.atR (a.put o.dst undef) (.inRegion ops rest::k),cs,w',_,by rw[hg,<-b9];simp only[stepG.apply,cz,Sem.runT_eq,a6,bv,dB,cP,GStep.after];rfl,dt,.inl rfl,bw,hu⟩
variable(hn:n<=cs.length)
include hn
theorem mY(h:TN P n m Φ N (b.atR a k) cs w):TN P n m Φ (N+1) (b.atR a (.inRegion ops []::k)) cs w:=.quiet _ _ (λ_=>uX) dt (.inl rfl) h hn
theorem lX{id:Nat}(h:TN P n m Φ N (b.atR a (.inRegion ops (List.range ops.size)::k)) cs w):TN P n m Φ (N+1) (b.atR a (.code (.region id ops false)::k)) cs w:=.quiet _ _ (λ_=>yu) dt (.inl rfl) h hn
theorem im{x y:Code}(h:TN P n m Φ N (b.atR a (.code x::.code y::k)) cs w):TN P n m Φ (N+1) (b.atR a (.code (.seq x y)::k)) cs w:=.quiet _ _ (λ_=>yj) dt (.inl rfl) h hn
theorem FF(h:TN P n m Φ N (b.atR a k) cs w):TN P n m Φ (N+1) (b.atR a (.code .skip::k)) cs w:=.quiet _ _ (λ_=>yh) dt (.inl rfl) h hn
theorem AJ{c:Operand}{x y:Code}{t:Bool}(hc:a.eval c=.bool t)(h:TN P n m Φ N (b.atR a (.code (if t then x else y)::k)) cs w):TN P n m Φ (N+1) (b.atR a (.code (.cond c x y)::k)) cs w:=.quiet _ _ (λ_=>yk hc) dt (.inl rfl) h hn
theorem FG{id:Nat}{c:Code}(h:TN P n m Φ N (b.atR a (.code c::.inBlock id::k)) cs w):TN P n m Φ (N+1) (b.atR a (.code (.block id c)::k)) cs w:=.quiet _ _ (λ_=>ym) dt (.inl rfl) h hn
theorem Ni{id:Nat}(h:TN P n m Φ N (b.atR a k) cs w):TN P n m Φ (N+1) (b.atR a (.inBlock id::k)) cs w:=.quiet _ _ (λ_=>yi) dt (.inl rfl) h hn
theorem Nj{c:Code}(h:TN P n m Φ N (b.atR a (.code c::.inLoop c::k)) cs w):TN P n m Φ (N+1) (b.atR a (.code (.loop c)::k)) cs w:=.quiet _ _ (λ_=>yn) dt (.inl rfl) h hn
theorem Nk{c:Code}(h:TN P n m Φ N (b.atR a (.code c::.inLoop c::k)) cs w):TN P n m Φ (N+1) (b.atR a (.inLoop c::k)) cs w:=.quiet _ _ (λ_=>yo) dt (.inl rfl) h hn
theorem Nl{id:Nat}{k':List Item}(he:exitTo id k=some k')(h:TN P n m Φ N (b.atR a k') cs w):TN P n m Φ (N+1) (b.atR a (.code (.exit id)::k)) cs w:=.quiet _ _ (λ_=>yp he) dt (.inl rfl) h hn
omit hn in
theorem wJ{c:Code}{M:Nat}{Q:Exit->Act->World->Prop}(hc:c.wpN b.roundOf P M Q a w)(hk:b.kind≠.early)(hQ:∀e a w,Q e a w->e=.normal)(h:∀a w,Q .normal a w->TN P cs.length cs.length Φ N (b.atR a k) cs w):TN P cs.length cs.length Φ (N+M) (b.atR a (.code c::k)) cs w:=by
 refine (hc b k cs rfl hk).bind ?_
 rintro fr cs' w' ⟨rfl,e,a',hq,he⟩
 obtain rfl:=hQ _ _ _ hq;subst he;exact h a' w' hq
end
end Go.Fi
namespace Go.Fc
open Go Go.Conc Go.Fi
open Go.ConcN (PayAt Has RW WgLive WSit CTag WD RelBy phi Vc Ssum Fsum cnt sumTo isFin pend AllQuit)
open Go.ConcR (KK WgAt stA smA Payload)
section
variable[Payload][Xf]{P P1:Program}{d:PhD}{s:Script}{bad:Nat->Prop}
structure SE(P P1:Program)(d:PhD)(s:Script)(S:Sh)(B:World)(gs:Array Goroutine)(B':World)(t:Trace)(q:Nat->Nat):Prop where
 zero:∃fr A0 S0,gs[0]?=some (gC s fr)/\s.I3 fr A0/\dw P1 P fr/\Lk (Cc P1 P) S0 A0 B'/\(∀b k,S0.part b k->b=d.F)
 SF:∀i,i<d.n->∃Ai Si,s.Fin i Ai/\Lk (Cc P1 P) Si Ai B'/\(∀b k,Si.part b k->b=d.F/\k≠i)
 left:Leavers P t gs q
 oo:Past (λl=>nq S l\/∃a,l=.cell a/\a.block=d.Wg) B'.heap.size t
 pay:PayAt d.F d.n B'
 pt:∀b o,d.lo0<=b->B'.heap[b]?=some o->okO (Cc P1 P) o
 same:∀b,b<d.lo0->b≠d.F->b≠d.Wg->B'.heap[b]?=B.heap[b]?
 os:B'.os=B.os
 output:B'.output=B.output
 size:d.lo0<=B'.heap.size
 grp:∃st sm,WgAt d.ty d.Wg B' st sm
theorem WkS.IH{i l st m dd:Nat}{g:Goroutine}{S:Sh}{A B:World}(h:WkS P P1 d s i l st m dd g S A B)(h1:st=1):QuitsD P m dd g/\s.Fin i A/\¬S.part d.F i:=by
 cases h with
 |b0=>cases h1
 |b1=>cases h1
 |b2=>cases h1
 |b3 _ hp hF _ h5=>exact⟨h5.quits h1,hF,hp⟩
theorem Ny(hs:fV P P1 d s)(hd:fD d)(hc:∀l k,@lI _ (cO l d.F k) P1 P bad){gs:Array Goroutine}{B:World}{sl:Option (Nat×Nat)}{t:Trace}{q:Nat->Nat}{S:Sh}{Bsz:Nat}{fr:Frame}(a5:gs.size=d.e0)(h0:gs[0]?=some (G fr s.base))(hL:Leavers P t gs q)(hP:Past (nq S) Bsz t)(hB:Bsz<=d.Wg)(bp:d.lo0=B.heap.size)(hS:S.dead=d.dead)(hh:∀b,d.dead b->dF B b)(bi:WgAt d.ty d.Wg B 0 0)(b5:PayAt d.F d.n B)(ag:∀i,i<d.n->B.cell? ⟨d.F,i,none⟩=some d.v0)(ax:dw P1 P fr)(hT:∃N,@TN (cO d.lo0 d.F d.n) P1 s.base.length s.base.length (λfr' cs' A'=>cs'=s.base/\if 0<d.n then s.I1 0 fr' A' else s.I3 fr' A') N fr s.base (mkA (Cc P1 P) (λb=>d.dead b\/b=d.Wg) B)):∃N h8 B' h9 t' q',runNT P N (crowd gs B sl) t=(.next (crowd h8 B' h9),t')/\SE P P1 d s S B h8 B' t' q':=by
 obtain⟨N0,hT⟩:=hT
 have c7:∀b,d.dead b\/b=d.Wg->dF B b:=λb hb=>hb.elim (hh b) λe=>e▸⟨_,_,_,bi⟩
 let S0:Sh:=⟨λb=>d.dead b\/b=d.Wg,λb k=>b=d.F/\k≠d.n,λb o=>b<d.lo0/\B.heap[b]?=some o⟩
 let A0:=mkA (Cc P1 P) (λb=>d.dead b\/b=d.Wg) B
 have ay:Lk (Cc P1 P) S0 A0 B:=wG c7 λb o _ ho h'=>⟨by rw[bp];grind,ho⟩
 have hM:Mem (Cc P1 P) d 0 (λ_=>0) (λ_=>0) (λ_=>S0) (λ_=>A0) B B:=
  ⟨λp _=>ay,λb hb=>absurd rfl hb,λp h1 h2=>ab,λp _ b hb=>hb,λp hp b _ c2 _=>absurd ab c2,λp _ b o ho=>ho.1,λp _ b k hk=>hk.1,λp hp k hk=>⟨rfl,by
    obtain rfl:p=0:=by omega
    trivial⟩,λx=>x.2 rfl,b5,λi _ h=>ag i h,λb o hb ho=>by
    have:=(cT.1 ho).1
    omega,λ_ _ _ _=>rfl,rfl,rfl,ab⟩
 have aq:dP P1 P S0 s.base fr s.base A0 B:=⟨⟨[],rfl,ae,ae⟩,ax,ay⟩
 have cq:Trc d 0 (λ_=>0) (λ_=>0) gs.size t t B.heap.size (λ_=>(⟨0,0,0⟩:WD)) 0:=
  Nc hP (λb hb=>hS▸hb) hB (by have:=hd.wg;omega) hL.above _ _
 have eld:∀i,0<i->i<d.e0->∃g,gs[i]?=some g/\QuitsD P (q i) (Deaf t i) g:=λi h1 h2=>⟨gs[i]'ab,dE _,hL.old i _ h1 (dE _)⟩
 have bh:∀tag,ConcN.isOpen tag->pend tag=0->(∀vs,tag≠.w2 vs)->ConcN.Mode 0 (λ_=>(⟨0,0,0⟩:WD)) tag 0 0:=λtag h1 h2 h3=>by
  have:=ConcN.Mode.opn (j:=0) (D:=λ_=>(⟨0,0,0⟩:WD)) h1 (λi hi=>ab) (λvs e=>absurd e (h3 vs));simpa[Vc,sumTo,h2] using this
 have mk:∀tag f0,ConcN.isOpen tag->pend tag=0->(∀vs,tag≠.w2 vs)->StS P P1 d s (λ_=>0) tag 0 f0 0 (G fr s.base) S0 A0 B->∃μ,dW P P1 d s t B μ (crowd gs B sl) t:=λtag f0 h1 h2 h3 ha=>
  ⟨_,gs,B,sl,0,λ_=>⟨0,0,0⟩,tag,f0,0,_,q,λ_=>0,λ_=>0,λ_=>S0,λ_=>A0,0,0,rfl,⟨by rw[a5];rfl,h0,ha,eld,λi hi=>ab,hM,cq,bi,bh tag h1 h2 h3,λe=>by subst e;exact h1.elim,cG _,hh⟩,rfl⟩
 obtain⟨μ,hI⟩:∃μ,dW P P1 d s t B μ (crowd gs B sl) t:=by
  by_cases hn:0<d.n
  .simp only[cu hn] at hT
   have e0:d.n-(d.n-1+1)=0:=ab
   have ha:=StS.p6 (P:=P) (P1:=P1) (s:=s) (d:=d) (r:=d.n-1) (lo:=λ_=>0) ab aq (bU _) (λx h1 h2=>cG _) (by rw[e0];exact hT);rw[e0] at ha;exact mk (.sp (d.n-1) 6) N0 trivial rfl ae ha
  .simp only[bN hn] at hT
   have e0:d.n=0:=ab
   have ha:=StS.pk (P:=P) (P1:=P1) (s:=s) (d:=d) (lo:=λ_=>0) aq (bU _) (λx h1 h2=>cG _) hT;rw[e0] at ha;exact mk .kd (N0+s.NK+1) trivial rfl ae ha
 obtain⟨N,m',t',hr,h8,B',h9,D,f0,fr',q',own,lo,S',A',st,sm,rfl,h,hI3,cf⟩:=Nh hs hd hc μ _ _ hI;obtain⟨hq,e1,e2⟩:=h.mode.fin_inv trivial;obtain⟨qa,a1,a2,a3,a4⟩:=h.acq rfl;obtain⟨u,hu⟩:=h.trc.pre;refine⟨N,h8,B',h9,t',λi=>if i<d.e0 then q' i else (D (i-d.e0)).fuel,hr,⟨⟨fr',A' 0,S' 0,h.zero,hI3,cf,h.mem.lk 0 (cG _),h.mem.nu 0 (cG _)⟩,λi hi=>?_,⟨λi g hi hg=>?_,h.trc.above⟩,?_,h.mem.pay,h.mem.pt,h.mem.same,h.mem.os,h.mem.output,h.mem.size,⟨_,_,h.wg⟩⟩⟩
 .obtain⟨g,hg,hw⟩:=h.wk i hi;obtain⟨_,hF,hp⟩:=hw.IH (hq i hi);refine⟨A' (i+1),S' (i+1),hF,h.mem.lk (i+1) ab,λb k hk=>?_⟩;have hb:=h.mem.nu (i+1) ab b k hk
  grind
 .by_cases bo:i<d.e0
  .simp only[cu bo];obtain⟨g',b',ct⟩:=h.eld i hi bo;rw[hg] at b';simp_all
  .simp only[bN bo];have aa:=(cT.1 hg).1;rw[h.size] at aa;obtain⟨g',b',hw⟩:=h.wk (i-d.e0) ab;rw[show d.e0+(i-d.e0)=i by omega] at b';rw[hg] at b';cases b';obtain⟨hQ,_⟩:=hw.IH (hq _ ab);have:=h.trc.deafW (i-d.e0) ab;rw[show d.e0+(i-d.e0)=i by omega] at this;rw[this];exact hQ
 .refine M8 hP hu h.trc.tr.nr h.trc.ph h.trc.norel a1 a2 a3 (λg hg=>?_) h.trc.deaf0 h.trc.low;obtain⟨r,h1,h2⟩:=a4 (g-d.e0) ab;rw[show d.e0+(g-d.e0)=g by omega] at h1
  grind
end
end Go.Fc
namespace Go.Fc
open Go Go.Conc Go.Fi
open Go.ConcN (sumTo)
theorem FK{P:Program}{gs:Array Goroutine}{a a':Goroutine}{w':World}{t:Trace}{q:Nat->Nat}(hL:Leavers P t gs q)(ao:0<gs.size)(fn:FuncId)(pos:String)(es:Array Event):Leavers P (t++MemOp.ofEvents 0 fn pos es) ((gs.map (woken P a a' w')).setIfInBounds 0 a') q:=
 ⟨λj x hj hx=>by
   rw[uU ab,yb] at hx;obtain⟨y,hy,rfl⟩:=sS.1 hx;have hq:=hL.old j y hj hy;rw[woken_quitsD hq,Deaf_other t (g':=0) ab _ (λop bq=>by obtain⟨e,_,rfl⟩:=Go.Conc.mem_ofEvents bq;rfl)]
   exact hq,
  λj hj=>by
   have cg:gs.size<=j:=ak
   rw[Deaf_other t (g':=0) ab _ (λop bq=>by obtain⟨e,_,rfl⟩:=Go.Conc.mem_ofEvents bq;rfl)]
   exact hL.above j cg⟩
theorem II{P:Program}{Shun:Loc->Prop}{gs:Array Goroutine}{a a':Goroutine}{B:World}{sl:Option (Nat×Nat)}{t:Trace}{q:Nat->Nat}{n:Nat}(f:World->World)(h0:gs[0]?=some a)(a6:a.status=.running)(hL:Leavers P t gs q)(hP:Past Shun B.heap.size t)(hn:B.heap.size<=n)(ha:∀w1,AtRel B w1->∃es,stepG P true a w1=.go a' (f w1) es/\∀e∈es,Go.Conc.EvL Shun n e):∃K h8 w1 h9 t' q',runNT P K (crowd gs B sl) t=(.next (crowd h8 (f w1) h9),t')/\AtRel B w1/\h8.size=gs.size/\h8[0]?=some a'/\Leavers P t' h8 q'/\Past Shun n t':=by
 obtain⟨N,h8,w',h9,t',q',d,sl2,hr,a5,b7,bk,bl,hat,b6⟩:=AD (P:=P) (a:=a) a6 _ gs B sl t q (bU _) h0 hL hP;obtain⟨es,hs,c9⟩:=ha (w'.at d) hat;have hrunT:=runT_crowd_go (P:=P) (sl:=sl2) (i:=0) b7 (show stepG P (0==0) a (w'.at d)=_ from hs);have ao:0<h8.size:=(cT.1 b7).1;refine⟨N+1,(h8.map (woken P a a' (f (w'.at d)))).setIfInBounds 0 a',w'.at d,sl2,t'++MemOp.ofEvents 0 a.frame.fn a.frame.place es,q',?_,hat,?_,?_,FK bk ao _ _ es,(bl.mono hn).own c9⟩
 .rw[runNT_add,hr];show runNT P 1 _ _=_;simp only[runNT,b6,hrunT]
 .simp[a5]
 grind
@[reducible] def fM:EnvD where
 E w w':=Bel w.heap.size w w'
 ext h:=h
 xt _ _ _ _:=False
 D _ _:=True
 nil _:=trivial
variable[Xf]
theorem Nz{P P1:Program}{bad:Nat->Prop}(hc:@lI _ fM P1 P bad){base:List Frame}{Φ:Frame->List Frame->World->Prop}(hb:∀f args cs w,¬Φ (Frame.enter P1 f args .normal) cs w)(hΦ2:∀fr cs w,cs.length<base.length->¬Φ fr cs w)(ha:∀fr cs w w1,Φ fr cs w->Bel w.heap.size w w1->Φ fr cs w1){S:Sh}(bj:∀b i,¬S.part b i):∀(N:Nat)(gs:Array Goroutine)(B:World)(sl:Option (Nat×Nat))(t:Trace)(q:Nat->Nat)(A:World)(fr:Frame)(cs:List Frame),gs[0]?=some (G fr cs)->dP P1 P S base fr cs A B->Leavers P t gs q->Past (nq S) B.heap.size t->@TN fM P1 base.length base.length Φ N fr cs A->∃K h8 B' h9 t' q' fr' cs' A',runNT P K (crowd gs B sl) t=(.next (crowd h8 B' h9),t')/\h8.size=gs.size/\h8[0]?=some (G fr' cs')/\Φ fr' cs' A'/\dP P1 P S base fr' cs' A' B'/\Leavers P t' h8 q'/\Past (nq S) B'.heap.size t':=by
 intro N
 induction N with
 |zero=>intro gs B sl t q A fr cs h0 aq hL hP hT;exact⟨0,gs,B,sl,t,q,fr,cs,A,rfl,rfl,h0,hT,aq,hL,hP⟩
 |succ N ih=>
  intro gs B sl t q A fr cs h0 aq hL hP hT;by_cases hΦ:Φ fr cs A
  .exact⟨0,gs,B,sl,t,q,fr,cs,A,rfl,rfl,h0,hΦ,aq,hL,hP⟩
  obtain⟨K,h8,w',h9,t',q',d,sl2,hr,a5,b7,bk,bl,⟨d2,hat⟩,b6⟩:=AD (P:=P) (a:=G fr cs) rfl _ gs B sl t q (bU _) h0 hL hP
  have br:dP P1 P S base fr cs A (w'.at d):=by rw[hat];exact⟨aq.pre,aq.ok,aq.lk.drawn d2⟩
  rcases @AE _ fM P1 P bad S base Φ hc true (.inl rfl) (λw es _ e _ a _=>bj _ _) (λf args cs w _=>hb f args cs w) hΦ2 fr cs A (w'.at d) N br hT with hw|⟨fr',cs',A',B',es,hgo,a9,⟨A2,e1,e2,e3,c4⟩,cv,hk,bn,_,cp⟩
  .trivial
  .have hrunT:=runT_crowd_go (P:=P) (sl:=sl2) (i:=0) b7 (show stepG P (0==0) (G fr cs) (w'.at d)=_ from hgo);have ao:0<h8.size:=(cT.1 b7).1
   have hszB:B.heap.size<=B'.heap.size:=by have:=hk.size;rw[hat] at this;exact this
   have hT2:@TN fM P1 base.length base.length Φ N fr' cs' A':=
    @TN.rely fM _ _ _ _ oT ha _ _ _ _ _ c4 ⟨e2.symm,e3.symm,by rw[e1];simp,λb _=>by rw[e1]⟩
   obtain⟨K2,gs2,B2,sl3,t2,q2,fr2,cs2,A3,x1,x2,x3,x4,x5,x6,x7⟩:=ih ((h8.map (woken P (G fr cs) (G fr' cs') B')).setIfInBounds 0 (G fr' cs')) B' sl2 (t'++MemOp.ofEvents 0 (G fr cs).frame.fn (G fr cs).frame.place es) q' A' fr' cs' (by simp[ao]) a9 (FK bk ao _ _ es) ((bl.mono hszB).own λe he=>Fu (bn e he)) hT2;refine⟨K+(1+K2),gs2,B2,sl3,t2,q2,fr2,cs2,A3,?_,by rw[x2];simp[a5],x3,x4,x5,x6,x7⟩;rw[runNT_add,hr];show runNT P (1+K2) _ _=_;rw[runNT_add];simp only[runNT,b6,hrunT];exact x1
section
variable{C C0:Cx}{dead:Nat->Prop}{B B' A':World}{K:je}
structure ky(C0:Cx)(K:je)(dead:Nat->Prop)(B:World):Prop where
 lH:∀b,dead b->K.n0<=b/\dF B b
 old:∀b o,¬dead b->B.heap[b]?=some o->¬okO C0 o->K.old b o
def shW(dead:Nat->Prop)(B:World):Sh:=⟨dead,λ_ _=>False,λb o=>b<B.heap.size/\B.heap[b]?=some o⟩
omit [Xf] in
theorem NA(h:∀b,dead b->dF B b):Lk C (shW dead B) (mkA C dead B) B:=wG h λb o _ ho _=>⟨(cT.1 ho).1,ho⟩
omit [Xf] in
theorem FM(h:ky C0 K dead B):Lk C0 ⟨dead,λ_ _=>False,K.old⟩ (mkA C0 dead B) B:=wG (λb hb=>(h.lH b hb).2) h.old
omit [Xf] in
theorem FN(b:Nat)(o:Obj):¬okO C (jC b o):=by cases o<;>exact id
omit [Xf] in
theorem ky.step(h:ky C0 K dead B)(bg:∀o,okO C o->okO C0 o)(hl:Lk C (shW dead B) A' B'):ky C0 K dead B':=by
 refine⟨λb hb=>⟨(h.lH b hb).1,?_⟩,λb o hd ho h'=>?_⟩
 .obtain⟨c,e,f,_,h2⟩:=hl.dead b hb;exact⟨c,e,f,h2⟩
 .rcases hl.same b hd with ⟨e,hk⟩|⟨o',h1,_,_,h2⟩|⟨_,_,_,_,_,h1,_⟩
  .simp_all
  .rw[ho] at h1;cases h1;exact h.old b o hd h2.2 h'
  .rw[ho] at h1;cases h1;exact absurd trivial h'
omit [Xf] in
theorem NB(hl:Lk C (shW dead B) A' B')(hh:∀b,dead b->dF B b)(hb:Bel B.heap.size (mkA C dead B) A'){C2:Cx}:Bel B.heap.size (mkA C2 dead B) (mkA C2 dead B')/\(∀b,b<B.heap.size->¬dead b->B'.heap[b]?=B.heap[b]?):=by
 have key:∀b,b<B.heap.size->¬dead b->B'.heap[b]?=B.heap[b]?:=λb aa hd=>by
  have hA:=hb.block b aa;obtain⟨o,hx⟩:∃o,B.heap[b]?=some o:=⟨_,dE aa⟩
  rcases hl.same b hd with ⟨e,hk⟩|⟨o',h1,_,h3,h4⟩|⟨cA,cB,e,f,h1,h2,h3,h4⟩
  .rw[<-e,hA];by_cases b4:okO C o
   .rw[mX hd hx b4,hx]
   .rw[oS hd hx b4] at hA;exact absurd (hk _ hA) (FN b o)
  .rw[h1,h4.2]
  .have hc:cA=cB:=Da (Db λi=>by simpa using h4 i (λx=>x));subst hc;rw[h2,<-h1,hA];by_cases b4:okO C o
   .rw[mX hd hx b4,hx]
   .rw[oS hd hx b4,h1] at hA;have:=FN (C:=C) b o;rw[<-fK hA] at this;exact absurd trivial this
 have hszA:(mkA C dead B).heap.size=B.heap.size:=eu
 have a5:B.heap.size<=B'.heap.size:=by rw[<-hl.size,<-hszA];exact hb.size
 refine⟨⟨?_,?_,?_,λb aa=>?_⟩,key⟩
 .show B'.os=B.os;rw[<-hl.os];exact hb.os
 .show B'.output=B.output;rw[<-hl.output];exact hb.output
 .rw[eu,eu];exact a5
 .by_cases hd:dead b
  .obtain⟨c,e,f,hc⟩:=hh b hd;obtain⟨c',e',f',h1,h2⟩:=hl.dead b hd;have hA:=hb.block b aa;rw[nQ hd,hc] at hA;rw[h1] at hA;rw[nQ hd,nQ hd,hc,h2];trivial
  .simp only[mkA,sX,key b aa hd]
end
def iD(P:Program)(m:Machine)(t:Trace)(m':Machine)(t':Trace):Prop:=∃N,runNT P N m t=(.next m',t')
theorem iD.trans{P:Program}{m m1 m2:Machine}{t t1 t2:Trace}(h:iD P m t m1 t1)(k:iD P m1 t1 m2 t2):iD P m t m2 t2:=by
 obtain⟨N,h⟩:=h;obtain⟨M,k⟩:=k;exact⟨N+M,by rw[runNT_add,h];exact k⟩
theorem iD.refl{P:Program}{m:Machine}{t:Trace}:iD P m t m t:=⟨0,rfl⟩
def uE(dead:Nat->Prop):Loc->Prop:=λl=>∃a,l=.cell a/\dead a.block
theorem NO{S S':Loc->Prop}{B:Nat}{t:Trace}(h:Past S B t)(hs:∀l,S l->S' l):Past S' B t:=
 ⟨h.clean,λi a h1 h2=>(h.known i a h1 h2).imp id λx=>⟨hs _ x.1,x.2⟩,h.over,h.hears,h.seen⟩
section
variable{C C':Cx}{S:Sh}{dead:Nat->Prop}{A B:World}
theorem Lk.unique(h:Lk C S A B)(hp:∀b i,¬S.part b i)(b:Nat):A.heap[b]?=(mkA C S.dead B).heap[b]?:=by
 by_cases hd:S.dead b
 .obtain⟨c,e,f,h1,h2⟩:=h.dead b hd;rw[nQ hd,h1,h2];rfl
 .rcases h.same b hd with ⟨e,hk⟩|⟨o,h1,h2,h3,_⟩|⟨cA,cB,e,f,h1,h2,_,h4⟩
  .rcases hx:B.heap[b]? with _|o
   .rw[e,hx,tM hx]
   .rw[e,hx,mX hd hx (hk o (e.trans hx))]
  .rw[h3,oS hd h1 h2]
  .have:cA=cB:=Da (Db λi=>al);subst this;rw[h1,qg hd h2]
theorem F7{b:Nat}{c:Array Value}{e:TypeId}{f:Nat×Nat}(h:(mkA C dead B).heap[b]?=some (.cells c e f)):(mkA C' dead B).heap[b]?=some (.cells c e f):=by
 by_cases hd:dead b
 .rw[nQ hd] at h ⊢;exact h
 .rcases hx:B.heap[b]? with _|o
  .rw[tM hx] at h;cases h
  .by_cases ho:okO C o
   .rw[mX hd hx ho] at h;obtain rfl:=fK h;exact qg hd hx
   .rw[oS hd hx ho] at h
    cases o<;>cases h
theorem tO{b:Nat}{c:Array Value}{e:TypeId}{f:Nat×Nat}(h:(mkA C dead B).heap[b]?=some (.cells c e f))(hd:¬dead b):B.heap[b]?=some (.cells c e f):=by
 rcases hx:B.heap[b]? with _|o
 .rw[tM hx] at h;cases h
 .by_cases ho:okO C o
  .rw[mX hd hx ho] at h;exact h
  .rw[oS hd hx ho] at h
   cases o<;>cases h
theorem F8{b:Nat}{c:Array Value}{e:TypeId}{f:Nat×Nat}(h:(mkA C dead B).heap[b]?=some (.cells c e f))(hc:0<c.size):¬dead b:=λhd=>by
 rw[nQ hd] at h
 rcases hx:B.heap[b]? with _|o
 .rw[hx] at h;cases h
 .rw[hx] at h
  cases o<;>simp[r5] at h
  rw[h.1] at hc;simp at hc
theorem NQ{a:Addr}{v:Value}(h:A.cell? a=some v):∃c e f,A.heap[a.block]?=some (.cells c e f)/\0<c.size:=by
 unfold World.cell? at h
 grind
theorem F9{a:Addr}(h:A.heap[a.block]?=B.heap[a.block]?):A.cell? a=B.cell? a:=by
 unfold World.cell?;rw[h]
theorem NR{a:Addr}{v:Value}(h:(mkA C dead B).cell? a=some v):¬dead a.block/\B.cell? a=some v:=by
 obtain⟨c,e,f,h1,h2⟩:=NQ h;have hd:=F8 h1 h2;exact⟨hd,by rw[F9 ((tO h1 hd).trans h1.symm)];exact h⟩
theorem Bel.congr{n:Nat}{A A' W W':World}(h:Bel n A A')(e1:∀b:Nat,A.heap[b]?=W.heap[b]?)(e2:∀b:Nat,A'.heap[b]?=W'.heap[b]?)(o1:A.os=W.os)(o2:A'.os=W'.os)(p1:A.output=W.output)(p2:A'.output=W'.output):Bel n W W':=by
 have s1:A.heap=W.heap:=Jy e1;have s2:A'.heap=W'.heap:=Jy e2;exact⟨by rw[<-o1,<-o2];exact h.os,by rw[<-p1,<-p2];exact h.output,by rw[<-s1,<-s2];exact h.size,λk hk=>by rw[<-e1,<-e2];exact h.block k hk⟩
end
structure Stg(C0:Cx)(P:Program)(K:je)(dead:Nat->Prop)(gs:Array Goroutine)(B:World)(t:Trace)(q:Nat->Nat)(fr:Frame)(cs:List Frame):Prop where
 zero:gs[0]?=some (G fr cs)
 mA:ky C0 K dead B
 left:Leavers P t gs q
 oo:Past (uE dead) B.heap.size t
 n0:K.n0<=B.heap.size
section
variable{P P1 P0:Program}{C0:Cx}{K:je}{dead:Nat->Prop}{gs:Array Goroutine}{B:World}{sl:Option (Nat×Nat)}{t:Trace}{q:Nat->Nat}{fr fr':Frame}{cs cs':List Frame}{bad:Nat->Prop}
theorem ky.IS{S:Sh}{A:World}(h:Lk C0 S A B)(hp:∀b i,¬S.part b i)(hd:∀b,S.dead b->K.n0<=b)(ho:S.old=K.old):ky C0 K S.dead B:=by
 refine⟨λb hb=>⟨hd b hb,?_⟩,λb o bf hx h'=>?_⟩
 .obtain⟨c,e,f,_,h2⟩:=h.dead b hb;exact⟨c,e,f,h2⟩
 .rcases h.same b bf with ⟨e,hk⟩|⟨o',h1,_,_,h2⟩|⟨_,_,_,_,_,h1,_⟩
  .simp_all
  .rw[hx] at h1;simp_all
  .rw[hx] at h1;cases h1;exact absurd trivial h'
theorem wO(h:Stg C0 P K dead gs B t q fr cs)(ha:∀w,stepG P true (G fr cs) w=.go (G fr' cs') w #[]\/stepG P true (G fr cs) w=.go (G fr' cs') w #[]):∃h8 d h9 t' q',iD P (crowd gs B sl) t (crowd h8 (B.at d) h9) t'/\h8.size=gs.size/\Stg C0 P K dead h8 (B.at d) t' q' fr' cs':=by
 obtain⟨k,h8,w1,h9,t',q',hr,⟨d,rfl⟩,a5,h0,hL,hP⟩:=II (P:=P) (a:=G fr cs) (a':=G fr' cs') (B:=B) (sl:=sl) (n:=B.heap.size) id h.zero rfl h.left h.oo (bU _) λw1 _=>⟨#[],by rcases ha w1 with e|e<;>exact e,ae⟩
 exact⟨h8,d,h9,t',q',⟨k,hr⟩,a5,h0,⟨h.mA.lH,h.mA.old⟩,hL,hP,h.n0⟩
theorem NS(h:Stg C0 P K dead gs B t q fr cs){c:Array Value}{e:TypeId}(ha:∀w,AtRel B w->stepG P true (G fr cs) w=.go (G fr' cs') (w.alloc (.cells c e)) #[]):∃h8 B' h9 t' q',iD P (crowd gs B sl) t (crowd h8 B' h9) t'/\h8.size=gs.size/\h8[0]?=some (G fr' cs')/\ky C0 K dead B'/\Leavers P t' h8 q'/\Past (uE dead) B.heap.size t'/\B'.heap=B.heap.push (.cells c e)/\B'.os=B.os/\B'.output=B.output:=by
 obtain⟨k,h8,w1,h9,t',q',hr,⟨d,rfl⟩,a5,h0,hL,hP⟩:=II (P:=P) (a:=G fr cs) (a':=G fr' cs') (B:=B) (sl:=sl) (n:=B.heap.size) (λw=>w.alloc (.cells c e)) h.zero rfl h.left h.oo (bU _) λw1 hw=>⟨#[],ha w1 hw,ae⟩
 refine⟨h8,_,h9,t',q',⟨k,hr⟩,a5,h0,⟨λb hb=>?_,λb o hd ho h'=>?_⟩,hL,hP,rfl,rfl,rfl⟩
 .obtain⟨h1,c',e',f',h2⟩:=h.mA.lH b hb;have aa:=(cT.1 h2).1
  exact⟨h1,c',e',f',by
   show (B.heap.push _)[b]?=_
   rw[uV aa];simp_all⟩
 .change (B.heap.push _)[b]?=_ at ho
  rw[pL] at ho;split at ho
  .cases ho;exact absurd trivial h'
  .exact h.mA.old b o hd ho h'
theorem wP[XF:Xf](hc:@lI _ fM P1 P bad)(bg:∀o,okO (Cc P1 P) o->okO C0 o)(h:Stg C0 P K dead gs B t q fr cs)(ax:dw P1 P fr){Φ:Frame->List Frame->World->Prop}{N:Nat}(hT:@TN fM P1 cs.length cs.length Φ N fr cs (mkA (Cc P1 P) dead B))(hΦ:∀fr' cs' w,Φ fr' cs' w->cs'=cs/\Bel (mkA (Cc P1 P) dead B).heap.size (mkA (Cc P1 P) dead B) w)(hb:∀f args cs w,¬Φ (Frame.enter P1 f args .normal) cs w)(ha:∀fr cs w w1,Φ fr cs w->Bel w.heap.size w w1->Φ fr cs w1):∃h8 B' h9 t' q' fr' A',iD P (crowd gs B sl) t (crowd h8 B' h9) t'/\h8.size=gs.size/\Stg C0 P K dead h8 B' t' q' fr' cs/\Φ fr' cs A'/\dw P1 P fr'/\(∀b:Nat,A'.heap[b]?=(mkA (Cc P1 P) dead B').heap[b]?)/\Bel B.heap.size (mkA C0 dead B) (mkA C0 dead B'):=by
 have hh:∀b,dead b->dF B b:=λb hb=>(h.mA.lH b hb).2
 have aq:dP P1 P (shW dead B) cs fr cs (mkA (Cc P1 P) dead B) B:=⟨⟨[],rfl,ae,ae⟩,ax,NA hh⟩;obtain⟨k,h8,B',h9,t',q',fr',cs',A',hr,a5,h0,bb,a9,hL,hP⟩:=Nz hc hb (λfr cs' w aa c3=>by have:=(hΦ _ _ _ c3).1;simp_all) ha (S:=shW dead B) (λb i h=>h) N gs B sl t q _ fr cs h.zero aq h.left h.oo hT;obtain⟨rfl,b8⟩:=hΦ _ _ _ bb;rw[eu] at b8;have hB:=(NB (C2:=C0) a9.lk hh b8).1
 have hszX:B.heap.size<=B'.heap.size:=by have:=hB.size;rw[eu,eu] at this;exact this
 exact⟨h8,B',h9,t',q',fr',A',⟨k,hr⟩,a5,⟨h0,h.mA.step bg a9.lk,hL,hP,dN h.n0 hszX⟩,bb,a9.ok,a9.lk.unique (λb i h=>h),hB⟩
theorem NT[XF:Xf][EV:EnvD](hp:qD P0 P bad)(ou:rY P0 P K)(bm:∀f,¬Xf.bot f){f:FuncId}{args:Array Value}(ho:Frame.enter P f args .normal=Frame.enter P0 f args .normal)(b4:dw P0 P (Frame.enter P0 f args .normal)){cl:Frame}(c5:iq cl)(h:Stg (Cc P0 P) P K dead gs B t q (Frame.enter P f args .normal) (cl::cs)){R:Ending->World->Prop}(hT:j1 P0 f args (mkA (Cc P0 P) dead B) R)(c2:∀f args v,bad f->Frame.enter P0 f args .normal≠cl.finish v):∃h8 B' h9 t' q' aw A' v,iD P (crowd gs B sl) t (crowd h8 B' h9) t'/\Stg (Cc P0 P) P K aw h8 B' t' q' (cl.finish v) cs/\R (.returned v) A'/\(∀b:Nat,A'.heap[b]?=(mkA (Cc P0 P) aw B').heap[b]?)/\A'.os=B'.os/\A'.output=B'.output:=by
 have bt:Sit P0 P K ⟨dead,λ_ _=>False,K.old⟩ (cl::cs) (Frame.enter P0 f args .normal) (cl::cs) (mkA (Cc P0 P) dead B) gs B t q:=
  ⟨⟨_,h.zero,.inl ⟨[],rfl,ae,.inl ⟨ho,b4⟩⟩⟩,FM h.mA,λb i h=>h,λb hb=>(h.mA.lH b hb).1,rfl,h.left,h.oo,h.n0⟩
 obtain⟨k,h8,B',h9,t',q',S',fr',cs',A',hr,bc,c6,v,hR,ax⟩:=Fv hp ou bm (base:=cl::cs) (λf args cs w hb c3=>by
  simp_all) (hT cl cs c5) _ gs B sl t q bt
 subst c6;subst ax;obtain⟨⟨fr2,h0,bu⟩,ay,bj,c8,co,hold,ba,cm⟩:=bc
 rcases bu with ⟨pre,e,_⟩|⟨e,_⟩
 .have:=congrArg List.length e
  grind
 .subst e;exact⟨h8,B',h9,t',q',S'.dead,A',v,⟨k,hr⟩,⟨h0,ky.IS ay bj c8 co,hold,ba,cm⟩,hR,ay.unique bj,ay.os,ay.output⟩
end
section
variable[PL:ConcR.Payload][XF:Xf]{P P1:Program}{d:PhD}{s:Script}{bad:Nat->Prop}{C0:Cx}{K:je}
open Go.ConcN (PayAt)
open Go.ConcR (WgAt wgBlock)
theorem NU(hs:fV P P1 d s)(hd:fD d)(hc:∀l k,@lI _ (cO l d.F k) P1 P bad)(bg:∀o,okO (Cc P1 P) o->okO C0 o){gs:Array Goroutine}{B:World}{sl:Option (Nat×Nat)}{t:Trace}{q:Nat->Nat}{Bsz:Nat}{fr:Frame}(a5:gs.size=d.e0)(h0:gs[0]?=some (G fr s.base))(hr:ky C0 K d.dead B)(hL:Leavers P t gs q)(hP:Past (uE d.dead) Bsz t)(hB:Bsz<=d.Wg)(bp:d.lo0=B.heap.size)(bi:WgAt d.ty d.Wg B 0 0)(b5:PayAt d.F d.n B)(ag:∀i,i<d.n->B.cell? ⟨d.F,i,none⟩=some d.v0)(ax:dw P1 P fr)(hK:K.n0<=d.Wg)(hT:∃N,@TN (cO d.lo0 d.F d.n) P1 s.base.length s.base.length (λfr' cs' A'=>cs'=s.base/\if 0<d.n then s.I1 0 fr' A' else s.I3 fr' A') N fr s.base (mkA (Cc P1 P) (λb=>d.dead b\/b=d.Wg) B)):∃h8 B' h9 t' q' fr' A0,iD P (crowd gs B sl) t (crowd h8 B' h9) t'/\Stg C0 P K (λb=>d.dead b\/b=d.Wg) h8 B' t' q' (fr'.finish (.tuple #[])) s.base/\s.I3 fr' A0/\dw P1 P fr'/\(∀i,i<d.n->∃Ai Si,s.Fin i Ai/\Lk (Cc P1 P) Si Ai B'/\(∀b k,Si.part b k->b=d.F/\k≠i))/\(∀b,b<d.lo0->b≠d.F->b≠d.Wg->B'.heap[b]?=B.heap[b]?)/\B'.os=B.os/\B'.output=B.output/\d.lo0<=B'.heap.size/\PayAt d.F d.n B':=by
 obtain⟨N,h8,B',h9,t',q',a6,h⟩:=Ny (S:=⟨d.dead,λ_ _=>False,λ_ _=>False⟩) hs hd hc a5 h0 hL hP hB bp rfl (λb hb=>(hr.lH b hb).2) bi b5 ag ax hT;obtain⟨fr',A0,S0,z1,z2,z3,z4,z5⟩:=h.zero;refine⟨h8,B',h9,t',q',fr',A0,⟨N,a6⟩,⟨z1,⟨λb hb=>?_,λb o bf ho h'=>?_⟩,h.left,NO h.oo λl hl=>?_,dN hK (Nat.le_of_lt (lO hd.wg h.size))⟩,z2,z3,h.SF,h.same,h.os,h.output,h.size,h.pay⟩
 .rcases hb with hb|rfl
  .obtain⟨x1,c,e,f,x2⟩:=hr.lH b hb;obtain⟨y1,y2,y3⟩:=hd.dead b hb;exact⟨x1,c,e,f,(h.same b y1 y2 y3).trans x2⟩
  .obtain⟨st,sm,hg⟩:=h.grp;exact⟨hK,_,_,_,hg⟩
 .by_cases aa:b<d.lo0
  .by_cases hF:b=d.F
   .subst hF;obtain⟨cF,hF,_⟩:=h.pay;rw[hF] at ho;cases ho;exact absurd trivial h'
   .have hW:b≠d.Wg:=λe=>bf (.inr e)
    rw[h.same b aa hF hW] at ho;exact hr.old b o (λx=>bf (.inl x)) ho h'
  .exact absurd (bg o (h.pt b o ab ho)) h'
 .rcases hl with ⟨a,e1,e2⟩|⟨a,e1,e2⟩
  .exact⟨a,e1,.inl e2⟩
  .exact⟨a,e1,.inr e2⟩
end
end Go.Fc
