/- Lemmas. -/
import Derived.Test.YthpkmilhiganjaaGreatPNc
import Derived.Test.YthpkmilhiganjaaGreatPMe
import Derived.Test.YthpkmilhiganjaaGreatPMc
set_option linter.all false
set_option maxHeartbeats 32000000
set_option maxRecDepth 100000
namespace Go.Fi
open Go Go.RowKit
open Go.Conc (G)
section
variable[EnvD]{P:Program}{n m N:Nat}{Φ:Frame->List Frame->World->Prop}{b:Frame}{a:Act}{k:List Item}{cs:List Frame}{w:World}{ops:Array Oper}
theorem nD{i:Nat}{rest:List Nat}{o:Oper}(ho:ops[i]?=some o)(hw:Region.wanted o (yielded ops a.tmps)=true)(hd:∀c,o.op≠.defer c)(hk:b.kind≠.early)(hn:n<=cs.length)(h:∀w1,EnvD.E w w1->(∀f,EnvD.D w1 (Go.Conc.listed P f a o w1))/\o.fD a (λa' w'=>TN P n m Φ N (b.atR a' (.inRegion ops rest::k)) cs w') ((execOp a.eval o).run P w1)):TN P n m Φ (N+1) (b.atR a (.inRegion ops (i::rest)::k)) cs w:=by
 refine .eh (λw1 e=>?_) hn;obtain⟨bl,hu⟩:=h w1 e;have hg:=va (P:=P) (b:=b) (k:=k) (cs:=cs) (w:=w1) (rest:=rest) ho hw hd
 have b8:∀v,(b.atR a (.inRegion ops (i::rest)::k)).finish v=b.atR (a.put o.dst v) (.inRegion ops rest::k):=by
  intro v;rw[Frame.finish_atR,ho];rfl
 have bt:((b.atR a (.inRegion ops (i::rest)::k)).kind==CallKind.early)=false:=by simpa[Frame.atR] using hk
 have bu:EnvD.D w1 (seen P (b.atR a (.inRegion ops (i::rest)::k)).fn ((execOp a.eval o).events P w1 #[])++#[]):=by rw[mU];exact bl _
 generalize a5:(execOp a.eval o).run P w1=R at hu
 cases R with
 |halt x w'=>exact hu.elim
 |ok x w'=>
  cases x<;>simp only[Oper.fD] at hu
  .rename_i v;exact⟨b.atR (a.put o.dst v) (.inRegion ops rest::k),cs,w',_,by rw[hg,<-b8];simp only[stepG.apply,cD,Sem.runT_eq,a5,bt,dC,cP,GStep.after];rfl,dE,.inl rfl,bu,hu⟩
  .exact⟨b.atR (a.put o.dst undef) (.inRegion ops rest::k),cs,w',_,by rw[hg,<-b8];simp only[stepG.apply,cD,Sem.runT_eq,a5,bt,dC,cP,GStep.after];rfl,dE,.inl rfl,bu,hu⟩
variable(hn:n<=cs.length)
include hn
theorem ng(h:TN P n m Φ N (b.atR a k) cs w):TN P n m Φ (N+1) (b.atR a (.inRegion ops []::k)) cs w:=.quiet _ _ (λ_=>u9) dE (.inl rfl) h hn
theorem l8{id:Nat}(h:TN P n m Φ N (b.atR a (.inRegion ops (List.range ops.size)::k)) cs w):TN P n m Φ (N+1) (b.atR a (.code (.region id ops false)::k)) cs w:=.quiet _ _ (λ_=>yD) dE (.inl rfl) h hn
theorem iD{x y:Code}(h:TN P n m Φ N (b.atR a (.code x::.code y::k)) cs w):TN P n m Φ (N+1) (b.atR a (.code (.seq x y)::k)) cs w:=.quiet _ _ (λ_=>yr) dE (.inl rfl) h hn
theorem FI(h:TN P n m Φ N (b.atR a k) cs w):TN P n m Φ (N+1) (b.atR a (.code .skip::k)) cs w:=.quiet _ _ (λ_=>yp) dE (.inl rfl) h hn
theorem AR{c:Operand}{x y:Code}{t:Bool}(hc:a.eval c=.bool t)(h:TN P n m Φ N (b.atR a (.code (if t then x else y)::k)) cs w):TN P n m Φ (N+1) (b.atR a (.code (.cond c x y)::k)) cs w:=.quiet _ _ (λ_=>yu hc) dE (.inl rfl) h hn
theorem FJ{id:Nat}{c:Code}(h:TN P n m Φ N (b.atR a (.code c::.inBlock id::k)) cs w):TN P n m Φ (N+1) (b.atR a (.code (.block id c)::k)) cs w:=.quiet _ _ (λ_=>yw) dE (.inl rfl) h hn
theorem MM{id:Nat}(h:TN P n m Φ N (b.atR a k) cs w):TN P n m Φ (N+1) (b.atR a (.inBlock id::k)) cs w:=.quiet _ _ (λ_=>yq) dE (.inl rfl) h hn
theorem MN{c:Code}(h:TN P n m Φ N (b.atR a (.code c::.inLoop c::k)) cs w):TN P n m Φ (N+1) (b.atR a (.code (.loop c)::k)) cs w:=.quiet _ _ (λ_=>yx) dE (.inl rfl) h hn
theorem MP{c:Code}(h:TN P n m Φ N (b.atR a (.code c::.inLoop c::k)) cs w):TN P n m Φ (N+1) (b.atR a (.inLoop c::k)) cs w:=.quiet _ _ (λ_=>yz) dE (.inl rfl) h hn
theorem MQ{id:Nat}{k':List Item}(he:exitTo id k=some k')(h:TN P n m Φ N (b.atR a k') cs w):TN P n m Φ (N+1) (b.atR a (.code (.exit id)::k)) cs w:=.quiet _ _ (λ_=>yA he) dE (.inl rfl) h hn
omit hn in
theorem wO{c:Code}{M:Nat}{Q:Exit->Act->World->Prop}(hc:c.wpN b.roundOf P M Q a w)(hk:b.kind≠.early)(hQ:∀e a w,Q e a w->e=.normal)(h:∀a w,Q .normal a w->TN P cs.length cs.length Φ N (b.atR a k) cs w):TN P cs.length cs.length Φ (N+M) (b.atR a (.code c::k)) cs w:=by
 refine (hc b k cs rfl hk).bind ?_
 rintro fr cs' w' ⟨rfl,e,a',hq,he⟩
 obtain rfl:=hQ _ _ _ hq;subst he;exact h a' w' hq
end
end Go.Fi
namespace Go.Fc
open Go Go.Conc Go.Fi
open Go.ConcN (PayAt Has RW WgLive WSit CTag WD RelBy phi Vc Ssum Fsum cnt sumTo isFin pend AllQuit)
open Go.ConcR (KK WgAt stA smA Payload)
section
variable[Payload][Xf]{P P1:Program}{d:PhD}{s:Script}{bad:Nat->Prop}
structure RF(P P1:Program)(d:PhD)(s:Script)(S:Sh)(B:World)(gs:Array Goroutine)(B':World)(t:Trace)(q:Nat->Nat):Prop where
 zero:∃fr A0 S0,gs[0]?=some (gL s fr)/\s.I3 fr A0/\dG P1 P fr/\Lk (Cc P1 P) S0 A0 B'/\(∀b k,S0.part b k->b=d.F)
 RG:∀i,i<d.n->∃Ai Si,s.Fin i Ai/\Lk (Cc P1 P) Si Ai B'/\(∀b k,Si.part b k->b=d.F/\k≠i)
 left:Leavers P t gs q
 ou:Past (λl=>nz S l\/∃a,l=.cell a/\a.block=d.Wg) B'.heap.size t
 pay:PayAt d.F d.n B'
 pB:∀b o,d.lo0<=b->B'.heap[b]?=some o->okO (Cc P1 P) o
 same:∀b,b<d.lo0->b≠d.F->b≠d.Wg->B'.heap[b]?=B.heap[b]?
 os:B'.os=B.os
 output:B'.output=B.output
 size:d.lo0<=B'.heap.size
 grp:∃st sm,WgAt d.ty d.Wg B' st sm
theorem WkS.Ii{i l st m dd:Nat}{g:Goroutine}{S:Sh}{A B:World}(h:WkS P P1 d s i l st m dd g S A B)(h1:st=1):QuitsD P m dd g/\s.Fin i A/\¬S.part d.F i:=by
 cases h with
 |b0=>cases h1
 |b1=>cases h1
 |b2=>cases h1
 |b3 _ hp hF _ h5=>exact⟨h5.quits h1,hF,hp⟩
theorem M6(hs:fY P P1 d s)(hd:fJ d)(hc:∀l k,@lP _ (cY l d.F k) P1 P bad){gs:Array Goroutine}{B:World}{sl:Option (Nat×Nat)}{t:Trace}{q:Nat->Nat}{S:Sh}{Bsz:Nat}{fr:Frame}(hm:gs.size=d.e0)(h0:gs[0]?=some (G fr s.base))(hL:Leavers P t gs q)(hP:Past (nz S) Bsz t)(hB:Bsz<=d.Wg)(bn:d.lo0=B.heap.size)(hS:S.dead=d.dead)(hh:∀b,d.dead b->dN B b)(bf:WgAt d.ty d.Wg B 0 0)(b4:PayAt d.F d.n B)(aa:∀i,i<d.n->B.cell? ⟨d.F,i,none⟩=some d.v0)(aw:dG P1 P fr)(hT:∃N,@TN (cY d.lo0 d.F d.n) P1 s.base.length s.base.length (λfr' cs' A'=>cs'=s.base/\if 0<d.n then s.I1 0 fr' A' else s.I3 fr' A') N fr s.base (mkA (Cc P1 P) (λb=>d.dead b\/b=d.Wg) B)):∃N h8 B' h9 t' q',runNT P N (crowd gs B sl) t=(.next (crowd h8 B' h9),t')/\RF P P1 d s S B h8 B' t' q':=by
 obtain⟨N0,hT⟩:=hT
 have c5:∀b,d.dead b\/b=d.Wg->dN B b:=λb hb=>hb.elim (hh b) λe=>e▸⟨_,_,_,bf⟩
 let S0:Sh:=⟨λb=>d.dead b\/b=d.Wg,λb k=>b=d.F/\k≠d.n,λb o=>b<d.lo0/\B.heap[b]?=some o⟩
 let A0:=mkA (Cc P1 P) (λb=>d.dead b\/b=d.Wg) B
 have ax:Lk (Cc P1 P) S0 A0 B:=wL c5 λb o _ ho h'=>⟨by rw[bn];grind,ho⟩
 have hM:Mem (Cc P1 P) d 0 (λ_=>0) (λ_=>0) (λ_=>S0) (λ_=>A0) B B:=
  ⟨λp _=>ax,λb hb=>absurd rfl hb,λp h1 h2=>ab,λp _ b hb=>hb,λp hp b _ bv _=>absurd ab bv,λp _ b o ho=>ho.1,λp _ b k hk=>hk.1,λp hp k hk=>⟨rfl,by
    obtain rfl:p=0:=by omega
    trivial⟩,λx=>x.2 rfl,b4,λi _ h=>aa i h,λb o hb ho=>by
    have:=(df.1 ho).1
    omega,λ_ _ _ _=>rfl,rfl,rfl,ab⟩
 have ao:dV P1 P S0 s.base fr s.base A0 B:=⟨⟨[],rfl,ae,ae⟩,aw,ax⟩
 have ck:Trc d 0 (λ_=>0) (λ_=>0) gs.size t t B.heap.size (λ_=>(⟨0,0,0⟩:WD)) 0:=
  MG hP (λb hb=>hS▸hb) hB (by have:=hd.wg;omega) hL.above _ _
 have eld:∀i,0<i->i<d.e0->∃g,gs[i]?=some g/\QuitsD P (q i) (Deaf t i) g:=λi h1 h2=>⟨gs[i]'ab,dM _,hL.old i _ h1 (dM _)⟩
 have b':∀tag,ConcN.isOpen tag->pend tag=0->(∀vs,tag≠.w2 vs)->ConcN.Mode 0 (λ_=>(⟨0,0,0⟩:WD)) tag 0 0:=λtag h1 h2 h3=>by
  have:=ConcN.Mode.opn (j:=0) (D:=λ_=>(⟨0,0,0⟩:WD)) h1 (λi hi=>ab) (λvs e=>absurd e (h3 vs));simpa[Vc,sumTo,h2] using this
 have mk:∀tag f0,ConcN.isOpen tag->pend tag=0->(∀vs,tag≠.w2 vs)->StS P P1 d s (λ_=>0) tag 0 f0 0 (G fr s.base) S0 A0 B->∃μ,eH P P1 d s t B μ (crowd gs B sl) t:=λtag f0 h1 h2 h3 ha=>
  ⟨_,gs,B,sl,0,λ_=>⟨0,0,0⟩,tag,f0,0,_,q,λ_=>0,λ_=>0,λ_=>S0,λ_=>A0,0,0,rfl,⟨by rw[hm];rfl,h0,ha,eld,λi hi=>ab,hM,ck,bf,b' tag h1 h2 h3,λe=>by subst e;exact h1.elim,cG _,hh⟩,rfl⟩
 obtain⟨μ,hI⟩:∃μ,eH P P1 d s t B μ (crowd gs B sl) t:=by
  by_cases hn:0<d.n
  .simp only[bX hn] at hT
   have e0:d.n-(d.n-1+1)=0:=ab
   have ha:=StS.p6 (P:=P) (P1:=P1) (s:=s) (d:=d) (r:=d.n-1) (lo:=λ_=>0) ab ao (bV _) (λx h1 h2=>cG _) (by rw[e0];exact hT);rw[e0] at ha;exact mk (.sp (d.n-1) 6) N0 trivial rfl ae ha
  .simp only[bH hn] at hT
   have e0:d.n=0:=ab
   have ha:=StS.pk (P:=P) (P1:=P1) (s:=s) (d:=d) (lo:=λ_=>0) ao (bV _) (λx h1 h2=>cG _) hT;rw[e0] at ha;exact mk .kd (N0+s.NK+1) trivial rfl ae ha
 obtain⟨N,m',t',hr,h8,B',h9,D,f0,fr',q',own,lo,S',A',st,sm,rfl,h,hI3,c8⟩:=ML hs hd hc μ _ _ hI;obtain⟨hq,e1,e2⟩:=h.mode.fin_inv trivial;obtain⟨qa,a1,a2,a3,a4⟩:=h.acq rfl;obtain⟨u,hu⟩:=h.trc.pre;refine⟨N,h8,B',h9,t',λi=>if i<d.e0 then q' i else (D (i-d.e0)).fuel,hr,⟨⟨fr',A' 0,S' 0,h.zero,hI3,c8,h.mem.lk 0 (cG _),h.mem.nB 0 (cG _)⟩,λi hi=>?_,⟨λi g hi hg=>?_,h.trc.above⟩,?_,h.mem.pay,h.mem.pB,h.mem.same,h.mem.os,h.mem.output,h.mem.size,⟨_,_,h.wg⟩⟩⟩
 .obtain⟨g,hg,hw⟩:=h.wk i hi;obtain⟨_,hF,hp⟩:=hw.Ii (hq i hi);refine⟨A' (i+1),S' (i+1),hF,h.mem.lk (i+1) ab,λb k hk=>?_⟩;have hb:=h.mem.nB (i+1) ab b k hk
  grind
 .by_cases bm:i<d.e0
  .simp only[bX bm];obtain⟨g',b9,cm⟩:=h.eld i hi bm;rw[hg] at b9;simp_all
  .simp only[bH bm];have a9:=(df.1 hg).1;rw[h.size] at a9;obtain⟨g',b9,hw⟩:=h.wk (i-d.e0) ab;rw[show d.e0+(i-d.e0)=i by omega] at b9;rw[hg] at b9;cases b9;obtain⟨hQ,_⟩:=hw.Ii (hq _ ab);have:=h.trc.deafW (i-d.e0) ab;rw[show d.e0+(i-d.e0)=i by omega] at this;rw[this];exact hQ
 .refine MB hP hu h.trc.tr.nr h.trc.ph h.trc.norel a1 a2 a3 (λg hg=>?_) h.trc.deaf0 h.trc.low;obtain⟨r,h1,h2⟩:=a4 (g-d.e0) ab;rw[show d.e0+(g-d.e0)=g by omega] at h1
  grind
end
end Go.Fc
namespace Go.Fc
open Go Go.Conc Go.Fi
open Go.ConcN (sumTo)
theorem FO{P:Program}{gs:Array Goroutine}{a a':Goroutine}{w':World}{t:Trace}{q:Nat->Nat}(hL:Leavers P t gs q)(ag:0<gs.size)(fn:FuncId)(pos:String)(es:Array Event):Leavers P (t++MemOp.ofEvents 0 fn pos es) ((gs.map (woken P a a' w')).setIfInBounds 0 a') q:=
 ⟨λj x hj hx=>by
   rw[uW ab,yh] at hx;obtain⟨y,hy,rfl⟩:=sS.1 hx;have hq:=hL.old j y hj hy;rw[woken_quitsD hq,Deaf_other t (g':=0) ab _ (λop bo=>by obtain⟨e,_,rfl⟩:=Go.Conc.mem_ofEvents bo;rfl)]
   exact hq,
  λj hj=>by
   have c9:gs.size<=j:=ak
   rw[Deaf_other t (g':=0) ab _ (λop bo=>by obtain⟨e,_,rfl⟩:=Go.Conc.mem_ofEvents bo;rfl)]
   exact hL.above j c9⟩
theorem Ij{P:Program}{Shun:Loc->Prop}{gs:Array Goroutine}{a a':Goroutine}{B:World}{sl:Option (Nat×Nat)}{t:Trace}{q:Nat->Nat}{n:Nat}(f:World->World)(h0:gs[0]?=some a)(a5:a.status=.running)(hL:Leavers P t gs q)(hP:Past Shun B.heap.size t)(hn:B.heap.size<=n)(ha:∀w1,AtRel B w1->∃es,stepG P true a w1=.go a' (f w1) es/\∀e∈es,Go.Conc.EvL Shun n e):∃K h8 w1 h9 t' q',runNT P K (crowd gs B sl) t=(.next (crowd h8 (f w1) h9),t')/\AtRel B w1/\h8.size=gs.size/\h8[0]?=some a'/\Leavers P t' h8 q'/\Past Shun n t':=by
 obtain⟨N,h8,w',h9,t',q',d,sl2,hr,hm,b6,bi,bj,hat,b5⟩:=AM (P:=P) (a:=a) a5 _ gs B sl t q (bV _) h0 hL hP;obtain⟨es,hs,c7⟩:=ha (w'.at d) hat;have hrunT:=runT_crowd_go (P:=P) (sl:=sl2) (i:=0) b6 (show stepG P (0==0) a (w'.at d)=_ from hs);have ag:0<h8.size:=(df.1 b6).1;refine⟨N+1,(h8.map (woken P a a' (f (w'.at d)))).setIfInBounds 0 a',w'.at d,sl2,t'++MemOp.ofEvents 0 a.frame.fn a.frame.place es,q',?_,hat,?_,?_,FO bi ag _ _ es,(bj.mono hn).own c7⟩
 .rw[runNT_add,hr];show runNT P 1 _ _=_;simp only[runNT,b5,hrunT]
 .simp[hm]
 grind
@[reducible] def fS:EnvD where
 E w w':=Bel w.heap.size w w'
 ext h:=h
 xt _ _ _ _:=False
 D _ _:=True
 nil _:=trivial
variable[Xf]
theorem M7{P P1:Program}{bad:Nat->Prop}(hc:@lP _ fS P1 P bad){base:List Frame}{Φ:Frame->List Frame->World->Prop}(hb:∀f args cs w,¬Φ (Frame.enter P1 f args .normal) cs w)(hΦ2:∀fr cs w,cs.length<base.length->¬Φ fr cs w)(ha:∀fr cs w w1,Φ fr cs w->Bel w.heap.size w w1->Φ fr cs w1){S:Sh}(bg:∀b i,¬S.part b i):∀(N:Nat)(gs:Array Goroutine)(B:World)(sl:Option (Nat×Nat))(t:Trace)(q:Nat->Nat)(A:World)(fr:Frame)(cs:List Frame),gs[0]?=some (G fr cs)->dV P1 P S base fr cs A B->Leavers P t gs q->Past (nz S) B.heap.size t->@TN fS P1 base.length base.length Φ N fr cs A->∃K h8 B' h9 t' q' fr' cs' A',runNT P K (crowd gs B sl) t=(.next (crowd h8 B' h9),t')/\h8.size=gs.size/\h8[0]?=some (G fr' cs')/\Φ fr' cs' A'/\dV P1 P S base fr' cs' A' B'/\Leavers P t' h8 q'/\Past (nz S) B'.heap.size t':=by
 intro N
 induction N with
 |zero=>intro gs B sl t q A fr cs h0 ao hL hP hT;exact⟨0,gs,B,sl,t,q,fr,cs,A,rfl,rfl,h0,hT,ao,hL,hP⟩
 |succ N ih=>
  intro gs B sl t q A fr cs h0 ao hL hP hT;by_cases hΦ:Φ fr cs A
  .exact⟨0,gs,B,sl,t,q,fr,cs,A,rfl,rfl,h0,hΦ,ao,hL,hP⟩
  obtain⟨K,h8,w',h9,t',q',d,sl2,hr,hm,b6,bi,bj,⟨d2,hat⟩,b5⟩:=AM (P:=P) (a:=G fr cs) rfl _ gs B sl t q (bV _) h0 hL hP
  have bp:dV P1 P S base fr cs A (w'.at d):=by rw[hat];exact⟨ao.pre,ao.ok,ao.lk.drawn d2⟩
  rcases @AN _ fS P1 P bad S base Φ hc true (.inl rfl) (λw es _ e _ a _=>bg _ _) (λf args cs w _=>hb f args cs w) hΦ2 fr cs A (w'.at d) N bp hT with hw|⟨fr',cs',A',B',es,hgo,a6,⟨A2,e1,e2,e3,c2⟩,co,hk,bl,_,cj⟩
  .trivial
  .have hrunT:=runT_crowd_go (P:=P) (sl:=sl2) (i:=0) b6 (show stepG P (0==0) (G fr cs) (w'.at d)=_ from hgo);have ag:0<h8.size:=(df.1 b6).1
   have hszB:B.heap.size<=B'.heap.size:=by have:=hk.size;rw[hat] at this;exact this
   have hT2:@TN fS P1 base.length base.length Φ N fr' cs' A':=
    @TN.rely fS _ _ _ _ oW ha _ _ _ _ _ c2 ⟨e2.symm,e3.symm,by rw[e1];simp,λb _=>by rw[e1]⟩
   obtain⟨K2,gs2,B2,sl3,t2,q2,fr2,cs2,A3,x1,x2,x3,x4,x5,x6,x7⟩:=ih ((h8.map (woken P (G fr cs) (G fr' cs') B')).setIfInBounds 0 (G fr' cs')) B' sl2 (t'++MemOp.ofEvents 0 (G fr cs).frame.fn (G fr cs).frame.place es) q' A' fr' cs' (by simp[ag]) a6 (FO bi ag _ _ es) ((bj.mono hszB).own λe he=>Fx (bl e he)) hT2;refine⟨K+(1+K2),gs2,B2,sl3,t2,q2,fr2,cs2,A3,?_,by rw[x2];simp[hm],x3,x4,x5,x6,x7⟩;rw[runNT_add,hr];show runNT P (1+K2) _ _=_;rw[runNT_add];simp only[runNT,b5,hrunT];exact x1
section
variable{C C0:Cx}{dead:Nat->Prop}{B B' A':World}{K:ju}
structure kX(C0:Cx)(K:ju)(dead:Nat->Prop)(B:World):Prop where
 lO:∀b,dead b->K.n0<=b/\dN B b
 old:∀b o,¬dead b->B.heap[b]?=some o->¬okO C0 o->K.old b o
def shW(dead:Nat->Prop)(B:World):Sh:=⟨dead,λ_ _=>False,λb o=>b<B.heap.size/\B.heap[b]?=some o⟩
omit [Xf] in
theorem M8(h:∀b,dead b->dN B b):Lk C (shW dead B) (mkA C dead B) B:=wL h λb o _ ho _=>⟨(df.1 ho).1,ho⟩
omit [Xf] in
theorem FP(h:kX C0 K dead B):Lk C0 ⟨dead,λ_ _=>False,K.old⟩ (mkA C0 dead B) B:=wL (λb hb=>(h.lO b hb).2) h.old
omit [Xf] in
theorem FQ(b:Nat)(o:Obj):¬okO C (jM b o):=by cases o<;>exact id
omit [Xf] in
theorem kX.step(h:kX C0 K dead B)(bd:∀o,okO C o->okO C0 o)(hl:Lk C (shW dead B) A' B'):kX C0 K dead B':=by
 refine⟨λb hb=>⟨(h.lO b hb).1,?_⟩,λb o hd ho h'=>?_⟩
 .obtain⟨c,e,f,_,h2⟩:=hl.dead b hb;exact⟨c,e,f,h2⟩
 .rcases hl.same b hd with ⟨e,hk⟩|⟨o',h1,_,_,h2⟩|⟨_,_,_,_,_,h1,_⟩
  .simp_all
  .rw[ho] at h1;cases h1;exact h.old b o hd h2.2 h'
  .rw[ho] at h1;cases h1;exact absurd trivial h'
omit [Xf] in
theorem M9(hl:Lk C (shW dead B) A' B')(hh:∀b,dead b->dN B b)(hb:Bel B.heap.size (mkA C dead B) A'){C2:Cx}:Bel B.heap.size (mkA C2 dead B) (mkA C2 dead B')/\(∀b,b<B.heap.size->¬dead b->B'.heap[b]?=B.heap[b]?):=by
 have key:∀b,b<B.heap.size->¬dead b->B'.heap[b]?=B.heap[b]?:=λb a9 hd=>by
  have hA:=hb.block b a9;obtain⟨o,hx⟩:∃o,B.heap[b]?=some o:=⟨_,dM a9⟩
  rcases hl.same b hd with ⟨e,hk⟩|⟨o',h1,_,h3,h4⟩|⟨cA,cB,e,f,h1,h2,h3,h4⟩
  .rw[<-e,hA];by_cases ay:okO C o
   .rw[na hd hx ay,hx]
   .rw[oV hd hx ay] at hA;exact absurd (hk _ hA) (FQ b o)
  .rw[h1,h4.2]
  .have hc:cA=cB:=Di (uY λi=>by simpa using h4 i (λx=>x));subst hc;rw[h2,<-h1,hA];by_cases ay:okO C o
   .rw[na hd hx ay,hx]
   .rw[oV hd hx ay,h1] at hA;have:=FQ (C:=C) b o;rw[<-fO hA] at this;exact absurd trivial this
 have hszA:(mkA C dead B).heap.size=B.heap.size:=eY
 have hm:B.heap.size<=B'.heap.size:=by rw[<-hl.size,<-hszA];exact hb.size
 refine⟨⟨?_,?_,?_,λb a9=>?_⟩,key⟩
 .show B'.os=B.os;rw[<-hl.os];exact hb.os
 .show B'.output=B.output;rw[<-hl.output];exact hb.output
 .rw[eY,eY];exact hm
 .by_cases hd:dead b
  .obtain⟨c,e,f,hc⟩:=hh b hd;obtain⟨c',e',f',h1,h2⟩:=hl.dead b hd;have hA:=hb.block b a9;rw[nX hd,hc] at hA;rw[h1] at hA;rw[nX hd,nX hd,hc,h2];trivial
  .simp only[mkA,sU,key b a9 hd]
end
def iN(P:Program)(m:Machine)(t:Trace)(m':Machine)(t':Trace):Prop:=∃N,runNT P N m t=(.next m',t')
theorem iN.trans{P:Program}{m m1 m2:Machine}{t t1 t2:Trace}(h:iN P m t m1 t1)(k:iN P m1 t1 m2 t2):iN P m t m2 t2:=by
 obtain⟨N,h⟩:=h;obtain⟨M,k⟩:=k;exact⟨N+M,by rw[runNT_add,h];exact k⟩
theorem iN.refl{P:Program}{m:Machine}{t:Trace}:iN P m t m t:=⟨0,rfl⟩
def uG(dead:Nat->Prop):Loc->Prop:=λl=>∃a,l=.cell a/\dead a.block
theorem Nk{S S':Loc->Prop}{B:Nat}{t:Trace}(h:Past S B t)(hs:∀l,S l->S' l):Past S' B t:=
 ⟨h.clean,λi a h1 h2=>(h.known i a h1 h2).imp id λx=>⟨hs _ x.1,x.2⟩,h.over,h.hears,h.seen⟩
section
variable{C C':Cx}{S:Sh}{dead:Nat->Prop}{A B:World}
theorem Lk.unique(h:Lk C S A B)(hp:∀b i,¬S.part b i)(b:Nat):A.heap[b]?=(mkA C S.dead B).heap[b]?:=by
 by_cases hd:S.dead b
 .obtain⟨c,e,f,h1,h2⟩:=h.dead b hd;rw[nX hd,h1,h2];rfl
 .rcases h.same b hd with ⟨e,hk⟩|⟨o,h1,h2,h3,_⟩|⟨cA,cB,e,f,h1,h2,_,h4⟩
  .rcases hx:B.heap[b]? with _|o
   .rw[e,hx,tJ hx]
   .rw[e,hx,na hd hx (hk o (e.trans hx))]
  .rw[h3,oV hd h1 h2]
  .have:cA=cB:=Di (uY λi=>al);subst this;rw[h1,qj hd h2]
theorem F5{b:Nat}{c:Array Value}{e:TypeId}{f:Nat×Nat}(h:(mkA C dead B).heap[b]?=some (.cells c e f)):(mkA C' dead B).heap[b]?=some (.cells c e f):=by
 by_cases hd:dead b
 .rw[nX hd] at h ⊢;exact h
 .rcases hx:B.heap[b]? with _|o
  .rw[tJ hx] at h;cases h
  .by_cases ho:okO C o
   .rw[na hd hx ho] at h;obtain rfl:=fO h;exact qj hd hx
   .rw[oV hd hx ho] at h
    cases o<;>cases h
theorem tL{b:Nat}{c:Array Value}{e:TypeId}{f:Nat×Nat}(h:(mkA C dead B).heap[b]?=some (.cells c e f))(hd:¬dead b):B.heap[b]?=some (.cells c e f):=by
 rcases hx:B.heap[b]? with _|o
 .rw[tJ hx] at h;cases h
 .by_cases ho:okO C o
  .rw[na hd hx ho] at h;exact h
  .rw[oV hd hx ho] at h
   cases o<;>cases h
theorem F6{b:Nat}{c:Array Value}{e:TypeId}{f:Nat×Nat}(h:(mkA C dead B).heap[b]?=some (.cells c e f))(hc:0<c.size):¬dead b:=λhd=>by
 rw[nX hd] at h
 rcases hx:B.heap[b]? with _|o
 .rw[hx] at h;cases h
 .rw[hx] at h
  cases o<;>simp[r7] at h
  rw[h.1] at hc;simp at hc
theorem Nl{a:Addr}{v:Value}(h:A.cell? a=some v):∃c e f,A.heap[a.block]?=some (.cells c e f)/\0<c.size:=by
 unfold World.cell? at h
 grind
theorem F7{a:Addr}(h:A.heap[a.block]?=B.heap[a.block]?):A.cell? a=B.cell? a:=by
 unfold World.cell?;rw[h]
theorem Nm{a:Addr}{v:Value}(h:(mkA C dead B).cell? a=some v):¬dead a.block/\B.cell? a=some v:=by
 obtain⟨c,e,f,h1,h2⟩:=Nl h;have hd:=F6 h1 h2;exact⟨hd,by rw[F7 ((tL h1 hd).trans h1.symm)];exact h⟩
theorem Bel.congr{n:Nat}{A A' W W':World}(h:Bel n A A')(e1:∀b:Nat,A.heap[b]?=W.heap[b]?)(e2:∀b:Nat,A'.heap[b]?=W'.heap[b]?)(o1:A.os=W.os)(o2:A'.os=W'.os)(p1:A.output=W.output)(p2:A'.output=W'.output):Bel n W W':=by
 have s1:A.heap=W.heap:=I8 e1;have s2:A'.heap=W'.heap:=I8 e2;exact⟨by rw[<-o1,<-o2];exact h.os,by rw[<-p1,<-p2];exact h.output,by rw[<-s1,<-s2];exact h.size,λk hk=>by rw[<-e1,<-e2];exact h.block k hk⟩
end
structure Stg(C0:Cx)(P:Program)(K:ju)(dead:Nat->Prop)(gs:Array Goroutine)(B:World)(t:Trace)(q:Nat->Nat)(fr:Frame)(cs:List Frame):Prop where
 zero:gs[0]?=some (G fr cs)
 mL:kX C0 K dead B
 left:Leavers P t gs q
 ou:Past (uG dead) B.heap.size t
 n0:K.n0<=B.heap.size
section
variable{P P1 P0:Program}{C0:Cx}{K:ju}{dead:Nat->Prop}{gs:Array Goroutine}{B:World}{sl:Option (Nat×Nat)}{t:Trace}{q:Nat->Nat}{fr fr':Frame}{cs cs':List Frame}{bad:Nat->Prop}
theorem kX.Is{S:Sh}{A:World}(h:Lk C0 S A B)(hp:∀b i,¬S.part b i)(hd:∀b,S.dead b->K.n0<=b)(ho:S.old=K.old):kX C0 K S.dead B:=by
 refine⟨λb hb=>⟨hd b hb,?_⟩,λb o bc hx h'=>?_⟩
 .obtain⟨c,e,f,_,h2⟩:=h.dead b hb;exact⟨c,e,f,h2⟩
 .rcases h.same b bc with ⟨e,hk⟩|⟨o',h1,_,_,h2⟩|⟨_,_,_,_,_,h1,_⟩
  .simp_all
  .rw[hx] at h1;simp_all
  .rw[hx] at h1;cases h1;exact absurd trivial h'
theorem wT(h:Stg C0 P K dead gs B t q fr cs)(ha:∀w,stepG P true (G fr cs) w=.go (G fr' cs') w #[]\/stepG P true (G fr cs) w=.go (G fr' cs') w #[]):∃h8 d h9 t' q',iN P (crowd gs B sl) t (crowd h8 (B.at d) h9) t'/\h8.size=gs.size/\Stg C0 P K dead h8 (B.at d) t' q' fr' cs':=by
 obtain⟨k,h8,w1,h9,t',q',hr,⟨d,rfl⟩,hm,h0,hL,hP⟩:=Ij (P:=P) (a:=G fr cs) (a':=G fr' cs') (B:=B) (sl:=sl) (n:=B.heap.size) id h.zero rfl h.left h.ou (bV _) λw1 _=>⟨#[],by rcases ha w1 with e|e<;>exact e,ae⟩
 exact⟨h8,d,h9,t',q',⟨k,hr⟩,hm,h0,⟨h.mL.lO,h.mL.old⟩,hL,hP,h.n0⟩
theorem No(h:Stg C0 P K dead gs B t q fr cs){c:Array Value}{e:TypeId}(ha:∀w,AtRel B w->stepG P true (G fr cs) w=.go (G fr' cs') (w.alloc (.cells c e)) #[]):∃h8 B' h9 t' q',iN P (crowd gs B sl) t (crowd h8 B' h9) t'/\h8.size=gs.size/\h8[0]?=some (G fr' cs')/\kX C0 K dead B'/\Leavers P t' h8 q'/\Past (uG dead) B.heap.size t'/\B'.heap=B.heap.push (.cells c e)/\B'.os=B.os/\B'.output=B.output:=by
 obtain⟨k,h8,w1,h9,t',q',hr,⟨d,rfl⟩,hm,h0,hL,hP⟩:=Ij (P:=P) (a:=G fr cs) (a':=G fr' cs') (B:=B) (sl:=sl) (n:=B.heap.size) (λw=>w.alloc (.cells c e)) h.zero rfl h.left h.ou (bV _) λw1 hw=>⟨#[],ha w1 hw,ae⟩
 refine⟨h8,_,h9,t',q',⟨k,hr⟩,hm,h0,⟨λb hb=>?_,λb o hd ho h'=>?_⟩,hL,hP,rfl,rfl,rfl⟩
 .obtain⟨h1,c',e',f',h2⟩:=h.mL.lO b hb;have a9:=(df.1 h2).1
  exact⟨h1,c',e',f',by
   show (B.heap.push _)[b]?=_
   rw[uX a9];simp_all⟩
 .change (B.heap.push _)[b]?=_ at ho
  rw[pO] at ho;split at ho
  .cases ho;exact absurd trivial h'
  .exact h.mL.old b o hd ho h'
theorem wU[XF:Xf](hc:@lP _ fS P1 P bad)(bd:∀o,okO (Cc P1 P) o->okO C0 o)(h:Stg C0 P K dead gs B t q fr cs)(aw:dG P1 P fr){Φ:Frame->List Frame->World->Prop}{N:Nat}(hT:@TN fS P1 cs.length cs.length Φ N fr cs (mkA (Cc P1 P) dead B))(hΦ:∀fr' cs' w,Φ fr' cs' w->cs'=cs/\Bel (mkA (Cc P1 P) dead B).heap.size (mkA (Cc P1 P) dead B) w)(hb:∀f args cs w,¬Φ (Frame.enter P1 f args .normal) cs w)(ha:∀fr cs w w1,Φ fr cs w->Bel w.heap.size w w1->Φ fr cs w1):∃h8 B' h9 t' q' fr' A',iN P (crowd gs B sl) t (crowd h8 B' h9) t'/\h8.size=gs.size/\Stg C0 P K dead h8 B' t' q' fr' cs/\Φ fr' cs A'/\dG P1 P fr'/\(∀b:Nat,A'.heap[b]?=(mkA (Cc P1 P) dead B').heap[b]?)/\Bel B.heap.size (mkA C0 dead B) (mkA C0 dead B'):=by
 have hh:∀b,dead b->dN B b:=λb hb=>(h.mL.lO b hb).2
 have ao:dV P1 P (shW dead B) cs fr cs (mkA (Cc P1 P) dead B) B:=⟨⟨[],rfl,ae,ae⟩,aw,M8 hh⟩;obtain⟨k,h8,B',h9,t',q',fr',cs',A',hr,hm,h0,ba,a6,hL,hP⟩:=M7 hc hb (λfr cs' w a9 bw=>by have:=(hΦ _ _ _ bw).1;simp_all) ha (S:=shW dead B) (λb i h=>h) N gs B sl t q _ fr cs h.zero ao h.left h.ou hT;obtain⟨rfl,b7⟩:=hΦ _ _ _ ba;rw[eY] at b7;have hB:=(M9 (C2:=C0) a6.lk hh b7).1
 have hszX:B.heap.size<=B'.heap.size:=by have:=hB.size;rw[eY,eY] at this;exact this
 exact⟨h8,B',h9,t',q',fr',A',⟨k,hr⟩,hm,⟨h0,h.mL.step bd a6.lk,hL,hP,dK h.n0 hszX⟩,ba,a6.ok,a6.lk.unique (λb i h=>h),hB⟩
theorem Np[XF:Xf][EV:EnvD](hp:qF P0 P bad)(oz:r5 P0 P K)(bk:∀f,¬Xf.bot f){f:FuncId}{args:Array Value}(ho:Frame.enter P f args .normal=Frame.enter P0 f args .normal)(ay:dG P0 P (Frame.enter P0 f args .normal)){cl:Frame}(c3:iH cl)(h:Stg (Cc P0 P) P K dead gs B t q (Frame.enter P f args .normal) (cl::cs)){R:Ending->World->Prop}(hT:kh P0 f args (mkA (Cc P0 P) dead B) R)(bv:∀f args v,bad f->Frame.enter P0 f args .normal≠cl.finish v):∃h8 B' h9 t' q' aq A' v,iN P (crowd gs B sl) t (crowd h8 B' h9) t'/\Stg (Cc P0 P) P K aq h8 B' t' q' (cl.finish v) cs/\R (.returned v) A'/\(∀b:Nat,A'.heap[b]?=(mkA (Cc P0 P) aq B').heap[b]?)/\A'.os=B'.os/\A'.output=B'.output:=by
 have bq:Sit P0 P K ⟨dead,λ_ _=>False,K.old⟩ (cl::cs) (Frame.enter P0 f args .normal) (cl::cs) (mkA (Cc P0 P) dead B) gs B t q:=
  ⟨⟨_,h.zero,.inl ⟨[],rfl,ae,.inl ⟨ho,ay⟩⟩⟩,FP h.mL,λb i h=>h,λb hb=>(h.mL.lO b hb).1,rfl,h.left,h.ou,h.n0⟩
 obtain⟨k,h8,B',h9,t',q',S',fr',cs',A',hr,bb,c4,v,hR,aw⟩:=Fy hp oz bk (base:=cl::cs) (λf args cs w hb bw=>by
  simp_all) (hT cl cs c3) _ gs B sl t q bq
 subst c4;subst aw;obtain⟨⟨fr2,h0,br⟩,ax,bg,c6,cg,hold,bh,cf⟩:=bb
 rcases br with ⟨pre,e,_⟩|⟨e,_⟩
 .have:=congrArg List.length e
  grind
 .subst e;exact⟨h8,B',h9,t',q',S'.dead,A',v,⟨k,hr⟩,⟨h0,kX.Is ax bg c6 cg,hold,bh,cf⟩,hR,ax.unique bg,ax.os,ax.output⟩
end
section
variable[PL:ConcR.Payload][XF:Xf]{P P1:Program}{d:PhD}{s:Script}{bad:Nat->Prop}{C0:Cx}{K:ju}
open Go.ConcN (PayAt)
open Go.ConcR (WgAt wgBlock)
theorem Nq(hs:fY P P1 d s)(hd:fJ d)(hc:∀l k,@lP _ (cY l d.F k) P1 P bad)(bd:∀o,okO (Cc P1 P) o->okO C0 o){gs:Array Goroutine}{B:World}{sl:Option (Nat×Nat)}{t:Trace}{q:Nat->Nat}{Bsz:Nat}{fr:Frame}(hm:gs.size=d.e0)(h0:gs[0]?=some (G fr s.base))(hr:kX C0 K d.dead B)(hL:Leavers P t gs q)(hP:Past (uG d.dead) Bsz t)(hB:Bsz<=d.Wg)(bn:d.lo0=B.heap.size)(bf:WgAt d.ty d.Wg B 0 0)(b4:PayAt d.F d.n B)(aa:∀i,i<d.n->B.cell? ⟨d.F,i,none⟩=some d.v0)(aw:dG P1 P fr)(hK:K.n0<=d.Wg)(hT:∃N,@TN (cY d.lo0 d.F d.n) P1 s.base.length s.base.length (λfr' cs' A'=>cs'=s.base/\if 0<d.n then s.I1 0 fr' A' else s.I3 fr' A') N fr s.base (mkA (Cc P1 P) (λb=>d.dead b\/b=d.Wg) B)):∃h8 B' h9 t' q' fr' A0,iN P (crowd gs B sl) t (crowd h8 B' h9) t'/\Stg C0 P K (λb=>d.dead b\/b=d.Wg) h8 B' t' q' (fr'.finish (.tuple #[])) s.base/\s.I3 fr' A0/\dG P1 P fr'/\(∀i,i<d.n->∃Ai Si,s.Fin i Ai/\Lk (Cc P1 P) Si Ai B'/\(∀b k,Si.part b k->b=d.F/\k≠i))/\(∀b,b<d.lo0->b≠d.F->b≠d.Wg->B'.heap[b]?=B.heap[b]?)/\B'.os=B.os/\B'.output=B.output/\d.lo0<=B'.heap.size/\PayAt d.F d.n B':=by
 obtain⟨N,h8,B',h9,t',q',a5,h⟩:=M6 (S:=⟨d.dead,λ_ _=>False,λ_ _=>False⟩) hs hd hc hm h0 hL hP hB bn rfl (λb hb=>(hr.lO b hb).2) bf b4 aa aw hT;obtain⟨fr',A0,S0,z1,z2,z3,z4,z5⟩:=h.zero;refine⟨h8,B',h9,t',q',fr',A0,⟨N,a5⟩,⟨z1,⟨λb hb=>?_,λb o bc ho h'=>?_⟩,h.left,Nk h.ou λl hl=>?_,dK hK (Nat.le_of_lt (lT hd.wg h.size))⟩,z2,z3,h.RG,h.same,h.os,h.output,h.size,h.pay⟩
 .rcases hb with hb|rfl
  .obtain⟨x1,c,e,f,x2⟩:=hr.lO b hb;obtain⟨y1,y2,y3⟩:=hd.dead b hb;exact⟨x1,c,e,f,(h.same b y1 y2 y3).trans x2⟩
  .obtain⟨st,sm,hg⟩:=h.grp;exact⟨hK,_,_,_,hg⟩
 .by_cases a9:b<d.lo0
  .by_cases hF:b=d.F
   .subst hF;obtain⟨cF,hF,_⟩:=h.pay;rw[hF] at ho;cases ho;exact absurd trivial h'
   .have hW:b≠d.Wg:=λe=>bc (.inr e)
    rw[h.same b a9 hF hW] at ho;exact hr.old b o (λx=>bc (.inl x)) ho h'
  .exact absurd (bd o (h.pB b o ab ho)) h'
 .rcases hl with ⟨a,e1,e2⟩|⟨a,e1,e2⟩
  .exact⟨a,e1,.inl e2⟩
  .exact⟨a,e1,.inr e2⟩
end
end Go.Fc
