/- Lemmas. -/
import Derived.Test.YthpkmilhiganjaaGreatPNc
import Derived.Test.YthpkmilhiganjaaGreatPMe
import Derived.Test.YthpkmilhiganjaaGreatPMc
set_option linter.all false
set_option maxHeartbeats 32000000
set_option maxRecDepth 100000
namespace Go.Fi
open Go Go.RowKit
open Go.Conc (G)
section
variable[EnvD]{P:Program}{n m N:Nat}{Φ:Frame->List Frame->World->Prop}{b:Frame}{a:Act}{k:List Item}{cs:List Frame}{w:World}{ops:Array Oper}
theorem nP{i:Nat}{rest:List Nat}{o:Oper}(ho:ops[i]?=some o)(hw:Region.wanted o (yielded ops a.tmps)=true)(hd:∀c,o.op≠.defer c)(hk:b.kind≠.early)(hn:n<=cs.length)(h:∀w1,EnvD.E w w1->(∀f,EnvD.D w1 (Go.Conc.listed P f a o w1))/\o.fC a (λa' w'=>TN P n m Φ N (b.atR a' (.inRegion ops rest::k)) cs w') ((execOp a.eval o).run P w1)):TN P n m Φ (N+1) (b.atR a (.inRegion ops (i::rest)::k)) cs w:=by
 refine .eo (λw1 e=>?_) hn;obtain⟨bm,hu⟩:=h w1 e;have hg:=vP (P:=P) (b:=b) (k:=k) (cs:=cs) (w:=w1) (rest:=rest) ho hw hd
 have b9:∀v,(b.atR a (.inRegion ops (i::rest)::k)).finish v=b.atR (a.put o.dst v) (.inRegion ops rest::k):=by
  intro v;rw[Frame.finish_atR,ho];rfl
 have bu:((b.atR a (.inRegion ops (i::rest)::k)).kind==CallKind.early)=false:=by simpa[Frame.atR] using hk
 have bv:EnvD.D w1 (seen P (b.atR a (.inRegion ops (i::rest)::k)).fn ((execOp a.eval o).events P w1 #[])++#[]):=by rw[m7];exact bm _
 generalize a5:(execOp a.eval o).run P w1=R at hu
 cases R with
 |halt x w'=>exact hu.elim
 |ok x w'=>
  cases x<;>simp only[Oper.fC] at hu
  .rename_i v;exact⟨b.atR (a.put o.dst v) (.inRegion ops rest::k),cs,w',_,by rw[hg,<-b9];simp only[stepG.apply,cz,Sem.runT_eq,a5,bu,dz,cT,GStep.after];rfl,dA,.inl rfl,bv,hu⟩
  .exact⟨b.atR (a.put o.dst undef) (.inRegion ops rest::k),cs,w',_,by rw[hg,<-b9];simp only[stepG.apply,cz,Sem.runT_eq,a5,bu,dz,cT,GStep.after];rfl,dA,.inl rfl,bv,hu⟩
variable(hn:n<=cs.length)
include hn
theorem nu(h:TN P n m Φ N (b.atR a k) cs w):TN P n m Φ (N+1) (b.atR a (.inRegion ops []::k)) cs w:=.quiet _ _ (λ_=>vO) dA (.inl rfl) h hn
theorem mn{id:Nat}(h:TN P n m Φ N (b.atR a (.inRegion ops (List.range ops.size)::k)) cs w):TN P n m Φ (N+1) (b.atR a (.code (.region id ops false)::k)) cs w:=.quiet _ _ (λ_=>zw) dA (.inl rfl) h hn
theorem iM{x y:Code}(h:TN P n m Φ N (b.atR a (.code x::.code y::k)) cs w):TN P n m Φ (N+1) (b.atR a (.code (.seq x y)::k)) cs w:=.quiet _ _ (λ_=>zm) dA (.inl rfl) h hn
theorem Gr(h:TN P n m Φ N (b.atR a k) cs w):TN P n m Φ (N+1) (b.atR a (.code .skip::k)) cs w:=.quiet _ _ (λ_=>zk) dA (.inl rfl) h hn
theorem Bp{c:Operand}{x y:Code}{t:Bool}(hc:a.eval c=.bool t)(h:TN P n m Φ N (b.atR a (.code (if t then x else y)::k)) cs w):TN P n m Φ (N+1) (b.atR a (.code (.cond c x y)::k)) cs w:=.quiet _ _ (λ_=>zn hc) dA (.inl rfl) h hn
theorem Gs{id:Nat}{c:Code}(h:TN P n m Φ N (b.atR a (.code c::.inBlock id::k)) cs w):TN P n m Φ (N+1) (b.atR a (.code (.block id c)::k)) cs w:=.quiet _ _ (λ_=>zo) dA (.inl rfl) h hn
theorem NM{id:Nat}(h:TN P n m Φ N (b.atR a k) cs w):TN P n m Φ (N+1) (b.atR a (.inBlock id::k)) cs w:=.quiet _ _ (λ_=>zl) dA (.inl rfl) h hn
theorem NN{c:Code}(h:TN P n m Φ N (b.atR a (.code c::.inLoop c::k)) cs w):TN P n m Φ (N+1) (b.atR a (.code (.loop c)::k)) cs w:=.quiet _ _ (λ_=>zp) dA (.inl rfl) h hn
theorem NO{c:Code}(h:TN P n m Φ N (b.atR a (.code c::.inLoop c::k)) cs w):TN P n m Φ (N+1) (b.atR a (.inLoop c::k)) cs w:=.quiet _ _ (λ_=>zq) dA (.inl rfl) h hn
theorem NQ{id:Nat}{k':List Item}(he:exitTo id k=some k')(h:TN P n m Φ N (b.atR a k') cs w):TN P n m Φ (N+1) (b.atR a (.code (.exit id)::k)) cs w:=.quiet _ _ (λ_=>zt he) dA (.inl rfl) h hn
omit hn in
theorem xi{c:Code}{M:Nat}{Q:Exit->Act->World->Prop}(hc:c.wpN b.roundOf P M Q a w)(hk:b.kind≠.early)(hQ:∀e a w,Q e a w->e=.normal)(h:∀a w,Q .normal a w->TN P cs.length cs.length Φ N (b.atR a k) cs w):TN P cs.length cs.length Φ (N+M) (b.atR a (.code c::k)) cs w:=by
 refine (hc b k cs rfl hk).bind ?_
 rintro fr cs' w' ⟨rfl,e,a',hq,he⟩
 obtain rfl:=hQ _ _ _ hq;subst he;exact h a' w' hq
end
end Go.Fi
namespace Go.Fc
open Go Go.Conc Go.Fi
open Go.ConcN (PayAt Has RW WgLive WSit CTag WD RelBy phi Vc Ssum Fsum cnt sumTo isFin pend AllQuit)
open Go.ConcR (KK WgAt stA smA Payload)
section
variable[Payload][Xf]{P P1:Program}{d:PhD}{s:Script}{bad:Nat->Prop}
structure SU(P P1:Program)(d:PhD)(s:Script)(S:Sh)(B:World)(gs:Array Goroutine)(B':World)(t:Trace)(q:Nat->Nat):Prop where
 zero:∃fr A0 S0,gs[0]?=some (gI s fr)/\s.I3 fr A0/\dh P1 P fr/\Lk (Cc P1 P) S0 A0 B'/\(∀b k,S0.part b k->b=d.F)
 SV:∀i,i<d.n->∃Ai Si,s.Fin i Ai/\Lk (Cc P1 P) Si Ai B'/\(∀b k,Si.part b k->b=d.F/\k≠i)
 left:Leavers P t gs q
 oC:Past (λl=>nC S l\/∃a,l=.cell a/\a.block=d.Wg) B'.heap.size t
 pay:PayAt d.F d.n B'
 pL:∀b o,d.lo0<=b->B'.heap[b]?=some o->okO (Cc P1 P) o
 same:∀b,b<d.lo0->b≠d.F->b≠d.Wg->B'.heap[b]?=B.heap[b]?
 os:B'.os=B.os
 output:B'.output=B.output
 size:d.lo0<=B'.heap.size
 grp:∃st sm,WgAt d.ty d.Wg B' st sm
theorem WkS.I7{i l st m dd:Nat}{g:Goroutine}{S:Sh}{A B:World}(h:WkS P P1 d s i l st m dd g S A B)(h1:st=1):QuitsD P m dd g/\s.Fin i A/\¬S.part d.F i:=by
 cases h with
 |b0=>cases h1
 |b1=>cases h1
 |b2=>cases h1
 |b3 _ hp hF _ h5=>exact⟨h5.quits h1,hF,hp⟩
theorem N4(hs:gb P P1 d s)(hd:fF d)(hc:∀l k,@lR _ (cQ l d.F k) P1 P bad){gs:Array Goroutine}{B:World}{sl:Option (Nat×Nat)}{t:Trace}{q:Nat->Nat}{S:Sh}{Bsz:Nat}{fr:Frame}(hm:gs.size=d.e0)(h0:gs[0]?=some (G fr s.base))(hL:Leavers P t gs q)(hP:Past (nC S) Bsz t)(hB:Bsz<=d.Wg)(bo:d.lo0=B.heap.size)(hS:S.dead=d.dead)(hh:∀b,d.dead b->dK B b)(bg:WgAt d.ty d.Wg B 0 0)(b4:PayAt d.F d.n B)(aa:∀i,i<d.n->B.cell? ⟨d.F,i,none⟩=some d.v0)(aw:dh P1 P fr)(hT:∃N,@TN (cQ d.lo0 d.F d.n) P1 s.base.length s.base.length (λfr' cs' A'=>cs'=s.base/\if 0<d.n then s.I1 0 fr' A' else s.I3 fr' A') N fr s.base (mkA (Cc P1 P) (λb=>d.dead b\/b=d.Wg) B)):∃N h8 B' h9 t' q',runNT P N (crowd gs B sl) t=(.next (crowd h8 B' h9),t')/\SU P P1 d s S B h8 B' t' q':=by
 obtain⟨N0,hT⟩:=hT
 have c5:∀b,d.dead b\/b=d.Wg->dK B b:=λb hb=>hb.elim (hh b) λe=>e▸⟨_,_,_,bg⟩
 let S0:Sh:=⟨λb=>d.dead b\/b=d.Wg,λb k=>b=d.F/\k≠d.n,λb o=>b<d.lo0/\B.heap[b]?=some o⟩
 let A0:=mkA (Cc P1 P) (λb=>d.dead b\/b=d.Wg) B
 have ax:Lk (Cc P1 P) S0 A0 B:=xe c5 λb o _ ho h'=>⟨by rw[bo];grind,ho⟩
 have hM:Mem (Cc P1 P) d 0 (λ_=>0) (λ_=>0) (λ_=>S0) (λ_=>A0) B B:=
  ⟨λp _=>ax,λb hb=>absurd rfl hb,λp h1 h2=>ab,λp _ b hb=>hb,λp hp b _ bw _=>absurd ab bw,λp _ b o ho=>ho.1,λp _ b k hk=>hk.1,λp hp k hk=>⟨rfl,by
    obtain rfl:p=0:=by omega
    trivial⟩,λx=>x.2 rfl,b4,λi _ h=>aa i h,λb o hb ho=>by
    have:=(cY.1 ho).1
    omega,λ_ _ _ _=>rfl,rfl,rfl,ab⟩
 have ao:dR P1 P S0 s.base fr s.base A0 B:=⟨⟨[],rfl,ae,ae⟩,aw,ax⟩
 have ck:Trc d 0 (λ_=>0) (λ_=>0) gs.size t t B.heap.size (λ_=>(⟨0,0,0⟩:WD)) 0:=
  NG hP (λb hb=>hS▸hb) hB (by have:=hd.wg;omega) hL.above _ _
 have eld:∀i,0<i->i<d.e0->∃g,gs[i]?=some g/\QuitsD P (q i) (Deaf t i) g:=λi h1 h2=>⟨gs[i]'ab,du _,hL.old i _ h1 (du _)⟩
 have bh:∀tag,ConcN.isOpen tag->pend tag=0->(∀vs,tag≠.w2 vs)->ConcN.Mode 0 (λ_=>(⟨0,0,0⟩:WD)) tag 0 0:=λtag h1 h2 h3=>by
  have:=ConcN.Mode.opn (j:=0) (D:=λ_=>(⟨0,0,0⟩:WD)) h1 (λi hi=>ab) (λvs e=>absurd e (h3 vs));simpa[Vc,sumTo,h2] using this
 have mk:∀tag f0,ConcN.isOpen tag->pend tag=0->(∀vs,tag≠.w2 vs)->StS P P1 d s (λ_=>0) tag 0 f0 0 (G fr s.base) S0 A0 B->∃μ,dW P P1 d s t B μ (crowd gs B sl) t:=λtag f0 h1 h2 h3 ha=>
  ⟨_,gs,B,sl,0,λ_=>⟨0,0,0⟩,tag,f0,0,_,q,λ_=>0,λ_=>0,λ_=>S0,λ_=>A0,0,0,rfl,⟨by rw[hm];rfl,h0,ha,eld,λi hi=>ab,hM,ck,bg,bh tag h1 h2 h3,λe=>by subst e;exact h1.elim,cG _,hh⟩,rfl⟩
 obtain⟨μ,hI⟩:∃μ,dW P P1 d s t B μ (crowd gs B sl) t:=by
  by_cases hn:0<d.n
  .simp only[b8 hn] at hT
   have e0:d.n-(d.n-1+1)=0:=ab
   have ha:=StS.p6 (P:=P) (P1:=P1) (s:=s) (d:=d) (r:=d.n-1) (lo:=λ_=>0) ab ao (bS _) (λx h1 h2=>cG _) (by rw[e0];exact hT);rw[e0] at ha;exact mk (.sp (d.n-1) 6) N0 trivial rfl ae ha
  .simp only[bP hn] at hT
   have e0:d.n=0:=ab
   have ha:=StS.pk (P:=P) (P1:=P1) (s:=s) (d:=d) (lo:=λ_=>0) ao (bS _) (λx h1 h2=>cG _) hT;rw[e0] at ha;exact mk .kd (N0+s.NK+1) trivial rfl ae ha
 obtain⟨N,m',t',hr,h8,B',h9,D,f0,fr',q',own,lo,S',A',st,sm,rfl,h,hI3,c8⟩:=NL hs hd hc μ _ _ hI;obtain⟨hq,e1,e2⟩:=h.mode.fin_inv trivial;obtain⟨qa,a1,a2,a3,a4⟩:=h.acq rfl;obtain⟨u,hu⟩:=h.trc.pre;refine⟨N,h8,B',h9,t',λi=>if i<d.e0 then q' i else (D (i-d.e0)).fuel,hr,⟨⟨fr',A' 0,S' 0,h.zero,hI3,c8,h.mem.lk 0 (cG _),h.mem.nN 0 (cG _)⟩,λi hi=>?_,⟨λi g hi hg=>?_,h.trc.above⟩,?_,h.mem.pay,h.mem.pL,h.mem.same,h.mem.os,h.mem.output,h.mem.size,⟨_,_,h.wg⟩⟩⟩
 .obtain⟨g,hg,hw⟩:=h.wk i hi;obtain⟨_,hF,hp⟩:=hw.I7 (hq i hi);refine⟨A' (i+1),S' (i+1),hF,h.mem.lk (i+1) ab,λb k hk=>?_⟩;have hb:=h.mem.nN (i+1) ab b k hk
  grind
 .by_cases bn:i<d.e0
  .simp only[b8 bn];obtain⟨g',b',cm⟩:=h.eld i hi bn;rw[hg] at b';simp_all
  .simp only[bP bn];have a9:=(cY.1 hg).1;rw[h.size] at a9;obtain⟨g',b',hw⟩:=h.wk (i-d.e0) ab;rw[show d.e0+(i-d.e0)=i by omega] at b';rw[hg] at b';cases b';obtain⟨hQ,_⟩:=hw.I7 (hq _ ab);have:=h.trc.deafW (i-d.e0) ab;rw[show d.e0+(i-d.e0)=i by omega] at this;rw[this];exact hQ
 .refine NA hP hu h.trc.tr.nr h.trc.ph h.trc.norel a1 a2 a3 (λg hg=>?_) h.trc.deaf0 h.trc.low;obtain⟨r,h1,h2⟩:=a4 (g-d.e0) ab;rw[show d.e0+(g-d.e0)=g by omega] at h1
  grind
end
end Go.Fc
namespace Go.Fc
open Go Go.Conc Go.Fi
open Go.ConcN (sumTo)
theorem Gw{P:Program}{gs:Array Goroutine}{a a':Goroutine}{w':World}{t:Trace}{q:Nat->Nat}(hL:Leavers P t gs q)(ag:0<gs.size)(fn:FuncId)(pos:String)(es:Array Event):Leavers P (t++MemOp.ofEvents 0 fn pos es) ((gs.map (woken P a a' w')).setIfInBounds 0 a') q:=
 ⟨λj x hj hx=>by
   rw[tB ab,vm] at hx;obtain⟨y,hy,rfl⟩:=tD.1 hx;have hq:=hL.old j y hj hy;rw[woken_quitsD hq,Deaf_other t (g':=0) ab _ (λop bp=>by obtain⟨e,_,rfl⟩:=Go.Conc.mem_ofEvents bp;rfl)]
   exact hq,
  λj hj=>by
   have c9:gs.size<=j:=ak
   rw[Deaf_other t (g':=0) ab _ (λop bp=>by obtain⟨e,_,rfl⟩:=Go.Conc.mem_ofEvents bp;rfl)]
   exact hL.above j c9⟩
theorem I8{P:Program}{Shun:Loc->Prop}{gs:Array Goroutine}{a a':Goroutine}{B:World}{sl:Option (Nat×Nat)}{t:Trace}{q:Nat->Nat}{n:Nat}(f:World->World)(h0:gs[0]?=some a)(a5:a.status=.running)(hL:Leavers P t gs q)(hP:Past Shun B.heap.size t)(hn:B.heap.size<=n)(ha:∀w1,AtRel B w1->∃es,stepG P true a w1=.go a' (f w1) es/\∀e∈es,Go.Conc.EvL Shun n e):∃K h8 w1 h9 t' q',runNT P K (crowd gs B sl) t=(.next (crowd h8 (f w1) h9),t')/\AtRel B w1/\h8.size=gs.size/\h8[0]?=some a'/\Leavers P t' h8 q'/\Past Shun n t':=by
 obtain⟨N,h8,w',h9,t',q',d,sl2,hr,hm,b6,bj,bk,hat,b5⟩:=zG (P:=P) (a:=a) a5 _ gs B sl t q (bS _) h0 hL hP;obtain⟨es,hs,c7⟩:=ha (w'.at d) hat;have hrunT:=runT_crowd_go (P:=P) (sl:=sl2) (i:=0) b6 (show stepG P (0==0) a (w'.at d)=_ from hs);have ag:0<h8.size:=(cY.1 b6).1;refine⟨N+1,(h8.map (woken P a a' (f (w'.at d)))).setIfInBounds 0 a',w'.at d,sl2,t'++MemOp.ofEvents 0 a.frame.fn a.frame.place es,q',?_,hat,?_,?_,Gw bj ag _ _ es,(bk.mono hn).own c7⟩
 .rw[runNT_add,hr];show runNT P 1 _ _=_;simp only[runNT,b5,hrunT]
 .simp[hm]
 grind
@[reducible] def fP:EnvD where
 E w w':=Bel w.heap.size w w'
 ext h:=h
 xt _ _ _ _:=False
 D _ _:=True
 nil _:=trivial
variable[Xf]
theorem N5{P P1:Program}{bad:Nat->Prop}(hc:@lR _ fP P1 P bad){base:List Frame}{Φ:Frame->List Frame->World->Prop}(hb:∀f args cs w,¬Φ (Frame.enter P1 f args .normal) cs w)(hΦ2:∀fr cs w,cs.length<base.length->¬Φ fr cs w)(ha:∀fr cs w w1,Φ fr cs w->Bel w.heap.size w w1->Φ fr cs w1){S:Sh}(bi:∀b i,¬S.part b i):∀(N:Nat)(gs:Array Goroutine)(B:World)(sl:Option (Nat×Nat))(t:Trace)(q:Nat->Nat)(A:World)(fr:Frame)(cs:List Frame),gs[0]?=some (G fr cs)->dR P1 P S base fr cs A B->Leavers P t gs q->Past (nC S) B.heap.size t->@TN fP P1 base.length base.length Φ N fr cs A->∃K h8 B' h9 t' q' fr' cs' A',runNT P K (crowd gs B sl) t=(.next (crowd h8 B' h9),t')/\h8.size=gs.size/\h8[0]?=some (G fr' cs')/\Φ fr' cs' A'/\dR P1 P S base fr' cs' A' B'/\Leavers P t' h8 q'/\Past (nC S) B'.heap.size t':=by
 intro N
 induction N with
 |zero=>intro gs B sl t q A fr cs h0 ao hL hP hT;exact⟨0,gs,B,sl,t,q,fr,cs,A,rfl,rfl,h0,hT,ao,hL,hP⟩
 |succ N ih=>
  intro gs B sl t q A fr cs h0 ao hL hP hT;by_cases hΦ:Φ fr cs A
  .exact⟨0,gs,B,sl,t,q,fr,cs,A,rfl,rfl,h0,hΦ,ao,hL,hP⟩
  obtain⟨K,h8,w',h9,t',q',d,sl2,hr,hm,b6,bj,bk,⟨d2,hat⟩,b5⟩:=zG (P:=P) (a:=G fr cs) rfl _ gs B sl t q (bS _) h0 hL hP
  have bq:dR P1 P S base fr cs A (w'.at d):=by rw[hat];exact⟨ao.pre,ao.ok,ao.lk.drawn d2⟩
  rcases @Bj _ fP P1 P bad S base Φ hc true (.inl rfl) (λw es _ e _ a _=>bi _ _) (λf args cs w _=>hb f args cs w) hΦ2 fr cs A (w'.at d) N bq hT with hw|⟨fr',cs',A',B',es,hgo,a6,⟨A2,e1,e2,e3,c2⟩,co,hk,bm,_,cj⟩
  .trivial
  .have hrunT:=runT_crowd_go (P:=P) (sl:=sl2) (i:=0) b6 (show stepG P (0==0) (G fr cs) (w'.at d)=_ from hgo);have ag:0<h8.size:=(cY.1 b6).1
   have hszB:B.heap.size<=B'.heap.size:=by have:=hk.size;rw[hat] at this;exact this
   have hT2:@TN fP P1 base.length base.length Φ N fr' cs' A':=
    @TN.rely fP _ _ _ _ pd ha _ _ _ _ _ c2 ⟨e2.symm,e3.symm,by rw[e1];simp,λb _=>by rw[e1]⟩
   obtain⟨K2,gs2,B2,sl3,t2,q2,fr2,cs2,A3,x1,x2,x3,x4,x5,x6,x7⟩:=ih ((h8.map (woken P (G fr cs) (G fr' cs') B')).setIfInBounds 0 (G fr' cs')) B' sl2 (t'++MemOp.ofEvents 0 (G fr cs).frame.fn (G fr cs).frame.place es) q' A' fr' cs' (by simp[ag]) a6 (Gw bj ag _ _ es) ((bk.mono hszB).own λe he=>EY (bm e he)) hT2;refine⟨K+(1+K2),gs2,B2,sl3,t2,q2,fr2,cs2,A3,?_,by rw[x2];simp[hm],x3,x4,x5,x6,x7⟩;rw[runNT_add,hr];show runNT P (1+K2) _ _=_;rw[runNT_add];simp only[runNT,b5,hrunT];exact x1
section
variable{C C0:Cx}{dead:Nat->Prop}{B B' A':World}{K:jz}
structure lg(C0:Cx)(K:jz)(dead:Nat->Prop)(B:World):Prop where
 lK:∀b,dead b->K.n0<=b/\dK B b
 old:∀b o,¬dead b->B.heap[b]?=some o->¬okO C0 o->K.old b o
def shW(dead:Nat->Prop)(B:World):Sh:=⟨dead,λ_ _=>False,λb o=>b<B.heap.size/\B.heap[b]?=some o⟩
omit [Xf] in
theorem N6(h:∀b,dead b->dK B b):Lk C (shW dead B) (mkA C dead B) B:=xe h λb o _ ho _=>⟨(cY.1 ho).1,ho⟩
omit [Xf] in
theorem Gx(h:lg C0 K dead B):Lk C0 ⟨dead,λ_ _=>False,K.old⟩ (mkA C0 dead B) B:=xe (λb hb=>(h.lK b hb).2) h.old
omit [Xf] in
theorem Gy(b:Nat)(o:Obj):¬okO C (gH b o):=by cases o<;>exact id
omit [Xf] in
theorem lg.step(h:lg C0 K dead B)(bf:∀o,okO C o->okO C0 o)(hl:Lk C (shW dead B) A' B'):lg C0 K dead B':=by
 refine⟨λb hb=>⟨(h.lK b hb).1,?_⟩,λb o hd ho h'=>?_⟩
 .obtain⟨c,e,f,_,h2⟩:=hl.dead b hb;exact⟨c,e,f,h2⟩
 .rcases hl.same b hd with ⟨e,hk⟩|⟨o',h1,_,_,h2⟩|⟨_,_,_,_,_,h1,_⟩
  .simp_all
  .rw[ho] at h1;cases h1;exact h.old b o hd h2.2 h'
  .rw[ho] at h1;cases h1;exact absurd trivial h'
omit [Xf] in
theorem N7(hl:Lk C (shW dead B) A' B')(hh:∀b,dead b->dK B b)(hb:Bel B.heap.size (mkA C dead B) A'){C2:Cx}:Bel B.heap.size (mkA C2 dead B) (mkA C2 dead B')/\(∀b,b<B.heap.size->¬dead b->B'.heap[b]?=B.heap[b]?):=by
 have key:∀b,b<B.heap.size->¬dead b->B'.heap[b]?=B.heap[b]?:=λb a9 hd=>by
  have hA:=hb.block b a9;obtain⟨o,hx⟩:∃o,B.heap[b]?=some o:=⟨_,du a9⟩
  rcases hl.same b hd with ⟨e,hk⟩|⟨o',h1,_,h3,h4⟩|⟨cA,cB,e,f,h1,h2,h3,h4⟩
  .rw[<-e,hA];by_cases ay:okO C o
   .rw[nq hd hx ay,hx]
   .rw[pb hd hx ay] at hA;exact absurd (hk _ hA) (Gy b o)
  .rw[h1,h4.2]
  .have hc:cA=cB:=DS (vr λi=>by simpa using h4 i (λx=>x));subst hc;rw[h2,<-h1,hA];by_cases ay:okO C o
   .rw[nq hd hx ay,hx]
   .rw[pb hd hx ay,h1] at hA;have:=Gy (C:=C) b o;rw[<-fL hA] at this;exact absurd trivial this
 have hszA:(mkA C dead B).heap.size=B.heap.size:=eT
 have hm:B.heap.size<=B'.heap.size:=by rw[<-hl.size,<-hszA];exact hb.size
 refine⟨⟨?_,?_,?_,λb a9=>?_⟩,key⟩
 .show B'.os=B.os;rw[<-hl.os];exact hb.os
 .show B'.output=B.output;rw[<-hl.output];exact hb.output
 .rw[eT,eT];exact hm
 .by_cases hd:dead b
  .obtain⟨c,e,f,hc⟩:=hh b hd;obtain⟨c',e',f',h1,h2⟩:=hl.dead b hd;have hA:=hb.block b a9;rw[oz hd,hc] at hA;rw[h1] at hA;rw[oz hd,oz hd,hc,h2];trivial
  .simp only[mkA,qn,key b a9 hd]
end
def iQ(P:Program)(m:Machine)(t:Trace)(m':Machine)(t':Trace):Prop:=∃N,runNT P N m t=(.next m',t')
theorem iQ.trans{P:Program}{m m1 m2:Machine}{t t1 t2:Trace}(h:iQ P m t m1 t1)(k:iQ P m1 t1 m2 t2):iQ P m t m2 t2:=by
 obtain⟨N,h⟩:=h;obtain⟨M,k⟩:=k;exact⟨N+M,by rw[runNT_add,h];exact k⟩
theorem iQ.refl{P:Program}{m:Machine}{t:Trace}:iQ P m t m t:=⟨0,rfl⟩
def uZ(dead:Nat->Prop):Loc->Prop:=λl=>∃a,l=.cell a/\dead a.block
theorem Oh{S S':Loc->Prop}{B:Nat}{t:Trace}(h:Past S B t)(hs:∀l,S l->S' l):Past S' B t:=
 ⟨h.clean,λi a h1 h2=>(h.known i a h1 h2).imp id λx=>⟨hs _ x.1,x.2⟩,h.over,h.hears,h.seen⟩
section
variable{C C':Cx}{S:Sh}{dead:Nat->Prop}{A B:World}
theorem Lk.unique(h:Lk C S A B)(hp:∀b i,¬S.part b i)(b:Nat):A.heap[b]?=(mkA C S.dead B).heap[b]?:=by
 by_cases hd:S.dead b
 .obtain⟨c,e,f,h1,h2⟩:=h.dead b hd;rw[oz hd,h1,h2];rfl
 .rcases h.same b hd with ⟨e,hk⟩|⟨o,h1,h2,h3,_⟩|⟨cA,cB,e,f,h1,h2,_,h4⟩
  .rcases hx:B.heap[b]? with _|o
   .rw[e,hx,uj hx]
   .rw[e,hx,nq hd hx (hk o (e.trans hx))]
  .rw[h3,pb hd h1 h2]
  .have:cA=cB:=DS (vr λi=>al);subst this;rw[h1,qE hd h2]
theorem GO{b:Nat}{c:Array Value}{e:TypeId}{f:Nat×Nat}(h:(mkA C dead B).heap[b]?=some (.cells c e f)):(mkA C' dead B).heap[b]?=some (.cells c e f):=by
 by_cases hd:dead b
 .rw[oz hd] at h ⊢;exact h
 .rcases hx:B.heap[b]? with _|o
  .rw[uj hx] at h;cases h
  .by_cases ho:okO C o
   .rw[nq hd hx ho] at h;obtain rfl:=fL h;exact qE hd hx
   .rw[pb hd hx ho] at h
    cases o<;>cases h
theorem um{b:Nat}{c:Array Value}{e:TypeId}{f:Nat×Nat}(h:(mkA C dead B).heap[b]?=some (.cells c e f))(hd:¬dead b):B.heap[b]?=some (.cells c e f):=by
 rcases hx:B.heap[b]? with _|o
 .rw[uj hx] at h;cases h
 .by_cases ho:okO C o
  .rw[nq hd hx ho] at h;exact h
  .rw[pb hd hx ho] at h
   cases o<;>cases h
theorem GP{b:Nat}{c:Array Value}{e:TypeId}{f:Nat×Nat}(h:(mkA C dead B).heap[b]?=some (.cells c e f))(hc:0<c.size):¬dead b:=λhd=>by
 rw[oz hd] at h
 rcases hx:B.heap[b]? with _|o
 .rw[hx] at h;cases h
 .rw[hx] at h
  cases o<;>simp[sK] at h
  rw[h.1] at hc;simp at hc
theorem Oi{a:Addr}{v:Value}(h:A.cell? a=some v):∃c e f,A.heap[a.block]?=some (.cells c e f)/\0<c.size:=by
 unfold World.cell? at h
 grind
theorem GQ{a:Addr}(h:A.heap[a.block]?=B.heap[a.block]?):A.cell? a=B.cell? a:=by
 unfold World.cell?;rw[h]
theorem Oj{a:Addr}{v:Value}(h:(mkA C dead B).cell? a=some v):¬dead a.block/\B.cell? a=some v:=by
 obtain⟨c,e,f,h1,h2⟩:=Oi h;have hd:=GP h1 h2;exact⟨hd,by rw[GQ ((um h1 hd).trans h1.symm)];exact h⟩
theorem Bel.congr{n:Nat}{A A' W W':World}(h:Bel n A A')(e1:∀b:Nat,A.heap[b]?=W.heap[b]?)(e2:∀b:Nat,A'.heap[b]?=W'.heap[b]?)(o1:A.os=W.os)(o2:A'.os=W'.os)(p1:A.output=W.output)(p2:A'.output=W'.output):Bel n W W':=by
 have s1:A.heap=W.heap:=rr e1;have s2:A'.heap=W'.heap:=rr e2;exact⟨by rw[<-o1,<-o2];exact h.os,by rw[<-p1,<-p2];exact h.output,by rw[<-s1,<-s2];exact h.size,λk hk=>by rw[<-e1,<-e2];exact h.block k hk⟩
end
structure Stg(C0:Cx)(P:Program)(K:jz)(dead:Nat->Prop)(gs:Array Goroutine)(B:World)(t:Trace)(q:Nat->Nat)(fr:Frame)(cs:List Frame):Prop where
 zero:gs[0]?=some (G fr cs)
 mT:lg C0 K dead B
 left:Leavers P t gs q
 oC:Past (uZ dead) B.heap.size t
 n0:K.n0<=B.heap.size
section
variable{P P1 P0:Program}{C0:Cx}{K:jz}{dead:Nat->Prop}{gs:Array Goroutine}{B:World}{sl:Option (Nat×Nat)}{t:Trace}{q:Nat->Nat}{fr fr':Frame}{cs cs':List Frame}{bad:Nat->Prop}
theorem lg.Jg{S:Sh}{A:World}(h:Lk C0 S A B)(hp:∀b i,¬S.part b i)(hd:∀b,S.dead b->K.n0<=b)(ho:S.old=K.old):lg C0 K S.dead B:=by
 refine⟨λb hb=>⟨hd b hb,?_⟩,λb o bd hx h'=>?_⟩
 .obtain⟨c,e,f,_,h2⟩:=h.dead b hb;exact⟨c,e,f,h2⟩
 .rcases h.same b bd with ⟨e,hk⟩|⟨o',h1,_,_,h2⟩|⟨_,_,_,_,_,h1,_⟩
  .simp_all
  .rw[hx] at h1;simp_all
  .rw[hx] at h1;cases h1;exact absurd trivial h'
theorem xn(h:Stg C0 P K dead gs B t q fr cs)(ha:∀w,stepG P true (G fr cs) w=.go (G fr' cs') w #[]\/stepG P true (G fr cs) w=.go (G fr' cs') w #[]):∃h8 d h9 t' q',iQ P (crowd gs B sl) t (crowd h8 (B.at d) h9) t'/\h8.size=gs.size/\Stg C0 P K dead h8 (B.at d) t' q' fr' cs':=by
 obtain⟨k,h8,w1,h9,t',q',hr,⟨d,rfl⟩,hm,h0,hL,hP⟩:=I8 (P:=P) (a:=G fr cs) (a':=G fr' cs') (B:=B) (sl:=sl) (n:=B.heap.size) id h.zero rfl h.left h.oC (bS _) λw1 _=>⟨#[],by rcases ha w1 with e|e<;>exact e,ae⟩
 exact⟨h8,d,h9,t',q',⟨k,hr⟩,hm,h0,⟨h.mT.lK,h.mT.old⟩,hL,hP,h.n0⟩
theorem Ol(h:Stg C0 P K dead gs B t q fr cs){c:Array Value}{e:TypeId}(ha:∀w,AtRel B w->stepG P true (G fr cs) w=.go (G fr' cs') (w.alloc (.cells c e)) #[]):∃h8 B' h9 t' q',iQ P (crowd gs B sl) t (crowd h8 B' h9) t'/\h8.size=gs.size/\h8[0]?=some (G fr' cs')/\lg C0 K dead B'/\Leavers P t' h8 q'/\Past (uZ dead) B.heap.size t'/\B'.heap=B.heap.push (.cells c e)/\B'.os=B.os/\B'.output=B.output:=by
 obtain⟨k,h8,w1,h9,t',q',hr,⟨d,rfl⟩,hm,h0,hL,hP⟩:=I8 (P:=P) (a:=G fr cs) (a':=G fr' cs') (B:=B) (sl:=sl) (n:=B.heap.size) (λw=>w.alloc (.cells c e)) h.zero rfl h.left h.oC (bS _) λw1 hw=>⟨#[],ha w1 hw,ae⟩
 refine⟨h8,_,h9,t',q',⟨k,hr⟩,hm,h0,⟨λb hb=>?_,λb o hd ho h'=>?_⟩,hL,hP,rfl,rfl,rfl⟩
 .obtain⟨h1,c',e',f',h2⟩:=h.mT.lK b hb;have a9:=(cY.1 h2).1
  exact⟨h1,c',e',f',by
   show (B.heap.push _)[b]?=_
   rw[vq a9];simp_all⟩
 .change (B.heap.push _)[b]?=_ at ho
  rw[qg] at ho;split at ho
  .cases ho;exact absurd trivial h'
  .exact h.mT.old b o hd ho h'
theorem xo[XF:Xf](hc:@lR _ fP P1 P bad)(bf:∀o,okO (Cc P1 P) o->okO C0 o)(h:Stg C0 P K dead gs B t q fr cs)(aw:dh P1 P fr){Φ:Frame->List Frame->World->Prop}{N:Nat}(hT:@TN fP P1 cs.length cs.length Φ N fr cs (mkA (Cc P1 P) dead B))(hΦ:∀fr' cs' w,Φ fr' cs' w->cs'=cs/\Bel (mkA (Cc P1 P) dead B).heap.size (mkA (Cc P1 P) dead B) w)(hb:∀f args cs w,¬Φ (Frame.enter P1 f args .normal) cs w)(ha:∀fr cs w w1,Φ fr cs w->Bel w.heap.size w w1->Φ fr cs w1):∃h8 B' h9 t' q' fr' A',iQ P (crowd gs B sl) t (crowd h8 B' h9) t'/\h8.size=gs.size/\Stg C0 P K dead h8 B' t' q' fr' cs/\Φ fr' cs A'/\dh P1 P fr'/\(∀b:Nat,A'.heap[b]?=(mkA (Cc P1 P) dead B').heap[b]?)/\Bel B.heap.size (mkA C0 dead B) (mkA C0 dead B'):=by
 have hh:∀b,dead b->dK B b:=λb hb=>(h.mT.lK b hb).2
 have ao:dR P1 P (shW dead B) cs fr cs (mkA (Cc P1 P) dead B) B:=⟨⟨[],rfl,ae,ae⟩,aw,N6 hh⟩;obtain⟨k,h8,B',h9,t',q',fr',cs',A',hr,hm,h0,bb,a6,hL,hP⟩:=N5 hc hb (λfr cs' w a9 bz=>by have:=(hΦ _ _ _ bz).1;simp_all) ha (S:=shW dead B) (λb i h=>h) N gs B sl t q _ fr cs h.zero ao h.left h.oC hT;obtain⟨rfl,b7⟩:=hΦ _ _ _ bb;rw[eT] at b7;have hB:=(N7 (C2:=C0) a6.lk hh b7).1
 have hszX:B.heap.size<=B'.heap.size:=by have:=hB.size;rw[eT,eT] at this;exact this
 exact⟨h8,B',h9,t',q',fr',A',⟨k,hr⟩,hm,⟨h0,h.mT.step bf a6.lk,hL,hP,dJ h.n0 hszX⟩,bb,a6.ok,a6.lk.unique (λb i h=>h),hB⟩
theorem Om[XF:Xf][EV:EnvD](hp:qO P0 P bad)(oD:r8 P0 P K)(bl:∀f,¬Xf.bot f){f:FuncId}{args:Array Value}(ho:Frame.enter P f args .normal=Frame.enter P0 f args .normal)(ay:dh P0 P (Frame.enter P0 f args .normal)){cl:Frame}(c3:fY cl)(h:Stg (Cc P0 P) P K dead gs B t q (Frame.enter P f args .normal) (cl::cs)){R:Ending->World->Prop}(hT:iw P0 f args (mkA (Cc P0 P) dead B) R)(bw:∀f args v,bad f->Frame.enter P0 f args .normal≠cl.finish v):∃h8 B' h9 t' q' aq A' v,iQ P (crowd gs B sl) t (crowd h8 B' h9) t'/\Stg (Cc P0 P) P K aq h8 B' t' q' (cl.finish v) cs/\R (.returned v) A'/\(∀b:Nat,A'.heap[b]?=(mkA (Cc P0 P) aq B').heap[b]?)/\A'.os=B'.os/\A'.output=B'.output:=by
 have br:Sit P0 P K ⟨dead,λ_ _=>False,K.old⟩ (cl::cs) (Frame.enter P0 f args .normal) (cl::cs) (mkA (Cc P0 P) dead B) gs B t q:=
  ⟨⟨_,h.zero,.inl ⟨[],rfl,ae,.inl ⟨ho,ay⟩⟩⟩,Gx h.mT,λb i h=>h,λb hb=>(h.mT.lK b hb).1,rfl,h.left,h.oC,h.n0⟩
 obtain⟨k,h8,B',h9,t',q',S',fr',cs',A',hr,bc,c4,v,hR,aw⟩:=EZ hp oD bl (base:=cl::cs) (λf args cs w hb bz=>by
  simp_all) (hT cl cs c3) _ gs B sl t q br
 subst c4;subst aw;obtain⟨⟨fr2,h0,bt⟩,ax,bi,c6,cg,hold,ba,cf⟩:=bc
 rcases bt with ⟨pre,e,_⟩|⟨e,_⟩
 .have:=congrArg List.length e
  grind
 .subst e;exact⟨h8,B',h9,t',q',S'.dead,A',v,⟨k,hr⟩,⟨h0,lg.Jg ax bi c6 cg,hold,ba,cf⟩,hR,ax.unique bi,ax.os,ax.output⟩
end
section
variable[PL:ConcR.Payload][XF:Xf]{P P1:Program}{d:PhD}{s:Script}{bad:Nat->Prop}{C0:Cx}{K:jz}
open Go.ConcN (PayAt)
open Go.ConcR (WgAt wgBlock)
theorem On(hs:gb P P1 d s)(hd:fF d)(hc:∀l k,@lR _ (cQ l d.F k) P1 P bad)(bf:∀o,okO (Cc P1 P) o->okO C0 o){gs:Array Goroutine}{B:World}{sl:Option (Nat×Nat)}{t:Trace}{q:Nat->Nat}{Bsz:Nat}{fr:Frame}(hm:gs.size=d.e0)(h0:gs[0]?=some (G fr s.base))(hr:lg C0 K d.dead B)(hL:Leavers P t gs q)(hP:Past (uZ d.dead) Bsz t)(hB:Bsz<=d.Wg)(bo:d.lo0=B.heap.size)(bg:WgAt d.ty d.Wg B 0 0)(b4:PayAt d.F d.n B)(aa:∀i,i<d.n->B.cell? ⟨d.F,i,none⟩=some d.v0)(aw:dh P1 P fr)(hK:K.n0<=d.Wg)(hT:∃N,@TN (cQ d.lo0 d.F d.n) P1 s.base.length s.base.length (λfr' cs' A'=>cs'=s.base/\if 0<d.n then s.I1 0 fr' A' else s.I3 fr' A') N fr s.base (mkA (Cc P1 P) (λb=>d.dead b\/b=d.Wg) B)):∃h8 B' h9 t' q' fr' A0,iQ P (crowd gs B sl) t (crowd h8 B' h9) t'/\Stg C0 P K (λb=>d.dead b\/b=d.Wg) h8 B' t' q' (fr'.finish (.tuple #[])) s.base/\s.I3 fr' A0/\dh P1 P fr'/\(∀i,i<d.n->∃Ai Si,s.Fin i Ai/\Lk (Cc P1 P) Si Ai B'/\(∀b k,Si.part b k->b=d.F/\k≠i))/\(∀b,b<d.lo0->b≠d.F->b≠d.Wg->B'.heap[b]?=B.heap[b]?)/\B'.os=B.os/\B'.output=B.output/\d.lo0<=B'.heap.size/\PayAt d.F d.n B':=by
 obtain⟨N,h8,B',h9,t',q',a5,h⟩:=N4 (S:=⟨d.dead,λ_ _=>False,λ_ _=>False⟩) hs hd hc hm h0 hL hP hB bo rfl (λb hb=>(hr.lK b hb).2) bg b4 aa aw hT;obtain⟨fr',A0,S0,z1,z2,z3,z4,z5⟩:=h.zero;refine⟨h8,B',h9,t',q',fr',A0,⟨N,a5⟩,⟨z1,⟨λb hb=>?_,λb o bd ho h'=>?_⟩,h.left,Oh h.oC λl hl=>?_,dJ hK (Nat.le_of_lt (lY hd.wg h.size))⟩,z2,z3,h.SV,h.same,h.os,h.output,h.size,h.pay⟩
 .rcases hb with hb|rfl
  .obtain⟨x1,c,e,f,x2⟩:=hr.lK b hb;obtain⟨y1,y2,y3⟩:=hd.dead b hb;exact⟨x1,c,e,f,(h.same b y1 y2 y3).trans x2⟩
  .obtain⟨st,sm,hg⟩:=h.grp;exact⟨hK,_,_,_,hg⟩
 .by_cases a9:b<d.lo0
  .by_cases hF:b=d.F
   .subst hF;obtain⟨cF,hF,_⟩:=h.pay;rw[hF] at ho;cases ho;exact absurd trivial h'
   .have hW:b≠d.Wg:=λe=>bd (.inr e)
    rw[h.same b a9 hF hW] at ho;exact hr.old b o (λx=>bd (.inl x)) ho h'
  .exact absurd (bf o (h.pL b o ab ho)) h'
 .rcases hl with ⟨a,e1,e2⟩|⟨a,e1,e2⟩
  .exact⟨a,e1,.inl e2⟩
  .exact⟨a,e1,.inr e2⟩
end
end Go.Fc
