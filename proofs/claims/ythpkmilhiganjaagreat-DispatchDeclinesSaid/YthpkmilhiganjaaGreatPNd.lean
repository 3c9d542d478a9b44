/- Lemmas. -/
import Derived.Test.YthpkmilhiganjaaGreatPNc
import Derived.Test.YthpkmilhiganjaaGreatPMe
import Derived.Test.YthpkmilhiganjaaGreatPMc
set_option linter.all false
set_option maxHeartbeats 32000000
set_option maxRecDepth 100000
namespace Go.Fi
open Go Go.RowKit
open Go.Conc (G)
section
variable[EnvD]{P:Program}{n m N:Nat}{Φ:Frame->List Frame->World->Prop}{b:Frame}{a:Act}{k:List Item}{cs:List Frame}{w:World}{ops:Array Oper}
theorem mj{i:Nat}{rest:List Nat}{o:Oper}(ho:ops[i]?=some o)(hw:Region.wanted o (yielded ops a.tmps)=true)(hd:∀c,o.op≠.defer c)(hk:b.kind≠.early)(hn:n<=cs.length)(h:∀w1,EnvD.E w w1->(∀f,EnvD.D w1 (Go.Conc.listed P f a o w1))/\o.dV a (λa' w'=>TN P n m Φ N (b.atR a' (.inRegion ops rest::k)) cs w') ((execOp a.eval o).run P w1)):TN P n m Φ (N+1) (b.atR a (.inRegion ops (i::rest)::k)) cs w:=by
 refine .dh (λw1 e=>?_) hn;obtain⟨bj,hu⟩:=h w1 e;have hg:=ui (P:=P) (b:=b) (k:=k) (cs:=cs) (w:=w1) (rest:=rest) ho hw hd
 have b4:∀v,(b.atR a (.inRegion ops (i::rest)::k)).finish v=b.atR (a.put o.dst v) (.inRegion ops rest::k):=by
  intro v;rw[Frame.finish_atR,ho];rfl
 have bq:((b.atR a (.inRegion ops (i::rest)::k)).kind==CallKind.early)=false:=by simpa[Frame.atR] using hk
 have br:EnvD.D w1 (seen P (b.atR a (.inRegion ops (i::rest)::k)).fn ((execOp a.eval o).events P w1 #[])++#[]):=by rw[lH];exact bj _
 generalize a5:(execOp a.eval o).run P w1=R at hu
 cases R with
 |halt x w'=>exact hu.elim
 |ok x w'=>
  cases x<;>simp only[Oper.dV] at hu
  .rename_i v;exact⟨b.atR (a.put o.dst v) (.inRegion ops rest::k),cs,w',_,by rw[hg,<-b4];simp only[stepG.apply,aJ,Sem.runT_eq,a5,bq,bw,aQ,GStep.after];rfl,bG,.inl rfl,br,hu⟩
  .exact⟨b.atR (a.put o.dst undef) (.inRegion ops rest::k),cs,w',_,by rw[hg,<-b4];simp only[stepG.apply,aJ,Sem.runT_eq,a5,bq,bw,aQ,GStep.after];rfl,bG,.inl rfl,br,hu⟩
variable(hn:n<=cs.length)
include hn
theorem lS(h:TN P n m Φ N (b.atR a k) cs w):TN P n m Φ (N+1) (b.atR a (.inRegion ops []::k)) cs w:=.quiet _ _ (λ_=>uh) bG (.inl rfl) h hn
theorem kE{id:Nat}(h:TN P n m Φ N (b.atR a (.inRegion ops (List.range ops.size)::k)) cs w):TN P n m Φ (N+1) (b.atR a (.code (.region id ops false)::k)) cs w:=.quiet _ _ (λ_=>xQ) bG (.inl rfl) h hn
theorem gK{x y:Code}(h:TN P n m Φ N (b.atR a (.code x::.code y::k)) cs w):TN P n m Φ (N+1) (b.atR a (.code (.seq x y)::k)) cs w:=.quiet _ _ (λ_=>xI) bG (.inl rfl) h hn
theorem EZ(h:TN P n m Φ N (b.atR a k) cs w):TN P n m Φ (N+1) (b.atR a (.code .skip::k)) cs w:=.quiet _ _ (λ_=>xG) bG (.inl rfl) h hn
theorem z9{c:Operand}{x y:Code}{t:Bool}(hc:a.eval c=.bool t)(h:TN P n m Φ N (b.atR a (.code (if t then x else y)::k)) cs w):TN P n m Φ (N+1) (b.atR a (.code (.cond c x y)::k)) cs w:=.quiet _ _ (λ_=>xJ hc) bG (.inl rfl) h hn
theorem E4{id:Nat}{c:Code}(h:TN P n m Φ N (b.atR a (.code c::.inBlock id::k)) cs w):TN P n m Φ (N+1) (b.atR a (.code (.block id c)::k)) cs w:=.quiet _ _ (λ_=>xK) bG (.inl rfl) h hn
theorem Ma{id:Nat}(h:TN P n m Φ N (b.atR a k) cs w):TN P n m Φ (N+1) (b.atR a (.inBlock id::k)) cs w:=.quiet _ _ (λ_=>xH) bG (.inl rfl) h hn
theorem Mb{c:Code}(h:TN P n m Φ N (b.atR a (.code c::.inLoop c::k)) cs w):TN P n m Φ (N+1) (b.atR a (.code (.loop c)::k)) cs w:=.quiet _ _ (λ_=>xL) bG (.inl rfl) h hn
theorem Mc{c:Code}(h:TN P n m Φ N (b.atR a (.code c::.inLoop c::k)) cs w):TN P n m Φ (N+1) (b.atR a (.inLoop c::k)) cs w:=.quiet _ _ (λ_=>xM) bG (.inl rfl) h hn
theorem Md{id:Nat}{k':List Item}(he:exitTo id k=some k')(h:TN P n m Φ N (b.atR a k') cs w):TN P n m Φ (N+1) (b.atR a (.code (.exit id)::k)) cs w:=.quiet _ _ (λ_=>xN he) bG (.inl rfl) h hn
omit hn in
theorem vK{c:Code}{M:Nat}{Q:Exit->Act->World->Prop}(hc:c.wpN b.roundOf P M Q a w)(hk:b.kind≠.early)(hQ:∀e a w,Q e a w->e=.normal)(h:∀a w,Q .normal a w->TN P cs.length cs.length Φ N (b.atR a k) cs w):TN P cs.length cs.length Φ (N+M) (b.atR a (.code c::k)) cs w:=by
 refine (hc b k cs rfl hk).bind ?_
 rintro fr cs' w' ⟨rfl,e,a',hq,he⟩
 obtain rfl:=hQ _ _ _ hq;subst he;exact h a' w' hq
end
end Go.Fi
namespace Go.Fc
open Go Go.Conc Go.Fi
open Go.ConcN (PayAt Has RW WgLive WSit CTag WD RelBy phi Vc Ssum Fsum cnt sumTo isFin pend AllQuit)
open Go.ConcR (KK WgAt stA smA Payload)
section
variable[Payload][Xf]{P P1:Program}{d:PhD}{s:Script}{bad:Nat->Prop}
structure Q7(P P1:Program)(d:PhD)(s:Script)(S:Sh)(B:World)(gs:Array Goroutine)(B':World)(t:Trace)(q:Nat->Nat):Prop where
 zero:∃fr A0 S0,gs[0]?=some (fV s fr)/\s.I3 fr A0/\bI P1 P fr/\Lk (Cc P1 P) S0 A0 B'/\(∀b k,S0.part b k->b=d.F)
 Q8:∀i,i<d.n->∃Ai Si,s.Fin i Ai/\Lk (Cc P1 P) Si Ai B'/\(∀b k,Si.part b k->b=d.F/\k≠i)
 left:Leavers P t gs q
 nu:Past (λl=>mf S l\/∃a,l=.cell a/\a.block=d.Wg) B'.heap.size t
 pay:PayAt d.F d.n B'
 oK:∀b o,d.lo0<=b->B'.heap[b]?=some o->okO (Cc P1 P) o
 same:∀b,b<d.lo0->b≠d.F->b≠d.Wg->B'.heap[b]?=B.heap[b]?
 os:B'.os=B.os
 output:B'.output=B.output
 size:d.lo0<=B'.heap.size
 grp:∃st sm,WgAt d.ty d.Wg B' st sm
theorem WkS.HD{i l st m dd:Nat}{g:Goroutine}{S:Sh}{A B:World}(h:WkS P P1 d s i l st m dd g S A B)(h1:st=1):QuitsD P m dd g/\s.Fin i A/\¬S.part d.F i:=by
 cases h with
 |b0=>cases h1
 |b1=>cases h1
 |b2=>cases h1
 |b3 _ hp hF _ h5=>exact⟨h5.quits h1,hF,hp⟩
theorem Mq(hs:fg P P1 d s)(hd:eo d)(hc:∀l k,@j3 _ (aV l d.F k) P1 P bad){gs:Array Goroutine}{B:World}{sl:Option (Nat×Nat)}{t:Trace}{q:Nat->Nat}{S:Sh}{Bsz:Nat}{fr:Frame}(hm:gs.size=d.e0)(h0:gs[0]?=some (G fr s.base))(hL:Leavers P t gs q)(hP:Past (mf S) Bsz t)(hB:Bsz<=d.Wg)(bl:d.lo0=B.heap.size)(hS:S.dead=d.dead)(hh:∀b,d.dead b->bV B b)(bc:WgAt d.ty d.Wg B 0 0)(av:PayAt d.F d.n B)(af:∀i,i<d.n->B.cell? ⟨d.F,i,none⟩=some d.v0)(aq:bI P1 P fr)(hT:∃N,@TN (aV d.lo0 d.F d.n) P1 s.base.length s.base.length (λfr' cs' A'=>cs'=s.base/\if 0<d.n then s.I1 0 fr' A' else s.I3 fr' A') N fr s.base (mkA (Cc P1 P) (λb=>d.dead b\/b=d.Wg) B)):∃N h8 B' h9 t' q',runNT P N (crowd gs B sl) t=(.next (crowd h8 B' h9),t')/\Q7 P P1 d s S B h8 B' t' q':=by
 obtain⟨N0,hT⟩:=hT
 have c4:∀b,d.dead b\/b=d.Wg->bV B b:=λb hb=>hb.elim (hh b) λe=>e▸⟨_,_,_,bc⟩
 let S0:Sh:=⟨λb=>d.dead b\/b=d.Wg,λb k=>b=d.F/\k≠d.n,λb o=>b<d.lo0/\B.heap[b]?=some o⟩
 let A0:=mkA (Cc P1 P) (λb=>d.dead b\/b=d.Wg) B
 have ar:Lk (Cc P1 P) S0 A0 B:=vH c4 λb o _ ho h'=>⟨by rw[bl];grind,ho⟩
 have hM:Mem (Cc P1 P) d 0 (λ_=>0) (λ_=>0) (λ_=>S0) (λ_=>A0) B B:=
  ⟨λp _=>ar,λb hb=>absurd rfl hb,λp h1 h2=>by omega,λp _ b hb=>hb,λp hp b _ bu _=>absurd (by omega) bu,λp _ b o ho=>ho.1,λp _ b k hk=>hk.1,λp hp k hk=>⟨rfl,by
    obtain rfl:p=0:=by omega
    trivial⟩,λx=>x.2 rfl,av,λi _ h=>af i h,λb o hb ho=>by
    have:=(a8.1 ho).1
    omega,λ_ _ _ _=>rfl,rfl,rfl,by omega⟩
 have aj:cz P1 P S0 s.base fr s.base A0 B:=⟨⟨[],rfl,by simp,by simp⟩,aq,ar⟩
 have cj:Trc d 0 (λ_=>0) (λ_=>0) gs.size t t B.heap.size (λ_=>(⟨0,0,0⟩:WD)) 0:=
  L4 hP (λb hb=>hS▸hb) hB (by have:=hd.wg;omega) hL.above _ _
 have eld:∀i,0<i->i<d.e0->∃g,gs[i]?=some g/\QuitsD P (q i) (Deaf t i) g:=λi h1 h2=>⟨gs[i]'(by omega),bS _,hL.old i _ h1 (bS _)⟩
 have b6:∀tag,ConcN.isOpen tag->pend tag=0->(∀vs,tag≠.w2 vs)->ConcN.Mode 0 (λ_=>(⟨0,0,0⟩:WD)) tag 0 0:=λtag h1 h2 h3=>by
  have:=ConcN.Mode.opn (j:=0) (D:=λ_=>(⟨0,0,0⟩:WD)) h1 (λi hi=>by omega) (λvs e=>absurd e (h3 vs));simpa[Vc,sumTo,h2] using this
 have mk:∀tag f0,ConcN.isOpen tag->pend tag=0->(∀vs,tag≠.w2 vs)->StS P P1 d s (λ_=>0) tag 0 f0 0 (G fr s.base) S0 A0 B->∃μ,cP P P1 d s t B μ (crowd gs B sl) t:=λtag f0 h1 h2 h3 ha=>
  ⟨_,gs,B,sl,0,λ_=>⟨0,0,0⟩,tag,f0,0,_,q,λ_=>0,λ_=>0,λ_=>S0,λ_=>A0,0,0,rfl,⟨by rw[hm];rfl,h0,ha,eld,λi hi=>by omega,hM,cj,bc,b6 tag h1 h2 h3,λe=>by subst e;exact h1.elim,aR _,hh⟩,rfl⟩
 obtain⟨μ,hI⟩:∃μ,cP P P1 d s t B μ (crowd gs B sl) t:=by
  by_cases hn:0<d.n
  .simp only[az hn] at hT
   have e0:d.n-(d.n-1+1)=0:=by omega
   have ha:=StS.p6 (P:=P) (P1:=P1) (s:=s) (d:=d) (r:=d.n-1) (lo:=λ_=>0) (by omega) aj (aD _) (λx h1 h2=>aR _) (by rw[e0];exact hT);rw[e0] at ha;exact mk (.sp (d.n-1) 6) N0 trivial rfl (by simp) ha
  .simp only[ai hn] at hT
   have e0:d.n=0:=by omega
   have ha:=StS.pk (P:=P) (P1:=P1) (s:=s) (d:=d) (lo:=λ_=>0) aj (aD _) (λx h1 h2=>aR _) hT;rw[e0] at ha;exact mk .kd (N0+s.NK+1) trivial rfl (by simp) ha
 obtain⟨N,m',t',hr,h8,B',h9,D,f0,fr',q',own,lo,S',A',st,sm,rfl,h,hI3,c7⟩:=L9 hs hd hc μ _ _ hI;obtain⟨hq,e1,e2⟩:=h.mode.fin_inv trivial;obtain⟨qa,a1,a2,a3,a4⟩:=h.acq rfl;obtain⟨u,hu⟩:=h.trc.pre;refine⟨N,h8,B',h9,t',λi=>if i<d.e0 then q' i else (D (i-d.e0)).fuel,hr,⟨⟨fr',A' 0,S' 0,h.zero,hI3,c7,h.mem.lk 0 (aR _),h.mem.mg 0 (aR _)⟩,λi hi=>?_,⟨λi g hi hg=>?_,h.trc.above⟩,?_,h.mem.pay,h.mem.oK,h.mem.same,h.mem.os,h.mem.output,h.mem.size,⟨_,_,h.wg⟩⟩⟩
 .obtain⟨g,hg,hw⟩:=h.wk i hi;obtain⟨_,hF,hp⟩:=hw.HD (hq i hi);refine⟨A' (i+1),S' (i+1),hF,h.mem.lk (i+1) (by omega),λb k hk=>?_⟩;have hb:=h.mem.mg (i+1) (by omega) b k hk
  grind
 .by_cases bk:i<d.e0
  .simp only[az bk];obtain⟨g',b5,ck⟩:=h.eld i hi bk;rw[hg] at b5;simp_all
  .simp only[ai bk];have aa:=(a8.1 hg).1;rw[h.size] at aa;obtain⟨g',b5,hw⟩:=h.wk (i-d.e0) (by omega);rw[show d.e0+(i-d.e0)=i by omega] at b5;rw[hg] at b5;cases b5;obtain⟨hQ,_⟩:=hw.HD (hq _ (by omega));have:=h.trc.deafW (i-d.e0) (by omega);rw[show d.e0+(i-d.e0)=i by omega] at this;rw[this];exact hQ
 .refine LV hP hu h.trc.tr.nr h.trc.ph h.trc.norel a1 a2 a3 (λg hg=>?_) h.trc.deaf0 h.trc.low;obtain⟨r,h1,h2⟩:=a4 (g-d.e0) (by omega);rw[show d.e0+(g-d.e0)=g by omega] at h1
  grind
end
end Go.Fc
namespace Go.Fc
open Go Go.Conc Go.Fi
open Go.ConcN (sumTo)
theorem E8{P:Program}{gs:Array Goroutine}{a a':Goroutine}{w':World}{t:Trace}{q:Nat->Nat}(hL:Leavers P t gs q)(ag:0<gs.size)(fn:FuncId)(pos:String)(es:Array Event):Leavers P (t++MemOp.ofEvents 0 fn pos es) ((gs.map (woken P a a' w')).setIfInBounds 0 a') q:=
 ⟨λj x hj hx=>by
   rw[tZ (by omega),xz] at hx;obtain⟨y,hy,rfl⟩:=rW.1 hx;have hq:=hL.old j y hj hy;rw[woken_quitsD hq,Deaf_other t (g':=0) (by omega) _ (λop bm=>by obtain⟨e,_,rfl⟩:=Go.Conc.mem_ofEvents bm;rfl)]
   exact hq,
  λj hj=>by
   have c8:gs.size<=j:=by grind
   rw[Deaf_other t (g':=0) (by omega) _ (λop bm=>by obtain⟨e,_,rfl⟩:=Go.Conc.mem_ofEvents bm;rfl)]
   exact hL.above j c8⟩
theorem HF{P:Program}{Shun:Loc->Prop}{gs:Array Goroutine}{a a':Goroutine}{B:World}{sl:Option (Nat×Nat)}{t:Trace}{q:Nat->Nat}{n:Nat}(f:World->World)(h0:gs[0]?=some a)(a5:a.status=.running)(hL:Leavers P t gs q)(hP:Past Shun B.heap.size t)(hn:B.heap.size<=n)(ha:∀w1,AtRel B w1->∃es,stepG P true a w1=.go a' (f w1) es/\∀e∈es,Go.Conc.EvL Shun n e):∃K h8 w1 h9 t' q',runNT P K (crowd gs B sl) t=(.next (crowd h8 (f w1) h9),t')/\AtRel B w1/\h8.size=gs.size/\h8[0]?=some a'/\Leavers P t' h8 q'/\Past Shun n t':=by
 obtain⟨N,h8,w',h9,t',q',d,sl2,hr,hm,ax,bf,bg,hat,aw⟩:=zW (P:=P) (a:=a) a5 _ gs B sl t q (aD _) h0 hL hP;obtain⟨es,hs,c6⟩:=ha (w'.at d) hat;have hrunT:=runT_crowd_go (P:=P) (sl:=sl2) (i:=0) ax (show stepG P (0==0) a (w'.at d)=_ from hs);have ag:0<h8.size:=(a8.1 ax).1;refine⟨N+1,(h8.map (woken P a a' (f (w'.at d)))).setIfInBounds 0 a',w'.at d,sl2,t'++MemOp.ofEvents 0 a.frame.fn a.frame.place es,q',?_,hat,?_,?_,E8 bf ag _ _ es,(bg.mono hn).own c6⟩
 .rw[runNT_add,hr];show runNT P 1 _ _=_;simp only[runNT,aw,hrunT]
 .simp[hm]
 grind
@[reducible] def eU:EnvD where
 E w w':=Bel w.heap.size w w'
 ext h:=h
 xt _ _ _ _:=False
 D _ _:=True
 nil _:=trivial
variable[Xf]
theorem Mr{P P1:Program}{bad:Nat->Prop}(hc:@j3 _ eU P1 P bad){base:List Frame}{Φ:Frame->List Frame->World->Prop}(hb:∀f args cs w,¬Φ (Frame.enter P1 f args .normal) cs w)(hΦ2:∀fr cs w,cs.length<base.length->¬Φ fr cs w)(ha:∀fr cs w w1,Φ fr cs w->Bel w.heap.size w w1->Φ fr cs w1){S:Sh}(bd:∀b i,¬S.part b i):∀(N:Nat)(gs:Array Goroutine)(B:World)(sl:Option (Nat×Nat))(t:Trace)(q:Nat->Nat)(A:World)(fr:Frame)(cs:List Frame),gs[0]?=some (G fr cs)->cz P1 P S base fr cs A B->Leavers P t gs q->Past (mf S) B.heap.size t->@TN eU P1 base.length base.length Φ N fr cs A->∃K h8 B' h9 t' q' fr' cs' A',runNT P K (crowd gs B sl) t=(.next (crowd h8 B' h9),t')/\h8.size=gs.size/\h8[0]?=some (G fr' cs')/\Φ fr' cs' A'/\cz P1 P S base fr' cs' A' B'/\Leavers P t' h8 q'/\Past (mf S) B'.heap.size t':=by
 intro N
 induction N with
 |zero=>intro gs B sl t q A fr cs h0 aj hL hP hT;exact⟨0,gs,B,sl,t,q,fr,cs,A,rfl,rfl,h0,hT,aj,hL,hP⟩
 |succ N ih=>
  intro gs B sl t q A fr cs h0 aj hL hP hT;by_cases hΦ:Φ fr cs A
  .exact⟨0,gs,B,sl,t,q,fr,cs,A,rfl,rfl,h0,hΦ,aj,hL,hP⟩
  obtain⟨K,h8,w',h9,t',q',d,sl2,hr,hm,ax,bf,bg,⟨d2,hat⟩,aw⟩:=zW (P:=P) (a:=G fr cs) rfl _ gs B sl t q (aD _) h0 hL hP
  have bn:cz P1 P S base fr cs A (w'.at d):=by rw[hat];exact⟨aj.pre,aj.ok,aj.lk.drawn d2⟩
  rcases @zX _ eU P1 P bad S base Φ hc true (.inl rfl) (λw es _ e _ a _=>bd _ _) (λf args cs w _=>hb f args cs w) hΦ2 fr cs A (w'.at d) N bn hT with hw|⟨fr',cs',A',B',es,hgo,a6,⟨A2,e1,e2,e3,bz⟩,cm,hk,bj,_,cg⟩
  .trivial
  .have hrunT:=runT_crowd_go (P:=P) (sl:=sl2) (i:=0) ax (show stepG P (0==0) (G fr cs) (w'.at d)=_ from hgo);have ag:0<h8.size:=(a8.1 ax).1
   have hszB:B.heap.size<=B'.heap.size:=by have:=hk.size;rw[hat] at this;exact this
   have hT2:@TN eU P1 base.length base.length Φ N fr' cs' A':=
    @TN.rely eU _ _ _ _ oe ha _ _ _ _ _ bz ⟨e2.symm,e3.symm,by rw[e1];simp,λb _=>by rw[e1]⟩
   obtain⟨K2,gs2,B2,sl3,t2,q2,fr2,cs2,A3,x1,x2,x3,x4,x5,x6,x7⟩:=ih ((h8.map (woken P (G fr cs) (G fr' cs') B')).setIfInBounds 0 (G fr' cs')) B' sl2 (t'++MemOp.ofEvents 0 (G fr cs).frame.fn (G fr cs).frame.place es) q' A' fr' cs' (by simp[ag]) a6 (E8 bf ag _ _ es) ((bg.mono hszB).own λe he=>EK (bj e he)) hT2;refine⟨K+(1+K2),gs2,B2,sl3,t2,q2,fr2,cs2,A3,?_,by rw[x2];simp[hm],x3,x4,x5,x6,x7⟩;rw[runNT_add,hr];show runNT P (1+K2) _ _=_;rw[runNT_add];simp only[runNT,aw,hrunT];exact x1
section
variable{C C0:Cx}{dead:Nat->Prop}{B B' A':World}{K:iK}
structure jF(C0:Cx)(K:iK)(dead:Nat->Prop)(B:World):Prop where
 j1:∀b,dead b->K.n0<=b/\bV B b
 old:∀b o,¬dead b->B.heap[b]?=some o->¬okO C0 o->K.old b o
def shW(dead:Nat->Prop)(B:World):Sh:=⟨dead,λ_ _=>False,λb o=>b<B.heap.size/\B.heap[b]?=some o⟩
omit [Xf] in
theorem Ms(h:∀b,dead b->bV B b):Lk C (shW dead B) (mkA C dead B) B:=vH h λb o _ ho _=>⟨(a8.1 ho).1,ho⟩
omit [Xf] in
theorem E9(h:jF C0 K dead B):Lk C0 ⟨dead,λ_ _=>False,K.old⟩ (mkA C0 dead B) B:=vH (λb hb=>(h.j1 b hb).2) h.old
omit [Xf] in
theorem Fa(b:Nat)(o:Obj):¬okO C (je b o):=by cases o<;>exact id
omit [Xf] in
theorem jF.step(h:jF C0 K dead B)(bb:∀o,okO C o->okO C0 o)(hl:Lk C (shW dead B) A' B'):jF C0 K dead B':=by
 refine⟨λb hb=>⟨(h.j1 b hb).1,?_⟩,λb o hd ho h'=>?_⟩
 .obtain⟨c,e,f,_,h2⟩:=hl.dead b hb;exact⟨c,e,f,h2⟩
 .rcases hl.same b hd with ⟨e,hk⟩|⟨o',h1,_,_,h2⟩|⟨_,_,_,_,_,h1,_⟩
  .simp_all
  .rw[ho] at h1;cases h1;exact h.old b o hd h2.2 h'
  .rw[ho] at h1;cases h1;exact absurd trivial h'
omit [Xf] in
theorem Mt(hl:Lk C (shW dead B) A' B')(hh:∀b,dead b->bV B b)(hb:Bel B.heap.size (mkA C dead B) A'){C2:Cx}:Bel B.heap.size (mkA C2 dead B) (mkA C2 dead B')/\(∀b,b<B.heap.size->¬dead b->B'.heap[b]?=B.heap[b]?):=by
 have key:∀b,b<B.heap.size->¬dead b->B'.heap[b]?=B.heap[b]?:=λb aa hd=>by
  have hA:=hb.block b aa;obtain⟨o,hx⟩:∃o,B.heap[b]?=some o:=⟨_,bS aa⟩
  rcases hl.same b hd with ⟨e,hk⟩|⟨o',h1,_,h3,h4⟩|⟨cA,cB,e,f,h1,h2,h3,h4⟩
  .rw[<-e,hA];by_cases au:okO C o
   .rw[lR hd hx au,hx]
   .rw[n9 hd hx au] at hA;exact absurd (hk _ hA) (Fa b o)
  .rw[h1,h4.2]
  .have hc:cA=cB:=Cp (ug λi=>by simpa using h4 i (λx=>x));subst hc;rw[h2,<-h1,hA];by_cases au:okO C o
   .rw[lR hd hx au,hx]
   .rw[n9 hd hx au,h1] at hA;have:=Fa (C:=C) b o;rw[<-eJ hA] at this;exact absurd trivial this
 have hszA:(mkA C dead B).heap.size=B.heap.size:=df
 have hm:B.heap.size<=B'.heap.size:=by rw[<-hl.size,<-hszA];exact hb.size
 refine⟨⟨?_,?_,?_,λb aa=>?_⟩,key⟩
 .show B'.os=B.os;rw[<-hl.os];exact hb.os
 .show B'.output=B.output;rw[<-hl.output];exact hb.output
 .rw[df,df];exact hm
 .by_cases hd:dead b
  .obtain⟨c,e,f,hc⟩:=hh b hd;obtain⟨c',e',f',h1,h2⟩:=hl.dead b hd;have hA:=hb.block b aa;rw[mW hd,hc] at hA;rw[h1] at hA;rw[mW hd,mW hd,hc,h2];trivial
  .simp only[mkA,rY,key b aa hd]
end
def gU(P:Program)(m:Machine)(t:Trace)(m':Machine)(t':Trace):Prop:=∃N,runNT P N m t=(.next m',t')
theorem gU.trans{P:Program}{m m1 m2:Machine}{t t1 t2:Trace}(h:gU P m t m1 t1)(k:gU P m1 t1 m2 t2):gU P m t m2 t2:=by
 obtain⟨N,h⟩:=h;obtain⟨M,k⟩:=k;exact⟨N+M,by rw[runNT_add,h];exact k⟩
theorem gU.refl{P:Program}{m:Machine}{t:Trace}:gU P m t m t:=⟨0,rfl⟩
def tJ(dead:Nat->Prop):Loc->Prop:=λl=>∃a,l=.cell a/\dead a.block
theorem ME{S S':Loc->Prop}{B:Nat}{t:Trace}(h:Past S B t)(hs:∀l,S l->S' l):Past S' B t:=
 ⟨h.clean,λi a h1 h2=>(h.known i a h1 h2).imp id λx=>⟨hs _ x.1,x.2⟩,h.over,h.hears,h.seen⟩
section
variable{C C':Cx}{S:Sh}{dead:Nat->Prop}{A B:World}
theorem Lk.unique(h:Lk C S A B)(hp:∀b i,¬S.part b i)(b:Nat):A.heap[b]?=(mkA C S.dead B).heap[b]?:=by
 by_cases hd:S.dead b
 .obtain⟨c,e,f,h1,h2⟩:=h.dead b hd;rw[mW hd,h1,h2];rfl
 .rcases h.same b hd with ⟨e,hk⟩|⟨o,h1,h2,h3,_⟩|⟨cA,cB,e,f,h1,h2,_,h4⟩
  .rcases hx:B.heap[b]? with _|o
   .rw[e,hx,sE hx]
   .rw[e,hx,lR hd hx (hk o (e.trans hx))]
  .rw[h3,n9 hd h1 h2]
  .have:cA=cB:=Cp (ug λi=>by simp_all);subst this;rw[h1,pt hd h2]
theorem Fu{b:Nat}{c:Array Value}{e:TypeId}{f:Nat×Nat}(h:(mkA C dead B).heap[b]?=some (.cells c e f)):(mkA C' dead B).heap[b]?=some (.cells c e f):=by
 by_cases hd:dead b
 .rw[mW hd] at h ⊢;exact h
 .rcases hx:B.heap[b]? with _|o
  .rw[sE hx] at h;cases h
  .by_cases ho:okO C o
   .rw[lR hd hx ho] at h;obtain rfl:=eJ h;exact pt hd hx
   .rw[n9 hd hx ho] at h
    cases o<;>cases h
theorem sH{b:Nat}{c:Array Value}{e:TypeId}{f:Nat×Nat}(h:(mkA C dead B).heap[b]?=some (.cells c e f))(hd:¬dead b):B.heap[b]?=some (.cells c e f):=by
 rcases hx:B.heap[b]? with _|o
 .rw[sE hx] at h;cases h
 .by_cases ho:okO C o
  .rw[lR hd hx ho] at h;exact h
  .rw[n9 hd hx ho] at h
   cases o<;>cases h
theorem Fv{b:Nat}{c:Array Value}{e:TypeId}{f:Nat×Nat}(h:(mkA C dead B).heap[b]?=some (.cells c e f))(hc:0<c.size):¬dead b:=λhd=>by
 rw[mW hd] at h
 rcases hx:B.heap[b]? with _|o
 .rw[hx] at h;cases h
 .rw[hx] at h
  cases o<;>simp[ra] at h
  rw[h.1] at hc;simp at hc
theorem MF{a:Addr}{v:Value}(h:A.cell? a=some v):∃c e f,A.heap[a.block]?=some (.cells c e f)/\0<c.size:=by
 unfold World.cell? at h
 grind
theorem Fw{a:Addr}(h:A.heap[a.block]?=B.heap[a.block]?):A.cell? a=B.cell? a:=by
 unfold World.cell?;rw[h]
theorem MG{a:Addr}{v:Value}(h:(mkA C dead B).cell? a=some v):¬dead a.block/\B.cell? a=some v:=by
 obtain⟨c,e,f,h1,h2⟩:=MF h;have hd:=Fv h1 h2;exact⟨hd,by rw[Fw ((sH h1 hd).trans h1.symm)];exact h⟩
theorem Bel.congr{n:Nat}{A A' W W':World}(h:Bel n A A')(e1:∀b:Nat,A.heap[b]?=W.heap[b]?)(e2:∀b:Nat,A'.heap[b]?=W'.heap[b]?)(o1:A.os=W.os)(o2:A'.os=W'.os)(p1:A.output=W.output)(p2:A'.output=W'.output):Bel n W W':=by
 have s1:A.heap=W.heap:=Is e1;have s2:A'.heap=W'.heap:=Is e2;exact⟨by rw[<-o1,<-o2];exact h.os,by rw[<-p1,<-p2];exact h.output,by rw[<-s1,<-s2];exact h.size,λk hk=>by rw[<-e1,<-e2];exact h.block k hk⟩
end
structure Stg(C0:Cx)(P:Program)(K:iK)(dead:Nat->Prop)(gs:Array Goroutine)(B:World)(t:Trace)(q:Nat->Nat)(fr:Frame)(cs:List Frame):Prop where
 zero:gs[0]?=some (G fr cs)
 lq:jF C0 K dead B
 left:Leavers P t gs q
 nu:Past (tJ dead) B.heap.size t
 n0:K.n0<=B.heap.size
section
variable{P P1 P0:Program}{C0:Cx}{K:iK}{dead:Nat->Prop}{gs:Array Goroutine}{B:World}{sl:Option (Nat×Nat)}{t:Trace}{q:Nat->Nat}{fr fr':Frame}{cs cs':List Frame}{bad:Nat->Prop}
theorem jF.HN{S:Sh}{A:World}(h:Lk C0 S A B)(hp:∀b i,¬S.part b i)(hd:∀b,S.dead b->K.n0<=b)(ho:S.old=K.old):jF C0 K S.dead B:=by
 refine⟨λb hb=>⟨hd b hb,?_⟩,λb o ba hx h'=>?_⟩
 .obtain⟨c,e,f,_,h2⟩:=h.dead b hb;exact⟨c,e,f,h2⟩
 .rcases h.same b ba with ⟨e,hk⟩|⟨o',h1,_,_,h2⟩|⟨_,_,_,_,_,h1,_⟩
  .simp_all
  .rw[hx] at h1;simp_all
  .rw[hx] at h1;cases h1;exact absurd trivial h'
theorem vP(h:Stg C0 P K dead gs B t q fr cs)(ha:∀w,stepG P true (G fr cs) w=.go (G fr' cs') w #[]\/stepG P true (G fr cs) w=.go (G fr' cs') w #[]):∃h8 d h9 t' q',gU P (crowd gs B sl) t (crowd h8 (B.at d) h9) t'/\h8.size=gs.size/\Stg C0 P K dead h8 (B.at d) t' q' fr' cs':=by
 obtain⟨k,h8,w1,h9,t',q',hr,⟨d,rfl⟩,hm,h0,hL,hP⟩:=HF (P:=P) (a:=G fr cs) (a':=G fr' cs') (B:=B) (sl:=sl) (n:=B.heap.size) id h.zero rfl h.left h.nu (aD _) λw1 _=>⟨#[],by rcases ha w1 with e|e<;>exact e,by simp⟩
 exact⟨h8,d,h9,t',q',⟨k,hr⟩,hm,h0,⟨h.lq.j1,h.lq.old⟩,hL,hP,h.n0⟩
theorem MH(h:Stg C0 P K dead gs B t q fr cs){c:Array Value}{e:TypeId}(ha:∀w,AtRel B w->stepG P true (G fr cs) w=.go (G fr' cs') (w.alloc (.cells c e)) #[]):∃h8 B' h9 t' q',gU P (crowd gs B sl) t (crowd h8 B' h9) t'/\h8.size=gs.size/\h8[0]?=some (G fr' cs')/\jF C0 K dead B'/\Leavers P t' h8 q'/\Past (tJ dead) B.heap.size t'/\B'.heap=B.heap.push (.cells c e)/\B'.os=B.os/\B'.output=B.output:=by
 obtain⟨k,h8,w1,h9,t',q',hr,⟨d,rfl⟩,hm,h0,hL,hP⟩:=HF (P:=P) (a:=G fr cs) (a':=G fr' cs') (B:=B) (sl:=sl) (n:=B.heap.size) (λw=>w.alloc (.cells c e)) h.zero rfl h.left h.nu (aD _) λw1 hw=>⟨#[],ha w1 hw,by simp⟩
 refine⟨h8,_,h9,t',q',⟨k,hr⟩,hm,h0,⟨λb hb=>?_,λb o hd ho h'=>?_⟩,hL,hP,rfl,rfl,rfl⟩
 .obtain⟨h1,c',e',f',h2⟩:=h.lq.j1 b hb;have aa:=(a8.1 h2).1
  exact⟨h1,c',e',f',by
   show (B.heap.push _)[b]?=_
   rw[ua aa];simp_all⟩
 .change (B.heap.push _)[b]?=_ at ho
  rw[oY] at ho;split at ho
  .cases ho;exact absurd trivial h'
  .exact h.lq.old b o hd ho h'
theorem vQ[XF:Xf](hc:@j3 _ eU P1 P bad)(bb:∀o,okO (Cc P1 P) o->okO C0 o)(h:Stg C0 P K dead gs B t q fr cs)(aq:bI P1 P fr){Φ:Frame->List Frame->World->Prop}{N:Nat}(hT:@TN eU P1 cs.length cs.length Φ N fr cs (mkA (Cc P1 P) dead B))(hΦ:∀fr' cs' w,Φ fr' cs' w->cs'=cs/\Bel (mkA (Cc P1 P) dead B).heap.size (mkA (Cc P1 P) dead B) w)(hb:∀f args cs w,¬Φ (Frame.enter P1 f args .normal) cs w)(ha:∀fr cs w w1,Φ fr cs w->Bel w.heap.size w w1->Φ fr cs w1):∃h8 B' h9 t' q' fr' A',gU P (crowd gs B sl) t (crowd h8 B' h9) t'/\h8.size=gs.size/\Stg C0 P K dead h8 B' t' q' fr' cs/\Φ fr' cs A'/\bI P1 P fr'/\(∀b:Nat,A'.heap[b]?=(mkA (Cc P1 P) dead B').heap[b]?)/\Bel B.heap.size (mkA C0 dead B) (mkA C0 dead B'):=by
 have hh:∀b,dead b->bV B b:=λb hb=>(h.lq.j1 b hb).2
 have aj:cz P1 P (shW dead B) cs fr cs (mkA (Cc P1 P) dead B) B:=⟨⟨[],rfl,by simp,by simp⟩,aq,Ms hh⟩;obtain⟨k,h8,B',h9,t',q',fr',cs',A',hr,hm,h0,b',a6,hL,hP⟩:=Mr hc hb (λfr cs' w aa bv=>by have:=(hΦ _ _ _ bv).1;simp_all) ha (S:=shW dead B) (λb i h=>h) N gs B sl t q _ fr cs h.zero aj h.left h.nu hT;obtain⟨rfl,ay⟩:=hΦ _ _ _ b';rw[df] at ay;have hB:=(Mt (C2:=C0) a6.lk hh ay).1
 have hszX:B.heap.size<=B'.heap.size:=by have:=hB.size;rw[df,df] at this;exact this
 exact⟨h8,B',h9,t',q',fr',A',⟨k,hr⟩,hm,⟨h0,h.lq.step bb a6.lk,hL,hP,b7 h.n0 hszX⟩,b',a6.ok,a6.lk.unique (λb i h=>h),hB⟩
theorem MJ[XF:Xf][EV:EnvD](hp:pR P0 P bad)(ny:qY P0 P K)(bi:∀f,¬Xf.bot f){f:FuncId}{args:Array Value}(ho:Frame.enter P f args .normal=Frame.enter P0 f args .normal)(au:bI P0 P (Frame.enter P0 f args .normal)){cl:Frame}(c2:gL cl)(h:Stg (Cc P0 P) P K dead gs B t q (Frame.enter P f args .normal) (cl::cs)){R:Ending->World->Prop}(hT:jw P0 f args (mkA (Cc P0 P) dead B) R)(bu:∀f args v,bad f->Frame.enter P0 f args .normal≠cl.finish v):∃h8 B' h9 t' q' ao A' v,gU P (crowd gs B sl) t (crowd h8 B' h9) t'/\Stg (Cc P0 P) P K ao h8 B' t' q' (cl.finish v) cs/\R (.returned v) A'/\(∀b:Nat,A'.heap[b]?=(mkA (Cc P0 P) ao B').heap[b]?)/\A'.os=B'.os/\A'.output=B'.output:=by
 have bo:Sit P0 P K ⟨dead,λ_ _=>False,K.old⟩ (cl::cs) (Frame.enter P0 f args .normal) (cl::cs) (mkA (Cc P0 P) dead B) gs B t q:=
  ⟨⟨_,h.zero,.inl ⟨[],rfl,by simp,.inl ⟨ho,au⟩⟩⟩,E9 h.lq,λb i h=>h,λb hb=>(h.lq.j1 b hb).1,rfl,h.left,h.nu,h.n0⟩
 obtain⟨k,h8,B',h9,t',q',S',fr',cs',A',hr,bh,c3,v,hR,aq⟩:=EL hp ny bi (base:=cl::cs) (λf args cs w hb bv=>by
  simp_all) (hT cl cs c2) _ gs B sl t q bo
 subst c3;subst aq;obtain⟨⟨fr2,h0,bp⟩,ar,bd,c5,cf,hold,b9,c9⟩:=bh
 rcases bp with ⟨pre,e,_⟩|⟨e,_⟩
 .have:=congrArg List.length e
  grind
 .subst e;exact⟨h8,B',h9,t',q',S'.dead,A',v,⟨k,hr⟩,⟨h0,jF.HN ar bd c5 cf,hold,b9,c9⟩,hR,ar.unique bd,ar.os,ar.output⟩
end
section
variable[PL:ConcR.Payload][XF:Xf]{P P1:Program}{d:PhD}{s:Script}{bad:Nat->Prop}{C0:Cx}{K:iK}
open Go.ConcN (PayAt)
open Go.ConcR (WgAt wgBlock)
theorem MK(hs:fg P P1 d s)(hd:eo d)(hc:∀l k,@j3 _ (aV l d.F k) P1 P bad)(bb:∀o,okO (Cc P1 P) o->okO C0 o){gs:Array Goroutine}{B:World}{sl:Option (Nat×Nat)}{t:Trace}{q:Nat->Nat}{Bsz:Nat}{fr:Frame}(hm:gs.size=d.e0)(h0:gs[0]?=some (G fr s.base))(hr:jF C0 K d.dead B)(hL:Leavers P t gs q)(hP:Past (tJ d.dead) Bsz t)(hB:Bsz<=d.Wg)(bl:d.lo0=B.heap.size)(bc:WgAt d.ty d.Wg B 0 0)(av:PayAt d.F d.n B)(af:∀i,i<d.n->B.cell? ⟨d.F,i,none⟩=some d.v0)(aq:bI P1 P fr)(hK:K.n0<=d.Wg)(hT:∃N,@TN (aV d.lo0 d.F d.n) P1 s.base.length s.base.length (λfr' cs' A'=>cs'=s.base/\if 0<d.n then s.I1 0 fr' A' else s.I3 fr' A') N fr s.base (mkA (Cc P1 P) (λb=>d.dead b\/b=d.Wg) B)):∃h8 B' h9 t' q' fr' A0,gU P (crowd gs B sl) t (crowd h8 B' h9) t'/\Stg C0 P K (λb=>d.dead b\/b=d.Wg) h8 B' t' q' (fr'.finish (.tuple #[])) s.base/\s.I3 fr' A0/\bI P1 P fr'/\(∀i,i<d.n->∃Ai Si,s.Fin i Ai/\Lk (Cc P1 P) Si Ai B'/\(∀b k,Si.part b k->b=d.F/\k≠i))/\(∀b,b<d.lo0->b≠d.F->b≠d.Wg->B'.heap[b]?=B.heap[b]?)/\B'.os=B.os/\B'.output=B.output/\d.lo0<=B'.heap.size/\PayAt d.F d.n B':=by
 obtain⟨N,h8,B',h9,t',q',a5,h⟩:=Mq (S:=⟨d.dead,λ_ _=>False,λ_ _=>False⟩) hs hd hc hm h0 hL hP hB bl rfl (λb hb=>(hr.j1 b hb).2) bc av af aq hT;obtain⟨fr',A0,S0,z1,z2,z3,z4,z5⟩:=h.zero;refine⟨h8,B',h9,t',q',fr',A0,⟨N,a5⟩,⟨z1,⟨λb hb=>?_,λb o ba ho h'=>?_⟩,h.left,ME h.nu λl hl=>?_,b7 hK (Nat.le_of_lt (kh hd.wg h.size))⟩,z2,z3,h.Q8,h.same,h.os,h.output,h.size,h.pay⟩
 .rcases hb with hb|rfl
  .obtain⟨x1,c,e,f,x2⟩:=hr.j1 b hb;obtain⟨y1,y2,y3⟩:=hd.dead b hb;exact⟨x1,c,e,f,(h.same b y1 y2 y3).trans x2⟩
  .obtain⟨st,sm,hg⟩:=h.grp;exact⟨hK,_,_,_,hg⟩
 .by_cases aa:b<d.lo0
  .by_cases hF:b=d.F
   .subst hF;obtain⟨cF,hF,_⟩:=h.pay;rw[hF] at ho;cases ho;exact absurd trivial h'
   .have hW:b≠d.Wg:=λe=>ba (.inr e)
    rw[h.same b aa hF hW] at ho;exact hr.old b o (λx=>ba (.inl x)) ho h'
  .exact absurd (bb o (h.oK b o (by omega) ho)) h'
 .rcases hl with ⟨a,e1,e2⟩|⟨a,e1,e2⟩
  .exact⟨a,e1,.inl e2⟩
  .exact⟨a,e1,.inr e2⟩
end
end Go.Fc
