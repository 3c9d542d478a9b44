/- Lemmas. -/
import Derived.Test.YthpkmilhiganjaaGreatPMc
import Derived.Conc.CrowdRun
import Derived.Test.YthpkmilhiganjaaGreatPMe
import Derived.Conc.CrowdStepC2
set_option linter.all false
set_option maxHeartbeats 32000000
set_option maxRecDepth 100000
namespace Go.Fc
open Go Go.Conc
open Go.ConcN (PermW fork_knows RelBy)
structure Rts where
 W:Nat->Loc->Prop
 R:Nat->Loc->Prop
structure Rts.Apart(r:Rts)(Sh:Loc->Prop):Prop where
 one:∀g g' l,r.W g l->g'≠g->¬r.W g' l/\¬r.R g' l
 shW:∀g l,r.W g l->¬Sh l
 shR:∀g l,r.R g l->¬Sh l
structure TrI(Sh:Loc->Prop)(r:Rts)(t:Trace):Prop where
 quiet:Quiet Sh t
 w:∀g l,r.W g l->Perm t g l
 r:∀g l,r.R g l->PermW t g l
 nr:∀said,¬Race said t
def OkR(Sh:Loc->Prop)(r:Rts)(g:Nat)(op:MemOp):Prop:=
 op.g=g/\∀x,op.act.touch?=some x->(Sh x.loc/\x.kind≠.plain/\(x.kind=.said->g=0))\/r.W g x.loc\/(r.R g x.loc/\x.write=false)
section
variable{Sh:Loc->Prop}{r r':Rts}{t u:Trace}{g:Nat}
theorem TrI.app(A:r.Apart Sh)(h:TrI Sh r t)(hu:∀op∈u,OkR Sh r g op):TrI Sh r (t++u):=by
 refine⟨h.quiet.app λop h8 x hx hs=>?_,λg' l hl=>(h.w g' l hl).app λop h8 b hb e=>?_,λg' l hl=>(h.r g' l hl).app λop h8 b hb e hw=>?_,λsaid=>?_⟩
 .rcases (hu op h8).2 x hx with ⟨_,hk,hn⟩|hw|⟨hr,_⟩
  .exact⟨hk,λe=>(hu op h8).1.trans (hn e)⟩
  .exact absurd hs (A.shW _ _ hw)
  .exact absurd hs (A.shR _ _ hr)
 .rw[(hu op h8).1];by_cases hg:g=g'
  .exact hg
  rcases (hu op h8).2 b hb with ⟨hs,_⟩|hw|⟨hr,_⟩
  .exact absurd (e▸hs) (A.shW _ _ hl)
  .exact absurd (e▸hw) (A.one g' g l hl hg).1
  .exact absurd (e▸hr) (A.one g' g l hl hg).2
 .rw[(hu op h8).1];by_cases hg:g'=g
  .exact hg.symm
  rcases (hu op h8).2 b hb with ⟨hs,_⟩|bp|⟨_,hr⟩
  .exact absurd (e▸hs) (A.shR _ _ hl)
  .exact absurd hl (A.one g g' l (e▸bp) hg).2
  simp_all
 .refine noRace_append (h.nr said) (λop h8=>(hu op h8).1) (λi a ha op h8 b hb hc=>?_)
  rcases (hu op h8).2 b hb with ⟨hs,hk,hn⟩|hw|⟨hr,d4⟩
  .exact h.quiet.known hs hk hn i a ha hc
  .exact h.w g b.loc hw i a ha hc.1
  .exact h.r g b.loc hr i a ha hc.1 (hc.2.2.1.resolve_right (by simp[d4]))
def xT(t:Trace)(l:Loc):Prop:=∀i a,touchAt t i=some a->a.loc≠l
theorem TrI.eu(h:TrI Sh r t)(hW:∀g l,r'.W g l->r.W g l\/xT t l)(hR:∀g l,r'.R g l->r.R g l\/r.W g l\/xT t l):TrI Sh r' t:=by
 refine⟨h.quiet,λg l hl=>?_,λg l hl=>?_,h.nr⟩
 .rcases hW g l hl with h1|h1
  .exact h.w g l h1
  .exactλi a ha e=>absurd e (h1 i a ha)
 .rcases hR g l hl with h1|h1|h1
  .exact h.r g l h1
  .exact .of (h.w g l h1)
  .exactλi a ha e=>absurd e (h1 i a ha)
theorem TrI.fork{k:Nat}(h:TrI Sh r t){x y:MemOp}(hx:x.g=0/\x.act=.go k)(hy:y.g=k/\y.act=.start)(h0:Deaf t 0=0)(hk:Deaf t k=0)(hW:∀g l,r'.W g l->(g≠k/\r.W g l)\/(g=k/\r.W 0 l))(hR:∀g l,r'.R g l->(g≠k/\(r.R g l\/r.W g l))\/(g=k/\(r.R 0 l\/r.W 0 l))):TrI Sh r' (t++#[x,y]):=by
 have aq:∀op∈#[x,y],∀b,op.act.touch?=some b->False:=by
  intro op h8 b hb;simp only[List.mem_toArray,dM,m9,or_false] at h8
  rcases h8 with rfl|rfl
  .rw[hx.2] at hb;cases hb
  .rw[hy.2] at hb;cases hb
 have old:∀{i:Nat}{a:Touch},touchAt (t++#[x,y]) i=some a->touchAt t i=some a:=by
  intro i a ha;obtain⟨z,hz,dv⟩:=touch_of ha
  rcases getElem?_append_cases hz with ⟨_,dt⟩|⟨_,e8⟩
  .rw[touchAt_of dt];exact dv
  grind
 refine⟨h.quiet.app λop h8 b hb _=>(aq op h8 b hb).elim,λg l hl=>?_,λg l hl=>?_,λsaid=>?_⟩
 .rcases hW g l hl with ⟨_,h1⟩|⟨rfl,h1⟩
  .exact (h.w g l h1).app λop h8 b hb _=>(aq op h8 b hb).elim
  .exactλi a ha e=>fork_knows hx hy h0 hk (h.w 0 l h1 i a (old ha) e)
 .rcases hR g l hl with ⟨_,h1⟩|⟨rfl,h1⟩
  .exact (h1.elim (h.r g l) λh1=>.of (h.w g l h1)).app λop h8 b hb _ _=>(aq op h8 b hb).elim
  .exactλi a ha e hw=>fork_knows hx hy h0 hk ((h1.elim (h.r 0 l) λh1=>.of (h.w 0 l h1)) i a (old ha) e hw)
 .have e:t++#[x,y]=(t++#[x])++#[y]:=by rfl
  rw[e];refine noRace_append (g:=k) (noRace_append (g:=0) (h.nr said) (λop h8=>al) (λi a _ op h8 b hb _=>(aq op al b hb).elim))
   (λop h8=>al) (λi a _ op h8 b hb _=>(aq op al b hb).elim)
end
theorem Gh{B:Nat}{m:MemAct}(h:m.low B){x:Touch}(hx:m.touch?=some x):x.loc.low B:=by
 cases m with
 |access e=>simp only[MemAct.touch?,db] at hx;subst hx;exact h
 |mark k=>cases k<;>simp only[MemAct.touch?,db,reduceCtorEq] at hx<;>subst hx<;>exact h
 |_=>simp[MemAct.touch?] at hx
theorem Nz{B:Nat}{t:Trace}(h:∀op∈t,op.act.low B){a:Addr}(ha:B<=a.block):xT t (.cell a):=by
 intro i x hx e;obtain⟨op,ho,dk⟩:=touch_of hx;have:=Gh (h op (DQ ho)) dk;rw[e] at this;exact absurd this (by show ¬a.block<B;omega)
def ID(Wk:Nat->Prop)(Wg:Nat)(op:MemOp):Prop:=op.g=0\/op.act.touch?=none\/(Wk op.g/\∀x,op.act.touch?=some x->x.kind=.atomic->∃a,x.loc=.cell a/\a.block=Wg)
def PhT(Wk:Nat->Prop)(Wg n0:Nat)(t:Trace):Prop:=∀i op,n0<=i->t[i]?=some op->ID Wk Wg op
theorem PhT.app{Wk c7:Nat->Prop}{Wg n0:Nat}{t u:Trace}(h:PhT Wk Wg n0 t)(hw:∀g,Wk g->c7 g)(hu:∀op∈u,ID c7 Wg op):PhT c7 Wg n0 (t++u):=by
 intro i op hi ho
 rcases getElem?_append_cases ho with ⟨_,df⟩|⟨_,e6⟩
 .exact (h i op hi df).imp id λx=>x.imp id λx=>⟨hw _ x.1,x.2⟩
 simp_all
theorem NA{Shun:Loc->Prop}{B0 B Wg q:Nat}{t0 t u:Trace}{Wk:Nat->Prop}(hP:Past Shun B0 t0)(ht:t=t0++u)(nr:∀said,¬Race said t)(cu:PhT Wk Wg t0.size t)(hn:NoRelease (ConcR.stA Wg) t)(hq:t.act? q=some (.mark (.acquire (ConcR.stA Wg))))(hg:t.g? q=some 0)(hh:t.heard q)(b6:∀g,Wk g->∃r,RelBy (ConcR.stA Wg) t g r/\r<q)(hd:Deaf t 0=0)(hl:∀op∈t,op.act.low B):Past (λl=>Shun l\/∃a,l=.cell a/\a.block=Wg) B t:=by
 obtain⟨z,hz,dw⟩:=tD.1 hg
 have edge:∀g r,RelBy (ConcR.stA Wg) t g r->r<q->HappensBefore t r q:=λg r hr bc=>.single (.inr ⟨.marked bc (.inr hr.act) hq (λk _ _=>hn k),hr.heard,hh⟩)
 have before:∀i g r,t.g? i=some g->RelBy (ConcR.stA Wg) t g r->r<q->i<=r->HappensBefore t i q:=λi g r b9 hr bc hle=>by
  rcases fo i r with h'|a6
  .exact .trans (.single (.inl ⟨h',g,b9,hr.g⟩)) (edge g r hr bc)
  grind
 refine⟨nr,λi a ha hm=>?_,λi g b9 ag hc=>?_,hd,hl⟩
 .obtain⟨x,hx,cx⟩:=touch_of ha
  rcases fo i t0.size with h'|a6
  .have d3:touchAt t0 i=some a:=by rw[ht,touchAt_old h'] at ha;exact ha
   exact (hP.known i a d3 hm).imp (λh=>ht▸h.app u) λh=>⟨.inl h.1,h.2⟩
  .rcases cu i x a6 hx with e|e|⟨hw,hat⟩
   .have:=knows_own hx;rw[e] at this
    grind
   .rw[e] at cx;cases cx
   .obtain⟨r,hr,bc⟩:=b6 _ hw
    have b9:t.g? i=some x.g:=by simp[Trace.g?,hx]
    rcases fo r i with h'|hle
    .have cf:=hr.after i h' b9
     have hk:a.kind=.atomic:=by
      by_cases hk:a.kind=.atomic
      .exact hk
      .exact absurd ⟨a,ha,hm,.inl hk⟩ cf
     simp_all
    .exact .inl ⟨q,z,hz,dw,.inr (before i _ r b9 hr bc hle)⟩
 .rcases fo i t0.size with h'|a6
  .obtain⟨j,hj,hb⟩:=hP.over i g (by rw[ht] at b9;simpa[Trace.g?,getElem?_append_old h'] using b9) ag ((counts_old (u:=u) h').1 (ht▸hc))
   have da:j<t0.size:=by
    unfold Trace.g? at hj
    grind
   exact⟨j,by rw[ht];simpa[Trace.g?,getElem?_append_old da] using hj,ht▸hb_app u hb⟩
  .obtain⟨op,ho,di⟩:=tD.1 b9
   rcases cu i op a6 ho with e|e|⟨hw,_⟩
   .omega
   .obtain⟨a,ha,_⟩:=hc;have cp:touchAt t i=some a:=ha;rw[touchAt_of ho,e] at cp;cases cp
   .rw[di] at hw;obtain⟨r,hr,bc⟩:=b6 _ hw
    have hle:i<=r:=Nat.le_of_not_lt λh'=>hr.after i h' b9 hc
    grind
end Go.Fc
namespace Go.Fc
open Go Go.Conc Go.Fi
def isCells:Obj->Prop
 |.cells ..=>True
 |_=>False
def sK:Obj->Obj
 |.cells _ e f=>.cells #[] e f
 |o=>o
def dK(B:World)(b:Nat):Prop:=∃c e f,B.heap[b]?=some (.cells c e f)
def Sh.grown(S:Sh)(B B':World):Sh:=⟨λb=>S.dead b\/(B.heap.size<=b/\dK B' b),S.part,S.old⟩
def mP(A B':World):World:={ A with heap:=A.heap++(B'.heap.extract A.heap.size B'.heap.size).map sK }
section
variable{C:Cx}{S:Sh}{A B B':World}{es:Array Event}
theorem Gi(h:A.heap.size<=B'.heap.size):(mP A B').heap.size=B'.heap.size:=by
 simp[mP];omega
theorem Bl{b:Nat}(hb:b<A.heap.size):(mP A B').heap[b]?=A.heap[b]?:=by
 simp[mP,yG,hb]
theorem Gj{b:Nat}(hb:A.heap.size<=b):(mP A B').heap[b]?=(B'.heap[b]?).map sK:=by
 simp only[mP];rw[T0 hb,vm,Array.getElem?_extract]
 grind
theorem rV:Bel A.heap.size A (mP A B'):=⟨rfl,rfl,by simp[mP],λk hk=>Bl hk⟩
theorem Lk.other(h:Lk C S A B)(k:Kept es B B')(hw:∀e∈es,e.write=true->∃a,e.loc=.cell a/\(dK B a.block->S.dead a.block\/S.part a.block a.off))(hn:∀b o,B.heap.size<=b->B'.heap[b]?=some o->okO C o):Lk C (S.grown B B') (mP A B') B':=by
 have hs:A.heap.size<=B'.heap.size:=by rw[h.size];exact k.size
 refine⟨Gi hs,λb hb=>?_,λb hb=>?_,λb hb=>?_,by show A.os=_;rw[k.os];exact h.os,by show A.output=_;rw[k.output];exact h.output⟩
 .rw[Gi hs]
  rcases hb with hb|⟨_,c,e,f,hc⟩
  .have:=h.low b hb;omega
  grind
 .have hd:¬S.dead b:=λx=>hb (.inl x)
  rcases fo b A.heap.size with h'|a6
  .rw[Bl h']
   have hltB:b<B.heap.size:=by rw[<-h.size];exact h'
   by_cases hc:dK B b
   .obtain⟨c,e,f,hc⟩:=hc;obtain⟨c',h1,h2,h3⟩:=k.cell b c e f hc
    have co:∀i,¬S.part b i->c'[i]?=c[i]?:=λi hi=>h3 i λev d7 a5 a ha bt cg=>by
     obtain⟨a',b7,hq⟩:=hw ev d7 a5;rw[ha] at b7;cases b7;rw[bt] at hq
     rcases hq ⟨c,e,f,hc⟩ with hq|hq
     .exact hd hq
     simp_all
    refine .inr (.inr ?_)
    rcases h.same b hd with ⟨e1,_⟩|⟨o,h4,h5,_⟩|⟨cA,cB,e',f',h4,h5,h6,h7⟩
    .exact⟨c,c',e,f,e1.trans hc,h1,h2.symm,λi hi=>(co i hi).symm⟩
    .rw[hc] at h4;cases h4;exact absurd trivial h5
    .rw[hc] at h5;cases h5;exact⟨cA,c',e,f,h4,h1,h6.trans h2.symm,λi hi=>(h7 i hi).trans (co i hi).symm⟩
   .have hB:B'.heap[b]?=B.heap[b]?:=by
     refine k.obj b hltB (.inl λc ty fr hx=>hc ⟨c,ty,fr,hx⟩) (λe he a5 ho=>?_)
     grind
    rw[hB];exact h.same b hd
  .rw[Gj a6]
   rcases hx:B'.heap[b]? with _|o
   .simp
   .have cf:¬isCells o:=λc4=>by
     cases o<;>first|exact c4.elim|skip
     exact hb (.inr ⟨by rw[<-h.size];exact a6,_,_,_,hx⟩)
    have ho:=hn b o (by rw[<-h.size];exact a6) hx
    have he:sK o=o:=by cases o<;>first|rfl|exact absurd trivial cf
    simp_all
 .rcases hb with hb|⟨a6,c,e,f,hc⟩
  .obtain⟨c,e,f,h1,h2⟩:=h.dead b hb;obtain⟨c',h3,_⟩:=k.cell b c e f h2;exact⟨c',e,f,by rw[Bl (h.low b hb)];exact h1,h3⟩
  .exact⟨c,e,f,by rw[Gj (by rw[h.size];exact a6),hc];rfl,hc⟩
theorem Lk.drawn(h:Lk C S A B)(d:Nat):Lk C S A (B.at d):=⟨h.size,h.low,h.same,h.dead,h.os,h.output⟩
theorem Lk.fresh(h:Lk C S A B){part:Nat->Nat->Prop}(hp:∀b i,S.part b i->¬part b i->∀cA cB e f,A.heap[b]?=some (.cells cA e f)->B.heap[b]?=some (.cells cB e f)->cA[i]?=cB[i]?):Lk C ⟨S.dead,part,S.old⟩ A B:=by
 refine⟨h.size,h.low,λb hb=>?_,h.dead,h.os,h.output⟩
 rcases h.same b hb with x|x|⟨cA,cB,e,f,h1,h2,h3,h4⟩
 .exact .inl x
 .exact .inr (.inl x)
 .refine .inr (.inr ⟨cA,cB,e,f,h1,h2,h3,λi hi=>?_⟩);by_cases hq:S.part b i
  .exact hp b i hq hi cA cB e f h1 h2
  .exact h4 i hq
theorem Lk.IE(h:Lk C S A B){a:Addr}{v:Value}(hc:A.cell? a=some v)(hp:¬S.part a.block a.off):B.cell? a=some v:=(h.cell hc hp).2.2
open Classical in
noncomputable def mkA(C:Cx)(dead:Nat->Prop)(B:World):World:=
 { B with heap:=B.heap.mapIdx λb o=>if dead b then sK o else if okO C o then o else gH b o }
variable{dead:Nat->Prop}
theorem eT:(mkA C dead B).heap.size=B.heap.size:=by simp[mkA]
theorem oz{b:Nat}(hd:dead b):(mkA C dead B).heap[b]?=(B.heap[b]?).map sK:=by
 simp only[mkA,qn,b8 hd]
theorem nq{b:Nat}{o:Obj}(hd:¬dead b)(h:B.heap[b]?=some o)(ho:okO C o):(mkA C dead B).heap[b]?=some o:=by
 simp only[mkA,qn,h,bP hd,eh,b8 ho]
theorem pb{b:Nat}{o:Obj}(hd:¬dead b)(h:B.heap[b]?=some o)(ho:¬okO C o):(mkA C dead B).heap[b]?=some (gH b o):=by
 simp only[mkA,qn,h,bP hd,eh,bP ho]
theorem uj{b:Nat}(h:B.heap[b]?=none):(mkA C dead B).heap[b]?=none:=by
 simp only[mkA,qn,h,JM]
theorem xe{old:Nat->Obj->Prop}{part:Nat->Nat->Prop}(hd:∀b,dead b->dK B b)(ho:∀b o,¬dead b->B.heap[b]?=some o->¬okO C o->old b o):Lk C ⟨dead,part,old⟩ (mkA C dead B) B:=by
 refine⟨eT,λb hb=>?_,λb hb=>?_,λb hb=>?_,rfl,rfl⟩
 .obtain⟨c,e,f,h⟩:=hd b hb;rw[eT]
  grind
 .have hb:¬dead b:=hb
  rcases hx:B.heap[b]? with _|o
  .exact .inl ⟨uj hx,λo e=>by rw[uj hx] at e;cases e⟩
  .by_cases hk:okO C o
   .exact .inl ⟨nq hb hx hk,λo' e=>by rw[nq hb hx hk] at e;simp_all⟩
   .exact .inr (.inl ⟨o,rfl,hk,pb hb hx hk,ho b o hb hx hk⟩)
 .obtain⟨c,e,f,h⟩:=hd b hb;have hb:dead b:=hb;exact⟨c,e,f,by rw[oz hb,h];rfl,h⟩
theorem qE{b:Nat}{c:Array Value}{e:TypeId}{f:Nat×Nat}(hd:¬dead b)(h:B.heap[b]?=some (.cells c e f)):(mkA C dead B).heap[b]?=some (.cells c e f):=nq hd h trivial
theorem xg{a:Addr}{v:Value}(hd:¬dead a.block)(h:B.cell? a=some v):(mkA C dead B).cell? a=some v:=by
 unfold World.cell? at h
 rcases hx:B.heap[a.block]? with _|o
 .rw[hx] at h;cases h
 .rw[hx] at h
  cases o<;>first|cases h|skip
  unfold World.cell?;rw[qE hd hx];exact h
end
end Go.Fc
namespace Go.Fc
open Go Go.Conc Go.Fi
open Go.ConcN (PayAt Has RW AsideCell WgLive)
open Go.ConcR (KK WgAt stA smA Payload)
structure PhD where
 ty:TypeId
 Wg:Nat
 F:Nat
 n:Nat
 lo0:Nat
 e0:Nat
 dead:Nat->Prop
 v0:Value
structure fF(d:PhD):Prop where
 wg:d.Wg<d.lo0
 f:d.F<d.lo0
 ne:d.F≠d.Wg
 dead:∀b,d.dead b->b<d.lo0/\b≠d.F/\b≠d.Wg
 e0:1<=d.e0
 n:d.n<2147483648
def slot(d:PhD)(p:Nat):Nat:=if p=0 then d.n else p-1
theorem NC{d:PhD}{p q:Nat}(hp:p<=d.n)(hq:q<=d.n)(h:p≠q):slot d p≠slot d q:=by unfold slot;split<;>split<;>omega
structure Mem[Payload](C:Cx)(d:PhD)(j:Nat)(own lo:Nat->Nat)(S:Nat->Sh)(A:Nat->World)(B B0:World):Prop where
 lk:∀p,p<=j->Lk C (S p) (A p) B
 qV:∀b,own b≠0->d.lo0<=b/\b<B.heap.size/\own b<=j
 oK:∀p,1<=p->p<=j->d.lo0<=lo p/\lo p<=B.heap.size
 lS:∀p,p<=j->∀b,d.dead b\/b=d.Wg->(S p).dead b
 pK:∀p,p<=j->∀b,dK B b->own b≠p->(own b≠0\/(1<=p/\lo p<=b))->(S p).dead b
 pB:∀p,p<=j->∀b o,(S p).old b o->b<d.lo0
 nN:∀p,p<=j->∀b k,(S p).part b k->b=d.F
 sL:∀p,p<=j->∀k,k≠slot d p->(S p).part d.F k
 sN:¬(S 0).part d.F d.n
 pay:PayAt d.F d.n B
 init:∀i,j<=i->i<d.n->B.cell? ⟨d.F,i,none⟩=some d.v0
 pL:∀b o,d.lo0<=b->B.heap[b]?=some o->okO C o
 same:∀b,b<d.lo0->b≠d.F->b≠d.Wg->B.heap[b]?=B0.heap[b]?
 os:B.os=B0.os
 output:B.output=B0.output
 size:d.lo0<=B.heap.size
theorem Kept.back{es:Array Event}{B B':World}(k:Kept es B B')(h:∀e∈es,e.write=true->∃a,e.loc=.cell a){b:Nat}(hb:b<B.heap.size)(hc:dK B' b):dK B b:=by
 by_cases hx:dK B b
 .exact hx
 .have:=k.obj b hb (.inl λc ty fr e=>hx ⟨c,ty,fr,e⟩) λe he hw ho=>by
   grind
  obtain⟨c,e,f,h1⟩:=hc;exact⟨c,e,f,this▸h1⟩
theorem dK.lt{B:World}{b:Nat}(h:dK B b):b<B.heap.size:=let ⟨_,_,_,h⟩:=h;(cY.1 h).1
def sP(d:PhD)(own lo:Nat->Nat)(j p:Nat)(B:World)(es:Array Event):Prop:=
 ∀e∈es,e.write=true->∃a,e.loc=.cell a/\(a.block=d.Wg\/(a.block=d.F/\a.off=slot d p)\/(d.lo0<=a.block/\(dK B a.block->own a.block=p/\(p=0->∀q,1<=q->q<=j->lo q<=a.block))))
section
variable[Payload]{C:Cx}{d:PhD}{j:Nat}{own lo:Nat->Nat}{S:Nat->Sh}{A:Nat->World}{B B' B0:World}{es:Array Event}{p:Nat}
theorem Mem.IF(h:Mem C d j own lo S A B B0)(hj:j<=d.n)(hp:p<=j)(hw:sP d own lo j p B es){q:Nat}(hq:q<=j)(bw:q≠p):∀e∈es,e.write=true->∃a,e.loc=.cell a/\(dK B a.block->(S q).dead a.block\/(S q).part a.block a.off):=by
 intro e he a5;obtain⟨a,ha,hc⟩:=hw e he a5;refine⟨a,ha,λc4=>?_⟩
 rcases hc with hc|⟨hc,ho⟩|⟨hl,hc⟩
 .exact .inl (h.lS q hq _ (.inr hc))
 .exact .inr (by rw[hc];exact h.sL q hq _ (by rw[ho];exact NC ab ab (gO bw)))
 .obtain⟨h1,h2⟩:=hc c4;refine .inl (h.pK q hq _ c4 (by rw[h1];exact gO bw) ?_)
  grind
theorem Mem.CP(h:Mem C d j own lo S A B B0)(hd:fF d)(hj:j<=d.n)(hp:p<=j)(k:Kept es B B')(hw:sP d own lo j p B es):PayAt d.F d.n B'/\(∀i,j<=i->i<d.n->B'.cell? ⟨d.F,i,none⟩=some d.v0)/\(∀b,b<d.lo0->b≠d.F->b≠d.Wg->B'.heap[b]?=B.heap[b]?):=by
 obtain⟨cF,hF,hn⟩:=h.pay;obtain⟨c',h1,h2,h3⟩:=k.cell _ _ _ _ hF;refine⟨⟨c',h1,h2.trans hn⟩,λi d' hi=>?_,λb hb hbF hbW=>?_⟩
 .have e0:=h.init i d' hi;unfold World.cell? at e0 ⊢;rw[hF] at e0;rw[h1];refine Eq.trans ?_ e0
  refine h3 i λe he a5 a ha bt cg=>?_
  obtain⟨a',b7,hc⟩:=hw e he a5;rw[ha] at b7;cases b7
  rcases hc with hc|⟨_,ho⟩|⟨hl,_⟩
  .exact hd.ne (bt▸hc)
  .unfold slot at ho
   split at ho<;>omega
  .have:=hd.f;omega
 .refine k.obj b (by have:=h.size;omega) (.inr λe he a5 a ha bt=>?_) λe he a5 ho=>?_
  .obtain⟨a',b7,hc⟩:=hw e he a5;rw[ha] at b7;grind
  .obtain⟨a',b7,_⟩:=hw e he a5;rw[ho] at b7;cases b7
theorem Mem.IG(h:Mem C d j own lo S A B B0)(hd:fF d)(hj:j<=d.n)(hp:p<=j)(k:Kept es B B')(hw:sP d own lo j p B es){Sp:Sh}{Ap:World}(dc:Lk C Sp Ap B')(e1:Sp.dead=(S p).dead)(e2:Sp.part=(S p).part)(e3:Sp.old=(S p).old):Mem C d j (λb=>if B.heap.size<=b/\b<B'.heap.size then p else own b) lo (λq=>if q=p then Sp else (S q).grown B B') (λq=>if q=p then Ap else mP (A q) B') B' B0:=by
 have c6:∀e∈es,e.write=true->∃a,e.loc=.cell a:=λe he a5=>let ⟨a,ha,_⟩:=hw e he a5;⟨a,ha⟩
 have bk:∀b o,B.heap.size<=b->B'.heap[b]?=some o->okO C o:=λb o hb ho=>by
  have ax:¬Sp.dead b:=λhx=>by
   rw[e1] at hx;have:=(h.lk p hp).low b hx;rw[(h.lk p hp).size] at this;omega
  rcases dc.same b ax with ⟨e,hk⟩|⟨o',h1,_,_,h2⟩|⟨_,_,_,_,_,h1,_⟩
  .simp_all
  .rw[e3] at h2;have:=h.pB p hp b o' h2;have:=h.size;omega
  .rw[ho] at h1;cases h1;trivial
 obtain⟨k1,k2,k3⟩:=h.CP hd hj hp k hw;have bo:=k.size;refine⟨λq hq=>?_,λb hb=>?_,λq h1 h2=>?_,λq hq b hb=>?_,λq hq b hc ag ay=>?_,λq hq b o ho=>?_,λq hq b kk hk=>?_,λq hq kk hk=>?_,?_,k1,k2,λb o hb ho=>?_,λb h1 h2 h3=>(k3 b h1 h2 h3).trans (h.same b h1 h2 h3),k.os.trans h.os,k.output.trans h.output,by have:=h.size;omega⟩
 .by_cases e:q=p
  .simp_all
  .simp only[bP e];exact (h.lk q hq).other k (h.IF hj hp hw hq e) bk
 .by_cases hn:B.heap.size<=b/\b<B'.heap.size
  .rw[b8 hn] at hb ⊢;exact⟨by have:=h.size;omega,hn.2,hp⟩
  .rw[bP hn] at hb ⊢;obtain⟨a1,a2,a3⟩:=h.qV b hb;omega
 .have:=h.oK q h1 h2;omega
 .by_cases e:q=p
  .subst e;simp only[cz];rw[e1];exact h.lS q hq b hb
  .simp only[bP e];exact .inl (h.lS q hq b hb)
 .rcases fo b B.heap.size with h'|a6
  .have hn:¬(B.heap.size<=b/\b<B'.heap.size):=ab
   rw[bP hn] at ag ay;have:=h.pK q hq b (k.back c6 h' hc) ag ay;by_cases e:q=p
   .simp_all
   .simp only[bP e];exact .inl this
  .rw[b8 ⟨a6,hc.lt⟩] at ag ay;rw[bP (gO ag)];exact .inr ⟨a6,hc⟩
 .by_cases e:q=p
  .subst e;simp only[cz] at ho;rw[e3] at ho;exact h.pB q hq b o ho
  .simp only[bP e] at ho;exact h.pB q hq b o ho
 .by_cases e:q=p
  .subst e;simp only[cz] at hk;rw[e2] at hk;exact h.nN q hq b kk hk
  .simp only[bP e] at hk;exact h.nN q hq b kk hk
 .by_cases e:q=p
  .subst e;simp only[cz];rw[e2];exact h.sL q hq kk hk
  .simp only[bP e];exact h.sL q hq kk hk
 .by_cases e:0=p
  .subst e;simp only[cz];rw[e2];exact h.sN
  .simp only[bP e];exact h.sN
 .rcases fo b B.heap.size with h'|a6
  .by_cases hc:dK B' b
   .obtain⟨c,e,f,hc⟩:=hc;rw[ho] at hc;cases hc;trivial
   .have:B'.heap[b]?=B.heap[b]?:=by
     by_cases hx:dK B b
     .obtain⟨c,e,f,hx⟩:=hx;obtain⟨c',cm,_⟩:=k.cell _ _ _ _ hx;exact absurd ⟨_,_,_,cm⟩ hc
     .exact k.obj b h' (.inl λc ty fr e=>hx ⟨c,ty,fr,e⟩) λe he bp ho=>by
       obtain⟨a,ha⟩:=c6 e he bp;rw[ho] at ha;cases ha
    exact h.pL b o hb (this▸ho)
  grind
theorem Mem.lib(h:Mem C d j own lo S A B B0)(hd:fF d)(hj:j<=d.n)(hp:p<=j)(k:Kept es B B')(bo:B'.heap.size=B.heap.size)(hw:∀e∈es,e.write=true->∃a,e.loc=.cell a/\(a.block=d.Wg\/(a.block=d.F/\a.off=slot d p/\(S p).part d.F (slot d p)))):Mem C d j own lo (λq=>(S q).grown B B') (λq=>mP (A q) B') B' B0:=by
 have bp:sP d own lo j p B es:=λe he a5=>let ⟨a,ha,hc⟩:=hw e he a5;⟨a,ha,hc.imp id λx=>.inl ⟨x.1,x.2.1⟩⟩
 have c6:∀e∈es,e.write=true->∃a,e.loc=.cell a:=λe he a5=>let ⟨a,ha,_⟩:=hw e he a5;⟨a,ha⟩
 have bk:∀b o,B.heap.size<=b->B'.heap[b]?=some o->okO C o:=λb o hb ho=>by
  have:=(cY.1 ho).1;omega
 obtain⟨k1,k2,k3⟩:=h.CP hd hj hp k bp;refine⟨λq hq=>(h.lk q hq).other k (λe he a5=>?_) bk,λb hb=>?_,λq h1 h2=>?_,λq hq b hb=>.inl (h.lS q hq b hb),λq hq b hc ag ay=>.inl (h.pK q hq b (k.back c6 (by rw[<-bo];exact hc.lt) hc) ag ay),h.pB,h.nN,h.sL,h.sN,k1,k2,λb o hb ho=>?_,λb h1 h2 h3=>(k3 b h1 h2 h3).trans (h.same b h1 h2 h3),k.os.trans h.os,k.output.trans h.output,by have:=h.size;omega⟩
 .by_cases bw:q=p
  .subst bw;obtain⟨a,ha,hc⟩:=hw e he a5;refine⟨a,ha,λ_=>?_⟩
   rcases hc with hc|⟨hc,ho,hs⟩
   .exact .inl (h.lS q hq _ (.inr hc))
   simp_all
  .exact h.IF hj hp bp hq bw e he a5
 .have:=h.qV b hb;omega
 .have:=h.oK q h1 h2;omega
 .by_cases hc:dK B' b
  .obtain⟨c,e,f,hc⟩:=hc;rw[ho] at hc;cases hc;trivial
  .have h':b<B.heap.size:=by rw[<-bo];grind
   have:B'.heap[b]?=B.heap[b]?:=by
    by_cases hx:dK B b
    .obtain⟨c,e,f,hx⟩:=hx;obtain⟨c',cm,_⟩:=k.cell _ _ _ _ hx;exact absurd ⟨_,_,_,cm⟩ hc
    .exact k.obj b h' (.inl λc ty fr e=>hx ⟨c,ty,fr,e⟩) λe he bp ho=>by
      grind
   exact h.pL b o hb (this▸ho)
theorem Mem.spawn(h:Mem C d j own lo S A B B0)(hd:fF d)(hj:j<d.n)(aa:∀b,d.dead b\/b=d.Wg->dK B b):Mem C d (j+1) own (λq=>if q=j+1 then B.heap.size else lo q) (λq=>if q=j+1 then ⟨λb=>d.dead b\/b=d.Wg\/(own b≠0/\dK B b),λb k=>b=d.F/\k≠j,λb o=>b<d.lo0/\B.heap[b]?=some o⟩ else S q) (λq=>if q=j+1 then mkA C (λb=>d.dead b\/b=d.Wg\/(own b≠0/\dK B b)) B else A q) B B0:=by
 refine⟨λq hq=>?_,λb hb=>?_,λq h1 h2=>?_,λq hq b hb=>?_,λq hq b hc ag ay=>?_,λq hq b o ho=>?_,λq hq b kk hk=>?_,λq hq kk hk=>?_,by simp only[show (0:Nat)≠j+1 by omega,cT];exact h.sN,h.pay,λi h1 h2=>h.init i ab h2,h.pL,h.same,h.os,h.output,h.size⟩
 .by_cases e:q=j+1
  .subst e;simp only[cz];refine xe (λb hb=>?_) (λb o ax ho c8=>⟨?_,ho⟩)
   .grind
   .rcases fo b d.lo0 with h'|a6
    .exact h'
    .exact absurd (h.pL b o a6 ho) c8
  .simp only[bP e];exact h.lk q ab
 .obtain⟨a1,a2,a3⟩:=h.qV b hb;omega
 .by_cases e:q=j+1
  .subst e;simp only[cz];exact⟨h.size,bS _⟩
  .simp only[bP e];exact h.oK q h1 ab
 .by_cases e:q=j+1
  .grind
  .simp only[bP e];exact h.lS q ab b hb
 .by_cases e:q=j+1
  .subst e;simp only[cz] at ay ⊢
   rcases ay with ay|⟨_,ay⟩
   .simp_all
   .have:=hc.lt;omega
  .simp only[bP e] at ay ⊢;exact h.pK q ab b hc ag ay
 .by_cases e:q=j+1
  .simp_all
  .simp only[bP e] at ho;exact h.pB q ab b o ho
 .by_cases e:q=j+1
  .simp_all
  .simp only[bP e] at hk;exact h.nN q ab b kk hk
 .by_cases e:q=j+1
  .subst e;simp only[cz];trivial
  .simp only[bP e];exact h.sL q ab kk hk
theorem Mem.toChild(h:Mem C d j own lo S A B B0){a:Addr}{v:Value}(hF:a.block≠d.F)(hc:(A 0).cell? a=some v):(mkA C (λb=>d.dead b\/b=d.Wg\/(own b≠0/\dK B b)) B).cell? a=some v:=by
 obtain⟨ax,_,hB⟩:=(h.lk 0 (cG _)).cell hc λhp=>hF (h.nN 0 (cG _) _ _ hp)
 refine xg (λhd=>?_) hB
 rcases hd with hd|hd|⟨h1,h2⟩
 .exact ax (h.lS 0 (cG _) _ (.inl hd))
 .exact ax (h.lS 0 (cG _) _ (.inr hd))
 .exact ax (h.pK 0 (cG _) _ h2 h1 (.inl h1))
end
end Go.Fc
namespace Go.Fc
open Go Go.Conc Go.Fi
open Go.ConcN (PayAt Has RelBy WD ShN norel_of)
open Go.ConcR (KK WgAt stA smA Payload g_of_ofEvents)
def rts(d:PhD)(own lo:Nat->Nat)(j:Nat):Rts where
 W g l:=∃a,l=.cell a/\((g=0/\own a.block=0/\¬d.dead a.block/\a.block≠d.Wg/\(a.block=d.F->j<=a.off)/\(a.block≠d.F->∀q,1<=q->q<=j->lo q<=a.block)) \/
  ∃p,1<=p/\p<=j/\g=d.e0+(p-1)/\(own a.block=p\/(a.block=d.F/\a.off=p-1)))
 R g l:=∃a,l=.cell a/\own a.block=0/\¬d.dead a.block/\a.block≠d.Wg/\((g=0/\(a.block=d.F->j<=a.off))\/∃p,1<=p/\p<=j/\g=d.e0+(p-1)/\a.block≠d.F/\a.block<lo p)
def gof(d:PhD)(p:Nat):Nat:=if p=0 then 0 else d.e0+(p-1)
section
variable[Payload]{C:Cx}{d:PhD}{j:Nat}{own lo:Nat->Nat}{S:Nat->Sh}{A:Nat->World}{B B' B0:World}{es:Array Event}{p:Nat}
theorem CQ(h:Mem C d j own lo S A B B0)(hd:fF d):own d.F=0:=DR λe=>by have:=(h.qV _ e).1;have:=hd.f;omega
theorem NF(h:Mem C d j own lo S A B B0)(hd:fF d):own d.Wg=0:=DR λe=>by have:=(h.qV _ e).1;have:=hd.wg;omega
theorem Gk(h:Mem C d j own lo S A B B0)(hd:fF d):(rts d own lo j).Apart (ShN d.Wg):=by
 have hF:=CQ h hd;have hW:=NF h hd;have he:=hd.e0;refine⟨?_,?_,?_⟩
 .rintro g g' l ⟨a,rfl,h1⟩ ag
  refine⟨?_,?_⟩
  .rintro⟨a',e,h2⟩
   grind
  .rintro⟨a',e,o2,_,_,h2⟩
   grind
 .rintro g l ⟨a,rfl,h1⟩ ⟨a',e,hb⟩
  cases e
  rcases h1 with ⟨rfl,o1,_,f1,_⟩|⟨p,p1,pj,rfl,o1⟩
  .exact f1 hb
  .rcases o1 with o1|⟨o1,_⟩
   .rw[hb,hW] at o1;omega
   .exact hd.ne (o1.symm.trans hb)
 .rintro g l ⟨a,rfl,_,_,f1,_⟩ ⟨a',e,hb⟩
  simp_all
def EvS(d:PhD)(r:Rts)(p B:Nat)(e:Event):Prop:=
 (∀x,(MemAct.ofEvent e).touch?=some x->(ShN d.Wg x.loc/\x.kind≠.plain/\(x.kind=.said->p=0))\/(x.kind≠.atomic/\(r.W (gof d p) x.loc\/(r.R (gof d p) x.loc/\x.write=false)))) /\
 (MemAct.ofEvent e).low B/\e.loc≠.mark (.release (stA d.Wg))
theorem IH(h:Mem C d j own lo S A B' B0)(hd:fF d)(hj:j<=d.n)(hp:p<=j){l:Nat}(hl:p≠0->l=lo p)(c5:p=0->∀q,1<=q->q<=j->lo q<=l){e:Event}(h1:EvT (S p) B' e)(h2:EvD l d.F (slot d p) e):EvS d (rts d own lo j) p B'.heap.size e:=by
 have hF:=CQ h hd
 rcases h1 with ⟨a,wr,rfl,hc,ax⟩|⟨r,wr,sy,rfl,_⟩|rfl
 .have d2:(a.block=d.F->a.off=slot d p)/\(wr=true->l<=a.block\/a.block=d.F):=by
   rcases h2 with ⟨a',e,x1,x2⟩|⟨m,e⟩
   .simp_all
   .cases e
  obtain⟨hf,hw⟩:=d2
  have aa:¬d.dead a.block:=λx=>ax (h.lS p hp _ (.inl x))
  have bq:a.block≠d.Wg:=λx=>ax (h.lS p hp _ (.inr x))
  have a4:own a.block=p\/(own a.block=0/\(p=0\/a.block<lo p)):=by
   by_cases h0:own a.block=p
   .exact .inl h0
   .have:=λo=>ax (h.pK p hp _ hc h0 o)
    grind
  refine⟨λx hx=>.inr ?_,hc.elim λc ⟨_,_,hc⟩=>(cY.1 hc).1,ae⟩;simp only[ofEvent_cell0,MemAct.touch?,db] at hx;subst hx;refine⟨ae,?_⟩;by_cases a9:p=0
  .subst a9;have ho:own a.block=0:=a4.elim id (·.1)
   have cq:a.block=d.F->j<=a.off:=λe=>by rw[hf e];exact hj
   cases wr with
   |false=>exact .inr ⟨⟨a,rfl,ho,aa,bq,.inl ⟨rfl,cq⟩⟩,rfl⟩
   |true=>
    refine .inl ⟨a,rfl,.inl ⟨rfl,ho,aa,bq,cq,λag q h1 h2=>?_⟩⟩;have:=c5 rfl q h1 h2
    grind
  .have hg:gof d p=d.e0+(p-1):=by simp[gof,a9]
   rw[hg]
   rcases a4 with ho|⟨ho,h'⟩
   .exact .inl ⟨a,rfl,.inr ⟨p,ab,hp,rfl,.inl ho⟩⟩
   .have h':=h'.resolve_left a9;by_cases hbF:a.block=d.F
    .exact .inl ⟨a,rfl,.inr ⟨p,ab,hp,rfl,.inr ⟨hbF,by rw[hf hbF];simp[slot,a9]⟩⟩⟩
    .refine .inr ⟨⟨a,rfl,ho,aa,bq,.inr ⟨p,ab,hp,rfl,hbF,h'⟩⟩,?_⟩
     grind
 .rcases h2 with ⟨a',e,_⟩|⟨m,e⟩<;>cases e
 .exact⟨λx hx=>aE,trivial,ae⟩
theorem II(h:Mem C d j own lo S A B B0)(hd:fF d)(hp:p<=j){l:Nat}(hl:p≠0->l=lo p)(c5:p=0->d.lo0<=l/\∀q,1<=q->q<=j->lo q<=l)(h1:∀e∈es,EvT (S p) B' e)(h2:∀e∈es,EvD l d.F (slot d p) e):sP d own lo j p B es:=by
 intro e he a5
 rcases h1 e he with ⟨a,wr,rfl,hc,ax⟩|⟨r,wr,sy,rfl,_⟩|rfl
 .obtain⟨hf,hw⟩:(a.block=d.F->a.off=slot d p)/\(wr=true->l<=a.block\/a.block=d.F):=by
   rcases h2 _ he with ⟨a',e,x1,x2⟩|⟨m,e⟩
   .cases e;exact⟨x1,x2⟩
   .cases e
  have a5:wr=true:=a5;refine⟨a,rfl,.inr ?_⟩
  rcases hw a5 with dy|hbF
  .right
   have a4:dK B a.block->¬(own a.block≠p/\(own a.block≠0\/(1<=p/\lo p<=a.block))):=λhc ⟨x,y⟩=>ax (h.pK p hp _ hc x y)
   by_cases a9:p=0
   .subst a9;refine⟨by have:=(c5 rfl).1;omega,λhc=>⟨DR λx=>a4 hc ⟨x,.inl x⟩,λ_ q h1 h2=>by have:=(c5 rfl).2 q h1 h2;omega⟩⟩
   .have e5:=hl a9;have:=h.oK p ab hp;exact⟨ab,λhc=>⟨DR λx=>a4 hc ⟨x,.inr ⟨ab,ab⟩⟩,λx=>absurd x a9⟩⟩
  omega
 .rcases h2 _ he with ⟨a',e,_⟩|⟨m,e⟩<;>cases e
 .cases a5
end
structure Trc(d:PhD)(j:Nat)(own lo:Nat->Nat)(gsz:Nat)(t0 t:Trace)(Bsz:Nat)(D:Nat->WD)(d0:Nat):Prop where
 pre:∃u,t=t0++u
 tr:TrI (ShN d.Wg) (rts d own lo j) t
 ph:PhT (λg=>d.e0<=g/\g<d.e0+j) d.Wg t0.size t
 norel:NoRelease (stA d.Wg) t
 low:∀op∈t,op.act.low Bsz
 deaf0:Deaf t 0=d0
 deafW:∀i,i<j->Deaf t (d.e0+i)=(D i).deaf
 above:∀k,gsz<=k->Deaf t k=0
 rel:∀i,i<j->(D i).stage<=6->∃r,RelBy (stA d.Wg) t (d.e0+i) r
section
variable{d:PhD}{j:Nat}{own h9 lo:Nat->Nat}{gsz Bsz ao d0:Nat}{t0 t:Trace}{D:Nat->WD}{es:Array Event}{p:Nat}
theorem qF{g:Nat}{fn:FuncId}{pos:String}{es:Array Event}{op:MemOp}(h:op∈MemOp.ofEvents g fn pos es):∃e∈es,op = { g,fn,pos,act:=.ofEvent e }:=Go.Conc.mem_ofEvents h
theorem Trc.step(h:Trc d j own lo gsz t0 t Bsz D d0)(hd:fF d)(hA:(rts d h9 lo j).Apart (ShN d.Wg))(hp:p<=j)(hg:gof d p<gsz)(hB:Bsz<=ao)(a4:∀b,h9 b=own b\/(Bsz<=b/\h9 b=p))(e4:∀q,1<=q->q<=j->lo q<=Bsz)(hFB:d.F<Bsz){fn:FuncId}{pos:String}(bh:∀e∈es,EvS d (rts d h9 lo j) p ao e){D':Nat->WD}{d0':Nat}(hD:∀i,i+1≠p->D' i=D i)(d5:d0'=if p=0 then deafBehind d0 es else d0)(hdW:∀i,p=i+1->(D' i).deaf=deafBehind (D i).deaf es)(b6:∀i,p=i+1->(D' i).stage<=6->∃r,RelBy (stA d.Wg) (t++MemOp.ofEvents (gof d p) fn pos es) (d.e0+i) r):Trc d j h9 lo gsz t0 (t++MemOp.ofEvents (gof d p) fn pos es) ao D' d0':=by
 have he:=hd.e0
 have c9:∀i,gof d p=d.e0+i↔p=i+1:=λi=>by unfold gof;split<;>omega
 have ba:gof d p=0↔p=0:=by unfold gof;split<;>omega
 have e7:∀a:Addr,Bsz<=a.block->xT t (.cell a):=λa ha=>Nz h.low ha
 have dr:TrI (ShN d.Wg) (rts d h9 lo j) t:=by
  refine h.tr.eu (λg l hl=>?_) (λg l hl=>?_)
  .obtain⟨a,rfl,hc⟩:=hl
   rcases fo a.block Bsz with h'|a6
   .have:h9 a.block=own a.block:=(a4 a.block).resolve_right λx=>by omega
    rw[this] at hc;exact .inl ⟨a,rfl,hc⟩
   simp_all
  .obtain⟨a,rfl,hc⟩:=hl
   rcases fo a.block Bsz with h'|a6
   .have:h9 a.block=own a.block:=(a4 a.block).resolve_right λx=>by omega
    rw[this] at hc;exact .inl ⟨a,rfl,hc⟩
   simp_all
 obtain⟨u0,bz⟩:=h.pre;refine⟨⟨u0++_,by rw[bz,vl]⟩,dr.app hA (g:=gof d p) λop h8=>?_,h.ph.app (λ_=>id) λop h8=>?_,h.norel.app (norel_of λe he=>(bh e he).2.2),λop h8=>?_,?_,λi hi=>?_,λk hk=>?_,λi hi hs=>?_⟩
 .obtain⟨e,he,rfl⟩:=qF h8;exact⟨rfl,λx hx=>((bh e he).1 x hx).imp (λy=>⟨y.1,y.2.1,λz=>ba.2 (y.2.2 z)⟩) (·.2)⟩
 .obtain⟨e,he,rfl⟩:=qF h8;by_cases a9:p=0
  .exact .inl (ba.2 a9)
  .refine .inr (.inr ⟨by show d.e0<=gof d p/\gof d p<d.e0+j;simp[gof,a9];omega,λx hx hk=>?_⟩)
   rcases (bh e he).1 x hx with y|y
   .obtain⟨⟨a,h1,h2⟩,_⟩:=y;exact⟨a,h1,h2⟩
   simp_all
 .rcases yw.1 h8 with h8|h8
  .exact MemAct.low_mono hB (h.low op h8)
  .obtain⟨e,he,rfl⟩:=qF h8;exact (bh e he).2.1
 .rw[d5];by_cases a9:p=0
  .rw[b8 a9,ba.2 a9,Deaf_own,h.deaf0]
  .rw[bP a9,Deaf_other t (λx=>a9 (ba.1 x)) _ g_of_ofEvents,h.deaf0]
 .by_cases bl:p=i+1
  .rw[hdW i bl,(c9 i).2 bl,Deaf_own,h.deafW i hi]
  .rw[Deaf_other t (λx=>bl ((c9 i).1 x)) _ g_of_ofEvents,h.deafW i hi,hD i λx=>bl x.symm]
 .rw[Deaf_other t ab _ g_of_ofEvents,h.above k hk]
 .by_cases bl:p=i+1
  .simp_all
  .rw[hD i λx=>bl x.symm] at hs;obtain⟨r,hr⟩:=h.rel i hi hs;exact⟨r,hr.appOther g_of_ofEvents (λx=>bl ((c9 i).1 x))⟩
theorem Trc.mute(h:Trc d j own lo gsz t0 t Bsz D d0){g:Nat}(ba:g≠0)(hg:g<d.e0)(dx:d.e0<=gsz){fn:FuncId}{pos:String}(hm:∀e∈es,e.mute=true):Trc d j own lo gsz t0 (t++MemOp.ofEvents g fn pos es) Bsz D d0:=by
 have aq:∀op∈MemOp.ofEvents g fn pos es,op.act.touch?=none:=λop h8=>by obtain⟨e,he,rfl⟩:=qF h8;exact touch_mute (hm e he)
 obtain⟨u0,bz⟩:=h.pre
 refine⟨⟨u0++_,by rw[bz,vl]⟩,⟨h.tr.quiet.app λop h8 x hx _=>(by rw[aq op h8] at hx;cases hx),λg' l hl=>(h.tr.w g' l hl).app λop h8 x hx _=>(by rw[aq op h8] at hx;cases hx),λg' l hl=>(h.tr.r g' l hl).app λop h8 x hx _ _=>(by rw[aq op h8] at hx;cases hx),λsaid=>?_⟩,
  h.ph.app (λ_=>id) λop h8=>.inr (.inl (aq op h8)),h.norel.app λop h8 hx=>?_,λop h8=>?_,?_,λi hi=>?_,λk hk=>?_,λi hi hs=>?_⟩
 .exact noRace_append (h.tr.nr said) (λop h8=>by obtain⟨e,_,rfl⟩:=qF h8;rfl) λi a _ op h8 b hb _=>(by rw[aq op h8] at hb;cases hb)
 .obtain⟨e,he,rfl⟩:=qF h8;have:=hm e he;have hl:=Go.ConcR.loc_of_ofEvent hx;obtain⟨loc,w,s⟩:=e;simp only at hl;subst hl;trivial
 .rcases yw.1 h8 with h8|h8
  .exact h.low op h8
  .obtain⟨e,he,rfl⟩:=qF h8;exact low_mute (hm e he) _
 .rw[Deaf_other t ba _ g_of_ofEvents,h.deaf0]
 .rw[Deaf_other t ab _ g_of_ofEvents,h.deafW i hi]
 .rw[Deaf_other t ab _ g_of_ofEvents,h.above k hk]
 .obtain⟨r,hr⟩:=h.rel i hi hs;exact⟨r,hr.appOther g_of_ofEvents ab⟩
theorem Trc.fork(h:Trc d j own lo (d.e0+j) t0 t Bsz D 0)(hd:fF d)(a4:∀b,own b<=j)(hF0:own d.F=0){x y:MemOp}(hx:x.g=0/\x.act=.go (d.e0+j))(hy:y.g=d.e0+j/\y.act=.start){sz m:Nat}:Trc d (j+1) own (λq=>if q=j+1 then sz else lo q) (d.e0+(j+1)) t0 (t++#[x,y]) Bsz (ConcN.upd D j ⟨7,m,0⟩) 0:=by
 have he:=hd.e0
 have hm:∀op∈#[x,y],op=x\/op=y:=ae
 have bn:∀op∈#[x,y],op.act≠.mark .disable/\op.act≠.mark .enable:=by
  simp_all
 have aq:∀op∈#[x,y],op.act.touch?=none:=by
  intro op h8
  rcases hm op h8 with rfl|rfl
  .rw[hx.2];rfl
  .rw[hy.2];rfl
 obtain⟨u0,bz⟩:=h.pre;refine⟨⟨u0++#[x,y],by rw[bz,vl]⟩,h.tr.fork hx hy h.deaf0 (h.above _ (bS _)) (λg l hl=>?_) (λg l hl=>?_),h.ph.app (λg hg=>⟨hg.1,ab⟩) λop h8=>.inr (.inl (aq op h8)),h.norel.app λop h8=>?_,λop h8=>?_,?_,λi hi=>?_,λk hk=>?_,λi hi hs=>?_⟩
 .obtain⟨a,rfl,hc⟩:=hl
  rcases hc with ⟨rfl,o1,o2,o3,o4,o5⟩|⟨p,p1,pj,rfl,o1⟩
  .refine .inl ⟨ab,a,rfl,.inl ⟨rfl,o1,o2,o3,λe=>by have:=o4 e;omega,λe q h1 h2=>?_⟩⟩;have:=o5 e q h1 ab
   grind
  .by_cases hp:p=j+1
   .subst hp;refine .inr ⟨ab,a,rfl,.inl ?_⟩
    rcases o1 with o1|⟨o1,o2⟩
    .have:=a4 a.block;omega
    .exact⟨rfl,by rw[o1];exact hF0,λhx=>(hd.dead _ hx).2.1 o1,λe=>hd.ne (o1.symm.trans e),λ_=>ab,λe=>absurd o1 e⟩
   .exact .inl ⟨ab,a,rfl,.inr ⟨p,p1,ab,rfl,o1⟩⟩
 .obtain⟨a,rfl,o1,o2,o3,hc⟩:=hl
  rcases hc with ⟨rfl,o4⟩|⟨p,p1,pj,rfl,o4,o5⟩
  .exact .inl ⟨ab,.inl ⟨a,rfl,o1,o2,o3,.inl ⟨rfl,λe=>by have:=o4 e;omega⟩⟩⟩
  .by_cases hp:p=j+1
   .exact .inr ⟨ab,.inl ⟨a,rfl,o1,o2,o3,.inl ⟨rfl,λe=>absurd e o4⟩⟩⟩
   .dsimp only at o5;rw[bP hp] at o5;exact .inl ⟨ab,.inl ⟨a,rfl,o1,o2,o3,.inr ⟨p,p1,ab,rfl,o4,o5⟩⟩⟩
 .grind
 .rcases yw.1 h8 with h8|h8
  .exact h.low op h8
  .rcases hm op h8 with rfl|rfl
   .rw[hx.2];trivial
   .rw[hy.2];trivial
 .rw[ConcN.Deaf_still t 0 _ bn,h.deaf0]
 .rw[ConcN.Deaf_still t _ _ bn]
  rcases fo i j with h'|a6
  .rw[h.deafW i h',ConcN.upd_ne D _ ab]
  .obtain rfl:i=j:=by omega
   rw[ConcN.upd_same];exact h.above _ (bS _)
 .rw[ConcN.Deaf_still t _ _ bn,h.above k ab]
 .rcases fo i j with h'|a6
  .rw[ConcN.upd_ne D _ ab] at hs;obtain⟨r,hr⟩:=h.rel i h' hs;refine⟨r,hr.appNot λop h8=>?_⟩
   grind
  .obtain rfl:i=j:=by omega
   rw[ConcN.upd_same] at hs;simp at hs
end
theorem NG{d:PhD}{t:Trace}{S:Sh}{Bsz ao gsz:Nat}(hP:Past (nC S) Bsz t)(hS:∀b,S.dead b->d.dead b)(hW:Bsz<=d.Wg)(hB:Bsz<=ao)(bt:∀k,gsz<=k->Deaf t k=0)(D:Nat->WD)(lo:Nat->Nat):Trc d 0 (λ_=>0) lo gsz t t ao D 0:=by
 have hn:∀(i:Nat)(op:MemOp),t[i]?=some op->op.act.low Bsz:=λi op h=>hP.seen op (DQ h)
 have hk:∀a:Addr,¬d.dead a.block->Perm t 0 (.cell a):=λa hd i x hx e=>by
  refine (hP.known i x hx (by rw[e];rfl)).resolve_right λhs=>?_
  obtain⟨⟨a',h1,h2⟩,_⟩:=hs;rw[e] at h1;simp_all
 refine⟨⟨#[],ae⟩,⟨λi op x hi hx hs=>?_,λg l hl=>?_,λg l hl=>?_,hP.clean⟩,λi op hi ho=>?_,λi hi=>?_,λop h8=>MemAct.low_mono hB (hP.seen op h8),hP.hears,λi hi=>ab,bt,λi hi=>ab⟩
 .obtain⟨a,ha,hb⟩:=hs;have:=Gh (hn i op hi) hx;rw[ha] at this;have:a.block<Bsz:=this;omega
 .obtain⟨a,rfl,hc⟩:=hl
  grind
 .obtain⟨a,rfl,_,hd,_,hc⟩:=hl
  rcases hc with ⟨rfl,_⟩|⟨p,h1,h2,_⟩
  .exact .of (hk a hd)
  .omega
 .have:=(cY.1 ho).1;omega
 .obtain⟨op,ho,dg⟩:=tD.1 hi;have:=hn i op ho;rw[dg] at this;have:d.Wg<Bsz:=this;omega
end Go.Fc
namespace Go.Fc
open Go Go.Conc Go.Fi
open Go.ConcN (PayAt Has RW AsideCell WgLive DWs AtR0 WSit CTag WD upd upd_ne upd_same)
open Go.ConcR (KK WgAt stA smA rd wr mk Payload DC0)
def RL(ty:TypeId)(Wg:Nat)(w w1:World):Prop:=WgLive ty Wg w->WgLive ty Wg w1
def DL(Wg:Nat)(w w':World)(es:Array Event):Prop:=w'=w/\∀e∈es,e=mk (.read (smA Wg))\/e=mk (.write (smA Wg))
theorem RL.refl{ty:TypeId}{Wg:Nat}(w:World):RL ty Wg w w:=id
theorem RL.trans{ty:TypeId}{Wg:Nat}(a b c:World)(h:RL ty Wg a b)(k:RL ty Wg b c):RL ty Wg a c:=λx=>k (h x)
section
variable(P:Program)(ty:TypeId)(Wg:Nat)
abbrev GL(Stop:Goroutine->World->Prop):Nat->Goroutine->World->Prop:=Goes P true (RL ty Wg) (DL Wg) Stop
def mQ(g0:Goroutine)(g:Goroutine)(_:World):Prop:=g=g0
def uW(m:Mark)(Next:Goroutine->World->Prop)(g:Goroutine)(w:World):Prop:=g.status=.running/\∃g',stepG P true g w=.go g' w #[mk m]/\∃n,GL P ty Wg Next n g' w
def CR(fin:Goroutine):Goroutine->World->Prop:=uW P ty Wg .enable (mQ fin)
def IJ(fin:Goroutine)(g:Goroutine)(w:World):Prop:=
 g.status=.running/\∀v:Nat,v<2147483647->WgAt ty Wg w (v*KK) 0 ->
  ∃g',stepG P true g w=.go g' (w.setCell (stA Wg) (.int .u64 ((v+1)*KK))) #[rd (stA Wg),wr (stA Wg)]/\∃n,GL P ty Wg (CR P ty Wg fin) n g' (w.setCell (stA Wg) (.int .u64 ((v+1)*KK)))
def xU(fin:Goroutine):Goroutine->World->Prop:=uW P ty Wg .disable (IJ P ty Wg fin)
def WtQ(fin:Goroutine):Goroutine->World->Prop:=uW P ty Wg (.acquire (stA Wg)) (mQ fin)
def WtE(fin:Goroutine):Goroutine->World->Prop:=uW P ty Wg .enable (WtQ P ty Wg fin)
def Wt4(fin:Goroutine)(g:Goroutine)(w:World):Prop:=g.status=.running/\(WgAt ty Wg w 0 0->∃g',stepG P true g w=.go g' w #[rd (stA Wg)]/\∃n,GL P ty Wg (WtE P ty Wg fin) n g' w)
def Wt3(fin:Goroutine)(g:Goroutine)(w:World):Prop:=
 g.status=.running/\g.offers=none/\((∃st,WgAt ty Wg w st 0)->stepG P true g w=.go { g with status:=.blocked } w #[]) /\
  (WgAt ty Wg w 0 1->∃g',stepG P true g w=.go g' (w.setCell (smA Wg) (.int .u32 0)) (semEvents (smA Wg))/\∃n,GL P ty Wg (Wt4 P ty Wg fin) n g' (w.setCell (smA Wg) (.int .u32 0)))
def Wt2(fin:Goroutine)(jj:Goroutine->World->Prop)(vs:Nat)(g:Goroutine)(w:World):Prop:=
 g.status=.running/\∀v:Nat,v<2147483648->WgAt ty Wg w (v*KK) 0 ->
  (v=vs->∃g',stepG P true g w=.go g' (w.setCell (stA Wg) (.int .u64 (v*KK+1))) #[rd (stA Wg),wr (stA Wg)]/\∃n,GL P ty Wg (Wt3 P ty Wg fin) n g' (w.setCell (stA Wg) (.int .u64 (v*KK+1)))) /\
  (v≠vs->∃g',stepG P true g w=.go g' w #[rd (stA Wg)]/\∃n,GL P ty Wg jj n g' w)
def Wt1(fin:Goroutine)(jj:Goroutine->World->Prop)(g:Goroutine)(w:World):Prop:=
 g.status=.running/\∀v:Nat,v<2147483648->WgAt ty Wg w (v*KK) 0->∃g',stepG P true g w=.go g' w #[rd (stA Wg)] /\
  (v=0->∃n,GL P ty Wg (WtE P ty Wg fin) n g' w)/\(v≠0->∃n,GL P ty Wg (Wt2 P ty Wg fin jj v) n g' w)
def WtK(jj:Goroutine->World->Prop):Goroutine->World->Prop:=uW P ty Wg .disable jj
end
abbrev noL:Nat->Loc->Prop:=λ_ _=>False
structure Script where
 base:List Frame
 csW:List Frame
 K7:Nat
 NK:Nat
 I1:Nat->Frame->World->Prop
 I2:Nat->Frame->World->Prop
 I3:Frame->World->Prop
 WE:Nat->Frame->List Frame->World->Prop
 Fin:Nat->World->Prop
 CS:Frame->Goroutine
 CU:Frame->Goroutine
 jj:Frame->Goroutine->World->Prop
 child:Nat->Frame->Goroutine
 frW:Nat->Frame->Frame
abbrev gI(s:Script)(fr:Frame):Goroutine:=G (fr.finish (.tuple #[])) s.base
structure gb[Payload][Xf](P P1:Program)(d:PhD)(s:Script):Prop where
 Se:s.base≠[]
 csN:s.csW≠[]
 st1:∀j fr A A',s.I1 j fr A->Bel A.heap.size A A'->s.I1 j fr A'
 st2:∀j fr A A',s.I2 j fr A->Bel A.heap.size A A'->s.I2 j fr A'
 st3:∀fr A A',s.I3 fr A->Bel A.heap.size A A'->s.I3 fr A'
 stW:∀i fr cs A A',s.WE i fr cs A->Bel A.heap.size A A'->s.WE i fr cs A'
 stF:∀i A A',s.Fin i A->Bel A.heap.size A A'->s.Fin i A'
 IK:∀j fr A,s.I1 j fr A->∀B,stepG P true (G fr s.base) B=.go (s.CS fr) B #[]
 add:∀j fr A,s.I1 j fr A->∀w,WgLive d.ty d.Wg w->∃m,GL P d.ty d.Wg (xU P d.ty d.Wg (gI s fr)) m (s.CS fr) w
 mid:∀j fr A,s.I1 j fr A->j<d.n->∀lo,∃N,@TN (cQ lo d.F d.n) P1 s.base.length s.base.length (λfr' cs' A'=>cs'=s.base/\s.I2 j fr' A') N (fr.finish (.tuple #[])) s.base A
 go:∀j fr A,s.I2 j fr A->∀B,stepG P true (G fr s.base) B=.spawn (G (fr.finish undef) s.base) (s.child j fr) B #[]
 Sf:∀j fr,(s.child j fr).status=.running
 beg:∀j fr A,s.I2 j fr A->∀w,∃m,Goes P false (λ_ _=>True) DC0 (mQ (G (s.frW j fr) s.csW)) m (s.child j fr) w
 wok:∀j fr A,s.I2 j fr A->dh P1 P (s.frW j fr)
 work:∀j fr A,s.I2 j fr A->∀Aw,(∀(a:Addr) v,a.block≠d.F->A.cell? a=some v->Aw.cell? a=some v)->Aw.heap.size=A.heap.size->PayAt d.F d.n Aw->Aw.cell? ⟨d.F,j,none⟩=some d.v0 ->
  ∃N,@TN (cQ Aw.heap.size d.F j) P1 s.csW.length s.csW.length (s.WE j) N (s.frW j fr) s.csW Aw
 next:∀j fr A,s.I2 j fr A->j<d.n->∀lo,d.lo0<=lo->lo<=A.heap.size->∃N,@TN (cQ lo d.F d.n) P1 s.base.length s.base.length (λfr' cs' A'=>cs'=s.base/\if j+1<d.n then s.I1 (j+1) fr' A' else s.I3 fr' A') N (fr.finish undef) s.base A
 hwe:∀i fr cs A,s.WE i fr cs A->cs=s.csW/\s.Fin i A/\∃v,A.cell? ⟨d.F,i,none⟩=some v/\∀w,WgLive d.ty d.Wg w/\Has d.F i v w ->
  Goes P false (RW d.ty d.Wg d.F d.n 0 i) DC0 (AtR0 P d.ty d.Wg d.F d.n 0 (i+1) v) s.K7 (G fr s.csW) w
 call3:∀fr A,s.I3 fr A->∀B,stepG P true (G fr s.base) B=.go (s.CU fr) B #[]
 sQ:∀fr A,s.I3 fr A->∀w,WgLive d.ty d.Wg w->GL P d.ty d.Wg (WtK P d.ty d.Wg (s.jj fr)) s.NK (s.CU fr) w
 IL:∀fr g w,s.jj fr g w->g.status=.running
 anch:∀fr A g w,s.I3 fr A->s.jj fr g w->∃m,GL P d.ty d.Wg (Wt1 P d.ty d.Wg (gI s fr) (s.jj fr)) m g w
 IM:∀j fr A f args,s.I1 j fr A->fr≠Frame.enter P1 f args .normal
 IN:∀j fr A f args,s.I2 j fr A->fr≠Frame.enter P1 f args .normal
 IP:∀fr A f args,s.I3 fr A->fr≠Frame.enter P1 f args .normal
 IQ:∀i fr cs A f args,s.WE i fr cs A->fr≠Frame.enter P1 f args .normal
section
variable[Payload][Xf](P P1:Program)(d:PhD)(s:Script)
inductive WkS(i lo:Nat):Nat->Nat->Nat->Goroutine->Sh->World->World->Prop
 |b0 {m N:Nat} {g:Goroutine} {fr:Frame} {S:Sh} {A B:World}:Goes P false (λ_ _=>True) DC0 (mQ (G fr s.csW)) m g B->dR P1 P S s.csW fr s.csW A B->¬S.part d.F i->@TN (cQ lo d.F i) P1 s.csW.length s.csW.length (s.WE i) N fr s.csW A->WkS i lo 7 (m+N+s.K7+2) 0 g S A B
 |b1 {N:Nat} {fr:Frame} {cs:List Frame} {S:Sh} {A B:World}:dR P1 P S s.csW fr cs A B->¬S.part d.F i->@TN (cQ lo d.F i) P1 s.csW.length s.csW.length (s.WE i) N fr cs A->WkS i lo 7 (N+s.K7+1) 0 (G fr cs) S A B
 |b2 {m:Nat} {v:Value} {g:Goroutine} {S:Sh} {A B:World}:Lk (Cc P1 P) S A B->¬S.part d.F i->s.Fin i A->m<=s.K7->Goes P false (RW d.ty d.Wg d.F d.n 0 i) DC0 (AtR0 P d.ty d.Wg d.F d.n 0 (i+1) v) m g B->WkS i lo 7 m 0 g S A B
 |b3 {st m dd:Nat} {v:Value} {g:Goroutine} {S:Sh} {A B:World}:Lk (Cc P1 P) S A B->¬S.part d.F i->s.Fin i A->st<=6->WSit P d.ty d.Wg d.F d.n noL noL 0 (i+1) v st m dd g B->WkS i lo st m dd g S A B
inductive StS(lo:Nat->Nat):CTag->Nat->Nat->Nat->Goroutine->Sh->World->World->Prop
 |p6 {r N l:Nat} {fr:Frame} {cs:List Frame} {S:Sh} {A B:World}:r<d.n->dR P1 P S s.base fr cs A B->d.lo0<=l->(∀q,1<=q->q<=d.n-(r+1)->lo q<=l) ->
   @TN (cQ l d.F d.n) P1 s.base.length s.base.length (λfr' cs' A'=>cs'=s.base/\s.I1 (d.n-(r+1)) fr' A') N fr cs A->StS lo (.sp r 6) (d.n-(r+1)) N 0 (G fr cs) S A B
 |l5 {r m:Nat} {fr:Frame} {g:Goroutine} {S:Sh} {A B:World}:r<d.n->dR P1 P S s.base fr s.base A B->s.I1 (d.n-(r+1)) fr A->GL P d.ty d.Wg (xU P d.ty d.Wg (gI s fr)) m g B->StS lo (.sp r 5) (d.n-(r+1)) m 0 g S A B
 |l4 {r m:Nat} {fr:Frame} {g:Goroutine} {S:Sh} {A B:World}:r<d.n->dR P1 P S s.base fr s.base A B->s.I1 (d.n-(r+1)) fr A->GL P d.ty d.Wg (IJ P d.ty d.Wg (gI s fr)) m g B->StS lo (.sp r 4) (d.n-(r+1)) m 1 g S A B
 |l3 {r m:Nat} {fr:Frame} {g:Goroutine} {S:Sh} {A B:World}:r<d.n->dR P1 P S s.base fr s.base A B->s.I1 (d.n-(r+1)) fr A->GL P d.ty d.Wg (CR P d.ty d.Wg (gI s fr)) m g B->StS lo (.sp r 3) (d.n-(r+1)) m 1 g S A B
 |l2 {r m:Nat} {fr:Frame} {g:Goroutine} {S:Sh} {A B:World}:r<d.n->dR P1 P S s.base fr s.base A B->s.I1 (d.n-(r+1)) fr A->GL P d.ty d.Wg (mQ (gI s fr)) m g B->StS lo (.sp r 2) (d.n-(r+1)) m 0 g S A B
 |p1 {r N l:Nat} {fr:Frame} {cs:List Frame} {S:Sh} {A B:World}:r<d.n->dR P1 P S s.base fr cs A B->d.lo0<=l->(∀q,1<=q->q<=d.n-(r+1)->lo q<=l) ->
   @TN (cQ l d.F d.n) P1 s.base.length s.base.length (λfr' cs' A'=>cs'=s.base/\s.I2 (d.n-(r+1)) fr' A') N fr cs A->StS lo (.sp r 1) (d.n-(r+1)) N 0 (G fr cs) S A B
 |pk {N l:Nat} {fr:Frame} {cs:List Frame} {S:Sh} {A B:World}:dR P1 P S s.base fr cs A B->d.lo0<=l->(∀q,1<=q->q<=d.n->lo q<=l) ->
   @TN (cQ l d.F d.n) P1 s.base.length s.base.length (λfr' cs' A'=>cs'=s.base/\s.I3 fr' A') N fr cs A->StS lo .kd d.n (N+s.NK+1) 0 (G fr cs) S A B
 |kd {m:Nat} {fr:Frame} {g:Goroutine} {S:Sh} {A B:World}:dR P1 P S s.base fr s.base A B->s.I3 fr A->m<=s.NK->GL P d.ty d.Wg (WtK P d.ty d.Wg (s.jj fr)) m g B->StS lo .kd d.n m 0 g S A B
 |anch {m:Nat} {fr:Frame} {g:Goroutine} {S:Sh} {A B:World}:dR P1 P S s.base fr s.base A B->s.I3 fr A->GL P d.ty d.Wg (s.jj fr) m g B->StS lo .anch d.n m 1 g S A B
 |w1 {m:Nat} {fr:Frame} {g:Goroutine} {S:Sh} {A B:World}:dR P1 P S s.base fr s.base A B->s.I3 fr A->GL P d.ty d.Wg (Wt1 P d.ty d.Wg (gI s fr) (s.jj fr)) m g B->StS lo .w1 d.n m 1 g S A B
 |w2 {vs m:Nat} {fr:Frame} {g:Goroutine} {S:Sh} {A B:World}:dR P1 P S s.base fr s.base A B->s.I3 fr A->GL P d.ty d.Wg (Wt2 P d.ty d.Wg (gI s fr) (s.jj fr) vs) m g B->StS lo (.w2 vs) d.n m 1 g S A B
 |w3 {m:Nat} {fr:Frame} {g:Goroutine} {S:Sh} {A B:World}:dR P1 P S s.base fr s.base A B->s.I3 fr A->GL P d.ty d.Wg (Wt3 P d.ty d.Wg (gI s fr)) m g B->StS lo .w3 d.n (m+1) 1 g S A B
 |blk {fr:Frame} {g:Goroutine} {S:Sh} {A B:World}:dR P1 P S s.base fr s.base A B->s.I3 fr A->(∀w,RL d.ty d.Wg B w->Wt3 P d.ty d.Wg (gI s fr) g w)->StS lo .blk d.n 0 1 { g with status:=.blocked } S A B
 |w4 {m:Nat} {fr:Frame} {g:Goroutine} {S:Sh} {A B:World}:dR P1 P S s.base fr s.base A B->s.I3 fr A->GL P d.ty d.Wg (Wt4 P d.ty d.Wg (gI s fr)) m g B->StS lo .w4 d.n m 1 g S A B
 |ke {m:Nat} {fr:Frame} {g:Goroutine} {S:Sh} {A B:World}:dR P1 P S s.base fr s.base A B->s.I3 fr A->GL P d.ty d.Wg (WtE P d.ty d.Wg (gI s fr)) m g B->StS lo .ke d.n m 1 g S A B
 |acq {m:Nat} {fr:Frame} {g:Goroutine} {S:Sh} {A B:World}:dR P1 P S s.base fr s.base A B->s.I3 fr A->GL P d.ty d.Wg (WtQ P d.ty d.Wg (gI s fr)) m g B->StS lo .acq d.n m 0 g S A B
 |ret {m:Nat} {fr:Frame} {g:Goroutine} {S:Sh} {A B:World}:dR P1 P S s.base fr s.base A B->s.I3 fr A->GL P d.ty d.Wg (mQ (gI s fr)) m g B->StS lo .ret d.n m 0 g S A B
end
theorem pd(a b c:World)(h:Bel a.heap.size a b)(k:Bel b.heap.size b c):Bel a.heap.size a c:=h.trans (k.mono h.size)
section
variable[Payload][Xf]{P P1:Program}{d:PhD}{s:Script}{S S':Sh}{A A' B B':World}{lo:Nat->Nat}
omit [Payload] in
theorem dR.eu{base:List Frame}{fr:Frame}{cs:List Frame}(h:dR P1 P S base fr cs A B)(hl:Lk (Cc P1 P) S' A' B'):dR P1 P S' base fr cs A' B':=⟨h.pre,h.ok,hl⟩
theorem WkS.other(hs:gb P P1 d s){i l st m dd:Nat}{g:Goroutine}(h:WkS P P1 d s i l st m dd g S A B)(hl:Lk (Cc P1 P) S' A' B')(hA:Bel A.heap.size A A')(hp:S'.part=S.part)(hR:RW d.ty d.Wg d.F d.n 0 i B B'):WkS P P1 d s i l st m dd g S' A' B':=by
 cases h with
 |b0 h1 h2 h3 h4=>exact .b0 (Goes.rely (λ_ _ _ _ _=>trivial) h1 trivial) (h2.eu hl) (by rw[hp];exact h3) (@TN.rely (cQ l d.F i) _ _ _ _ pd (λfr cs w w1 x e=>hs.stW i fr cs w w1 x e) _ _ _ _ _ h4 hA)
 |b1 h2 h3 h4=>exact .b1 (h2.eu hl) (by rw[hp];exact h3) (@TN.rely (cQ l d.F i) _ _ _ _ pd (λfr cs w w1 x e=>hs.stW i fr cs w w1 x e) _ _ _ _ _ h4 hA)
 |b2 h1 h2 h3 h5 h6=>exact .b2 hl (by rw[hp];exact h2) (hs.stF _ _ _ h3 hA) h5 (Goes.rely (λ_ _ _ x y=>x.trans y) h6 hR)
 |b3 h1 h2 h3 h4 h5=>exact .b3 hl (by rw[hp];exact h2) (hs.stF _ _ _ h3 hA) h4 (h5.rely ak)
theorem StS.other(hs:gb P P1 d s){tag:CTag}{j f dd:Nat}{g:Goroutine}(h:StS P P1 d s lo tag j f dd g S A B)(hl:Lk (Cc P1 P) S' A' B')(hA:Bel A.heap.size A A')(hR:RL d.ty d.Wg B B'):StS P P1 d s lo tag j f dd g S' A' B':=by
 cases h with
 |p6 h1 h2 h0 h3 h4=>exact .p6 h1 (h2.eu hl) h0 h3 (@TN.rely (cQ _ d.F d.n) _ _ _ _ pd (λ_ _ _ _ x e=>⟨x.1,hs.st1 _ _ _ _ x.2 e⟩) _ _ _ _ _ h4 hA)
 |l5 h1 h2 h3 h4=>exact .l5 h1 (h2.eu hl) (hs.st1 _ _ _ _ h3 hA) (Goes.rely RL.trans h4 hR)
 |l4 h1 h2 h3 h4=>exact .l4 h1 (h2.eu hl) (hs.st1 _ _ _ _ h3 hA) (Goes.rely RL.trans h4 hR)
 |l3 h1 h2 h3 h4=>exact .l3 h1 (h2.eu hl) (hs.st1 _ _ _ _ h3 hA) (Goes.rely RL.trans h4 hR)
 |l2 h1 h2 h3 h4=>exact .l2 h1 (h2.eu hl) (hs.st1 _ _ _ _ h3 hA) (Goes.rely RL.trans h4 hR)
 |p1 h1 h2 h0 h3 h4=>exact .p1 h1 (h2.eu hl) h0 h3 (@TN.rely (cQ _ d.F d.n) _ _ _ _ pd (λ_ _ _ _ x e=>⟨x.1,hs.st2 _ _ _ _ x.2 e⟩) _ _ _ _ _ h4 hA)
 |pk h2 h0 h3 h4=>exact .pk (h2.eu hl) h0 h3 (@TN.rely (cQ _ d.F d.n) _ _ _ _ pd (λ_ _ _ _ x e=>⟨x.1,hs.st3 _ _ _ x.2 e⟩) _ _ _ _ _ h4 hA)
 |kd h2 h3 h5 h4=>exact .kd (h2.eu hl) (hs.st3 _ _ _ h3 hA) h5 (Goes.rely RL.trans h4 hR)
 |anch h2 h3 h4=>exact .anch (h2.eu hl) (hs.st3 _ _ _ h3 hA) (Goes.rely RL.trans h4 hR)
 |w1 h2 h3 h4=>exact .w1 (h2.eu hl) (hs.st3 _ _ _ h3 hA) (Goes.rely RL.trans h4 hR)
 |w2 h2 h3 h4=>exact .w2 (h2.eu hl) (hs.st3 _ _ _ h3 hA) (Goes.rely RL.trans h4 hR)
 |w3 h2 h3 h4=>exact .w3 (h2.eu hl) (hs.st3 _ _ _ h3 hA) (Goes.rely RL.trans h4 hR)
 |blk h2 h3 h4=>exact .blk (h2.eu hl) (hs.st3 _ _ _ h3 hA) (λw x=>h4 w λy=>x (hR y))
 |w4 h2 h3 h4=>exact .w4 (h2.eu hl) (hs.st3 _ _ _ h3 hA) (Goes.rely RL.trans h4 hR)
 |ke h2 h3 h4=>exact .ke (h2.eu hl) (hs.st3 _ _ _ h3 hA) (Goes.rely RL.trans h4 hR)
 |acq h2 h3 h4=>exact .acq (h2.eu hl) (hs.st3 _ _ _ h3 hA) (Goes.rely RL.trans h4 hR)
 |ret h2 h3 h4=>exact .ret (h2.eu hl) (hs.st3 _ _ _ h3 hA) (Goes.rely RL.trans h4 hR)
theorem StS.bound{tag:CTag}{j f dd:Nat}{g:Goroutine}(h:StS P P1 d s lo tag j f dd g S A B):j+ConcN.pend tag<=d.n:=by
 cases h<;>simp only[ConcN.pend]<;>(try simp)<;>omega
theorem WkS.status{i l st m dd:Nat}{g:Goroutine}(h:WkS P P1 d s i l st m dd g S A B):(g.status=.running)\/(g.status=.finished/\st=1):=by
 cases h with
 |b0 h1=>exact .inl (Goes.running (λ_ _ x=>by rw[show _=_ from x];rfl) B trivial h1)
 |b1 _ _ _=>exact .inl rfl
 |b2 _ _ _ _ h6=>exact .inl (Goes.running (λ_ _ x=>x.1) B (ConcN.RW.refl B) h6)
 |b3 _ _ _ _ h5=>
  by_cases hs:st=1
  .exact h5.status.imp id λx=>⟨x,hs⟩
  .exact .inl (h5.running_of hs)
theorem StS.status(hs:gb P P1 d s){tag:CTag}{j f dd:Nat}{g:Goroutine}(h:StS P P1 d s lo tag j f dd g S A B):(g.status=.running/\tag≠.blk)\/(g.status=.blocked/\tag=.blk):=by
 cases h with
 |p6=>exact .inl ⟨rfl,ae⟩
 |p1=>exact .inl ⟨rfl,ae⟩
 |pk=>exact .inl ⟨rfl,ae⟩
 |blk=>simp
 |l5 _ _ _ h=>exact .inl ⟨Goes.running (λ_ _ x=>x.1) B (RL.refl B) h,ae⟩
 |l4 _ _ _ h=>exact .inl ⟨Goes.running (λ_ _ x=>x.1) B (RL.refl B) h,ae⟩
 |l3 _ _ _ h=>exact .inl ⟨Goes.running (λ_ _ x=>x.1) B (RL.refl B) h,ae⟩
 |l2 _ _ _ h=>exact .inl ⟨Goes.running (λ_ _ x=>by rw[show _=_ from x];rfl) B (RL.refl B) h,ae⟩
 |kd _ _ _ h=>exact .inl ⟨Goes.running (λ_ _ x=>x.1) B (RL.refl B) h,ae⟩
 |anch _ _ h=>exact .inl ⟨Goes.running (λ_ _ x=>hs.IL _ _ _ x) B (RL.refl B) h,ae⟩
 |w1 _ _ h=>exact .inl ⟨Goes.running (λ_ _ x=>x.1) B (RL.refl B) h,ae⟩
 |w2 _ _ h=>exact .inl ⟨Goes.running (λ_ _ x=>x.1) B (RL.refl B) h,ae⟩
 |w3 _ _ h=>exact .inl ⟨Goes.running (λ_ _ x=>x.1) B (RL.refl B) h,ae⟩
 |w4 _ _ h=>exact .inl ⟨Goes.running (λ_ _ x=>x.1) B (RL.refl B) h,ae⟩
 |ke _ _ h=>exact .inl ⟨Goes.running (λ_ _ x=>x.1) B (RL.refl B) h,ae⟩
 |acq _ _ h=>exact .inl ⟨Goes.running (λ_ _ x=>x.1) B (RL.refl B) h,ae⟩
 |ret _ _ h=>exact .inl ⟨Goes.running (λ_ _ x=>by rw[show _=_ from x];rfl) B (RL.refl B) h,ae⟩
theorem WkS.woken{i l st m dd:Nat}{g:Goroutine}(h:WkS P P1 d s i l st m dd g S A B)(a a':Goroutine)(w':World):woken P a a' w' g=g:=by
 unfold Go.Conc.woken;split
 .exact again_running _ (h.status.imp id (·.1))
 .rfl
theorem StS.wokenBy(hs:gb P P1 d s){tag:CTag}{j f dd:Nat}{a:Goroutine}(h:StS P P1 d s lo tag j f dd a S A B)(w':World)(g g':Goroutine):∃tag' f',StS P P1 d s lo tag' j f' dd (woken P g g' w' a) S A B/\f'<=f+1/\(tag'=tag\/(tag=.blk/\tag'=.w3))/\(mayWake P g=true->g'.status=.running->tag'≠.blk):=by
 unfold Go.Conc.woken;split
 .rcases h.status hs with ⟨hr,ag⟩|⟨_,rfl⟩
  .exact⟨tag,f,by rw[again_running _ (.inl hr)];exact h,ab,.inl rfl,λ_ _=>ag⟩
  .cases h with
   |blk h2 h3 hb=>
    have h4:=hb B (RL.refl B);exact⟨.w3,0+1,by rw[Go.ConcR.again_blocked h4.1 h4.2.1];exact .w3 h2 h3 (Goes.stop hb),ab,.inr ⟨rfl,rfl⟩,λ_ _=>ae⟩
 grind
end
end Go.Fc
namespace Go.Fc
open Go Go.Conc Go.Fi
open Go.ConcN (PayAt Has RW AsideCell WgLive DWs AtR0 WSit CTag WD upd upd_ne upd_same RelBy phi Vc Ssum Fsum cnt sumTo sumTo_upd sumTo_congr phi_mono phi_retag get_map_set get_map_set_same sumTo_upd_out ShN)
open Go.ConcR (KK WgAt stA smA rd wr mk Payload DC0 g_of_ofEvents)
def nO(d:PhD)(j:Nat)(t:Trace):Prop:=
 ∃q,t.act? q=some (.mark (.acquire (stA d.Wg)))/\t.g? q=some 0/\t.heard q/\∀i,i<j->∃r,RelBy (stA d.Wg) t (d.e0+i) r/\r<q
theorem nO.app{d:PhD}{j:Nat}{t u:Trace}(h:nO d j t)(hu:∀i r,i<j->RelBy (stA d.Wg) t (d.e0+i) r->RelBy (stA d.Wg) (t++u) (d.e0+i) r):nO d j (t++u):=by
 obtain⟨q,h1,h2,h3,h4⟩:=h;have hq:=lt_of_act? h1;exact⟨q,by rw[act?_old hq];exact h1,by rw[g?_old hq];exact h2,(heard_old hq).2 h3,λi hi=>let ⟨r,hr,bc⟩:=h4 i hi;⟨r,hu i r hi hr,bc⟩⟩
section
variable[Payload][Xf](P P1:Program)(d:PhD)(s:Script)(t0:Trace)(B0:World)
structure PI(gs:Array Goroutine)(B:World)(j:Nat)(D:Nat->WD)(tag:CTag)(f0 d0:Nat)(a:Goroutine)(q:Nat->Nat)(own lo:Nat->Nat)(S:Nat->Sh)(A:Nat->World)(st sm:Int)(t:Trace):Prop where
 size:gs.size=d.e0+j
 zero:gs[0]?=some a
 start:StS P P1 d s lo tag j f0 d0 a (S 0) (A 0) B
 eld:∀i,0<i->i<d.e0->∃g,gs[i]?=some g/\QuitsD P (q i) (Deaf t i) g
 wk:∀i,i<j->∃g,gs[d.e0+i]?=some g/\WkS P P1 d s i (lo (i+1)) (D i).stage (D i).fuel (D i).deaf g (S (i+1)) (A (i+1)) B
 mem:Mem (Cc P1 P) d j own lo S A B B0
 trc:Trc d j own lo gs.size t0 t B.heap.size D d0
 wg:WgAt d.ty d.Wg B st sm
 mode:ConcN.Mode j D tag st sm
 acq:tag=.ret->nO d j t
 jn:j<=d.n
 dead:∀b,d.dead b->dK B b
def muP(d:PhD)(j:Nat)(D:Nat->WD)(tag:CTag)(f0:Nat)(q:Nat->Nat):Nat×Nat:=(phi d.n (Vc j D) tag+Ssum j D,f0+2*(Fsum j D+sumTo d.e0 q))
def dW(μ:Nat×Nat)(m:Machine)(t:Trace):Prop:=
 ∃gs B sl j D tag f0 d0 a q own lo S A st sm,m=crowd gs B sl/\PI P P1 d s t0 B0 gs B j D tag f0 d0 a q own lo S A st sm t/\μ=muP d j D tag f0 q
end
section
variable[Payload][Xf]{P P1:Program}{d:PhD}{s:Script}{t0:Trace}{B0:World}{gs:Array Goroutine}{B B':World}{sl:Option (Nat×Nat)}{j:Nat}{D:Nat->WD}{tag:CTag}{f0 d0:Nat}{a:Goroutine}{q:Nat->Nat}{own lo:Nat->Nat}{S:Nat->Sh}{A:Nat->World}{st sm:Int}{t:Trace}
theorem PI.xV(h:PI P P1 d s t0 B0 gs B j D tag f0 d0 a q own lo S A st sm t){es:Array Event}(k:Kept es B B'):∀b,d.dead b->dK B' b:=λb hb=>by
 obtain⟨c,e,f,hc⟩:=h.dead b hb;obtain⟨c',h1,_⟩:=k.cell _ _ _ _ hc;exact⟨c',e,f,h1⟩
theorem PI.stepW(hs:gb P P1 d s)(hd:fF d)(h:PI P P1 d s t0 B0 gs B j D tag f0 d0 a q own lo S A st sm t){i:Nat}(hi:i<j){g g':Goroutine}{es:Array Event}(hg:gs[d.e0+i]?=some g)(hgo:stepG P false g B=.go g' B' es){h9:Nat->Nat}{S':Nat->Sh}{A':Nat->World}{s' m' dd':Nat}{st' br:Int}(hM:Mem (Cc P1 P) d j h9 lo S' A' B' B0)(hA:∀p,p<=j->p≠i+1->Bel (A p).heap.size (A p) (A' p)/\(S' p).part=(S p).part)(hRL:RL d.ty d.Wg B B')(hRW:∀i',i'<j->i'≠i->RW d.ty d.Wg d.F d.n 0 i' B B')(cj:WkS P P1 d s i (lo (i+1)) s' m' dd' g' (S' (i+1)) (A' (i+1)) B')(bo:B.heap.size<=B'.heap.size)(a4:∀b,h9 b=own b\/(B.heap.size<=b/\h9 b=i+1))(bh:∀e∈es,EvS d (rts d h9 lo j) (i+1) B'.heap.size e)(d6:deafBehind (D i).deaf es=dd')(b6:s'<=6->∃r,RelBy (stA d.Wg) (t++MemOp.ofEvents (d.e0+i) g.frame.fn g.frame.place es) (d.e0+i) r)(bq:WgAt d.ty d.Wg B' st' br)(b4:∀b,d.dead b->dK B' b)(b5:∀tag',(tag'=tag\/(tag=.blk/\tag'=.w3))->(mayWake P g=true->g'.status=.running->tag'≠.blk)->ConcN.Mode j (upd D i ⟨s',m',dd'⟩) tag' st' br)(bu:tag=.ret->nO d j (t++MemOp.ofEvents (d.e0+i) g.frame.fn g.frame.place es))(h':(s'<(D i).stage/\cnt ⟨s',m',dd'⟩<=cnt (D i))\/(s'=(D i).stage/\m'+1<=(D i).fuel)):∃m₁ ops bg,runT P (crowd gs B sl) (d.e0+i)=(.next m₁,ops)/\Lt2 bg (muP d j D tag f0 q)/\dW P P1 d s t0 B0 bg m₁ (t++ops):=by
 have he:=hd.e0
 have bi:gof d (i+1)=d.e0+i:=by simp[gof]
 have bj:(d.e0+i==0)=false:=ar
 obtain⟨a1,a2⟩:=hA 0 (cG _) ab;obtain⟨tag',f',bn,d8,aw,bf⟩:=(h.start.other hs (hM.lk 0 (cG _)) a1 hRL).wokenBy hs B' g g';have bm:=runT_crowd_go (P:=P) (sl:=sl) (i:=d.e0+i) hg (by rw[bj];exact hgo)
 have b':d.e0+i<gs.size:=by rw[h.size];omega
 refine⟨_,_,muP d j (upd D i ⟨s',m',dd'⟩) tag' f' q,bm,?_,_,B',sl,j,upd D i ⟨s',m',dd'⟩,tag',f',d0,_,q,h9,lo,S',A',st',br,rfl,⟨?_,?_,bn,λk bv hk=>?_,λi' bb=>?_,hM,?_,bq,b5 tag' aw bf,λe=>?_,h.jn,b4⟩,rfl⟩
 .have c1:=sumTo_upd D ⟨s',m',dd'⟩ cnt hi;have c2:=sumTo_upd D ⟨s',m',dd'⟩ WD.stage hi;have c3:=sumTo_upd D ⟨s',m',dd'⟩ WD.fuel hi;simp only at c2 c3;simp only[muP];rw[phi_retag d.n _ aw];simp only[Vc,Ssum,Fsum] at *
  rcases h' with ⟨h1,h2⟩|⟨h1,h2⟩
  .refine Prod.Lex.left _ _ ?_;have:=phi_mono d.n (v':=sumTo j λa=>cnt (upd D i ⟨s',m',dd'⟩ a)) (v:=sumTo j λa=>cnt (D a)) ab tag;omega
  .have ec:cnt (⟨s',m',dd'⟩:WD)=cnt (D i):=by simp only[cnt,h1]
   have ev:(sumTo j λa=>cnt (upd D i ⟨s',m',dd'⟩ a))=sumTo j λa=>cnt (D a):=ab
   have cy:(sumTo j λa=>(upd D i ⟨s',m',dd'⟩ a).stage)=sumTo j λa=>(D a).stage:=ab
   rw[ev,cy];refine Prod.Lex.right _ ?_;omega
 .simp[h.size]
 .rw[get_map_set _ _ _ _ ab,h.zero,eh]
 .obtain⟨x,hx,hq⟩:=h.eld k bv hk;refine⟨x,by rw[get_map_set _ _ _ _ ab,hx,eh,woken_quitsD hq],?_⟩;rw[Deaf_other t ab _ g_of_ofEvents];exact hq
 .by_cases e:i'=i
  .subst e;exact⟨g',get_map_set_same _ _ _ b',by rw[upd_same];exact cj⟩
  .obtain⟨x,hx,bd⟩:=h.wk i' bb;obtain⟨b1,b2⟩:=hA (i'+1) ab ab;refine⟨x,by rw[get_map_set _ _ _ _ ab,hx,eh,bd.woken],?_⟩;rw[upd_ne D _ e];exact bd.other hs (hM.lk _ ab) b1 b2 (hRW i' bb e)
 .have:=h.trc.step (p:=i+1) hd (Gk hM hd) ab (by rw[bi];exact b') bo a4 (λq h1 h2=>(h.mem.oK q h1 h2).2) (by have:=h.mem.size;have:=hd.f;omega) (fn:=g.frame.fn) (pos:=g.frame.place) bh (D':=upd D i ⟨s',m',dd'⟩) (d0':=d0)
   (λk hk=>upd_ne D _ ab) ae (λk hk=>by obtain rfl:i=k:=ab;rw[upd_same];exact d6.symm) (λk hk hs=>by obtain rfl:i=k:=ab;rw[upd_same] at hs;rw[bi];exact b6 hs)
  rw[bi] at this;simpa using this
 simp_all
theorem PI.step0(hs:gb P P1 d s)(hd:fF d)(h:PI P P1 d s t0 B0 gs B j D tag f0 d0 a q own lo S A st sm t){a':Goroutine}{es:Array Event}{tag':CTag}{f':Nat}{st' br:Int}(hgo:stepG P true a B=.go a' B' es){h9:Nat->Nat}{S':Nat->Sh}{A':Nat->World}(hM:Mem (Cc P1 P) d j h9 lo S' A' B' B0)(hA:∀p,p<=j->p≠0->Bel (A p).heap.size (A p) (A' p)/\(S' p).part=(S p).part)(hRW:∀i,i<j->RW d.ty d.Wg d.F d.n 0 i B B')(cj:StS P P1 d s lo tag' j f' (deafBehind d0 es) a' (S' 0) (A' 0) B')(bo:B.heap.size<=B'.heap.size)(a4:∀b,h9 b=own b\/(B.heap.size<=b/\h9 b=0))(bh:∀e∈es,EvS d (rts d h9 lo j) 0 B'.heap.size e)(bq:WgAt d.ty d.Wg B' st' br)(b4:∀b,d.dead b->dK B' b)(b5:ConcN.Mode j D tag' st' br)(bu:tag'=.ret->nO d j (t++MemOp.ofEvents 0 a.frame.fn a.frame.place es))(h':phi d.n (Vc j D) tag'<phi d.n (Vc j D) tag\/(phi d.n (Vc j D) tag'=phi d.n (Vc j D) tag/\f'<f0)):∃m₁ ops bg,runT P (crowd gs B sl) 0=(.next m₁,ops)/\Lt2 bg (muP d j D tag f0 q)/\dW P P1 d s t0 B0 bg m₁ (t++ops):=by
 have he:=hd.e0;have bm:=runT_crowd_go (P:=P) (sl:=sl) (i:=0) h.zero aE;refine⟨_,_,muP d j D tag' f' q,bm,?_,_,B',sl,j,D,tag',f',deafBehind d0 es,a',q,h9,lo,S',A',st',br,rfl,⟨?_,?_,cj,λk bv hk=>?_,λi' bb=>?_,hM,?_,bq,b5,bu,h.jn,b4⟩,rfl⟩
 .simp only[muP];omega
 .simp[h.size]
 .exact get_map_set_same _ _ _ (by rw[h.size];omega)
 .obtain⟨x,hx,hq⟩:=h.eld k bv hk;refine⟨x,by rw[get_map_set _ _ _ _ ab,hx,eh,woken_quitsD hq],?_⟩;rw[Deaf_other t ab _ g_of_ofEvents];exact hq
 .obtain⟨x,hx,bd⟩:=h.wk i' bb;obtain⟨b1,b2⟩:=hA (i'+1) ab ab;exact⟨x,by rw[get_map_set _ _ _ _ ab,hx,eh,bd.woken],bd.other hs (hM.lk _ ab) b1 b2 (hRW i' bb)⟩
 .have:=h.trc.step (p:=0) hd (Gk hM hd) (cG _) (by rw[h.size];simp[gof];omega) bo a4 (λq h1 h2=>(h.mem.oK q h1 h2).2) (by have:=h.mem.size;have:=hd.f;omega) (fn:=a.frame.fn) (pos:=a.frame.place) bh (D':=D) (d0':=deafBehind d0 es)
   (λk _=>rfl) ae (λk hk=>ab) (λk hk=>ab)
  simpa[gof] using this
theorem PI.Sg(hs:gb P P1 d s)(hd:fF d)(h:PI P P1 d s t0 B0 gs B j D tag f0 d0 a q own lo S A st sm t){i:Nat}(d9:0<i)(hi:i<d.e0){g:Goroutine}(hg:gs[i]?=some g)(hr:g.status=.running):∃m₁ ops bg,runT P (crowd gs B sl) i=(.next m₁,ops)/\Lt2 bg (muP d j D tag f0 q)/\dW P P1 d s t0 B0 bg m₁ (t++ops):=by
 obtain⟨g0,ba,hq⟩:=h.eld i d9 hi
 obtain rfl:g=g0:=by rw[hg] at ba;simp_all
 cases cv:q i with
 |zero=>rw[cv] at hq;rw[hq.1] at hr;cases hr
 |succ k=>
  rw[cv] at hq
  rcases hq with ⟨hf,_⟩|⟨_,g',es,hm,ck,dl⟩
  .rw[hf] at hr;cases hr
  have bj:(i==0)=false:=ar
  have hrunT:=runT_crowd_go (P:=P) (sl:=sl) (i:=i) hg (by rw[bj];exact ck B);obtain⟨tag',f',bn,d8,aw,bf⟩:=h.start.wokenBy hs B g g';have b':i<gs.size:=(cY.1 hg).1
  have dp:sumTo d.e0 (upd q i k)+(k+1)=sumTo d.e0 q+k:=by
   have:=sumTo_upd q k id hi;simp_all
  refine⟨_,_,muP d j D tag' f' (upd q i k),hrunT,?_,_,B,sl,j,D,tag',f',d0,_,upd q i k,own,lo,S,A,st,sm,rfl,⟨by simp[h.size],?_,bn,λk' bv hk=>?_,λi' bb=>?_,h.mem,?_,h.wg,h.mode.retag aw,λe=>?_,h.jn,h.dead⟩,rfl⟩
  .simp only[muP];rw[phi_retag d.n _ aw];omega
  .rw[get_map_set _ _ _ _ ab,h.zero,eh]
  .by_cases e:k'=i
   .subst e;exact⟨g',get_map_set_same _ _ _ b',by rw[upd_same,Deaf_own];exact dl⟩
   .obtain⟨x,hx,cw⟩:=h.eld k' bv hk;refine⟨x,by rw[get_map_set _ _ _ _ ab,hx,eh,woken_quitsD cw],?_⟩;rw[upd_ne q k e,Deaf_other t ab _ g_of_ofEvents];exact cw
  .obtain⟨x,hx,bd⟩:=h.wk i' bb;exact⟨x,by rw[get_map_set _ _ _ _ ab,hx,eh,bd.woken],bd⟩
  .have:=h.trc.mute (g:=i) ab hi (by rw[h.size];omega) (fn:=g.frame.fn) (pos:=g.frame.place) hm;simp_all
  .rcases aw with rfl|⟨_,rfl⟩
   .exact (h.acq e).app λi' r bb hr=>hr.appOther g_of_ofEvents ab
   .cases e
theorem PI.at(hs:gb P P1 d s)(h:PI P P1 d s t0 B0 gs B j D tag f0 d0 a q own lo S A st sm t)(k:Nat):PI P P1 d s t0 B0 gs (B.at k) j D tag f0 d0 a q own lo S A st sm t:=by
 have hM:Mem (Cc P1 P) d j own lo S A (B.at k) B0:=⟨λp hp=>(h.mem.lk p hp).drawn k,h.mem.qV,h.mem.oK,h.mem.lS,h.mem.pK,h.mem.pB,h.mem.nN,h.mem.sL,h.mem.sN,h.mem.pay,h.mem.init,h.mem.pL,h.mem.same,h.mem.os,h.mem.output,h.mem.size⟩;exact⟨h.size,h.zero,h.start.other hs (hM.lk 0 (cG _)) (Bel.refl _ _) id,h.eld,λi hi=>let ⟨g,hg,hw⟩:=h.wk i hi;⟨g,hg,hw.other hs (hM.lk _ ab) (Bel.refl _ _) rfl (ConcN.RW.at B k)⟩,hM,h.trc,h.wg,h.mode,h.acq,h.jn,h.dead⟩
end
end Go.Fc
