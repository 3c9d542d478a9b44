/- Lemmas. -/
import Derived.Test.YthpkmilhiganjaaGreatPMc
import Derived.Conc.CrowdRun
import Derived.Test.YthpkmilhiganjaaGreatPMe
import Derived.Conc.CrowdStepC2
set_option linter.unusedSimpArgs false
set_option linter.unusedVariables false
set_option linter.unusedSectionVars false
set_option maxHeartbeats 32000000
set_option maxRecDepth 100000
namespace Go.Fc
open Go Go.Conc
open Go.ConcN (PermW fork_knows RelBy)
structure Rts where
 W:Nat→Loc→Prop
 R:Nat→Loc→Prop
structure Rts.Apart(r:Rts)(Sh:Loc→Prop):Prop where
 one:∀g g' l,r.W g l→g'≠g→¬r.W g' l∧¬r.R g' l
 shW:∀g l,r.W g l→¬Sh l
 shR:∀g l,r.R g l→¬Sh l
structure TrI(Sh:Loc→Prop)(r:Rts)(t:Trace):Prop where
 quiet:Quiet Sh t
 w:∀g l,r.W g l→Perm t g l
 r:∀g l,r.R g l→PermW t g l
 nr:∀said,¬Race said t
def OkR(Sh:Loc→Prop)(r:Rts)(g:Nat)(op:MemOp):Prop:=
 op.g=g∧∀x,op.act.touch?=some x→(Sh x.loc∧x.kind≠.plain∧(x.kind=.said→g=0))∨r.W g x.loc∨(r.R g x.loc∧x.write=false)
section
variable{Sh:Loc→Prop}{r r':Rts}{t u:Trace}{g:Nat}
theorem TrI.app(A:r.Apart Sh)(h:TrI Sh r t)(hu:∀op∈u,OkR Sh r g op):TrI Sh r (t++u):=by
 refine⟨h.quiet.app fun op hop x hx hs=>?_,fun g' l hl=>(h.w g' l hl).app fun op hop b hb e=>?_,fun g' l hl=>(h.r g' l hl).app fun op hop b hb e hw=>?_,fun said=>?_⟩
 ·rcases (hu op hop).2 x hx with ⟨_,hk,hn⟩|hw|⟨hr,_⟩
  ·exact⟨hk,fun e=>(hu op hop).1.trans (hn e)⟩
  ·exact absurd hs (A.shW _ _ hw)
  ·exact absurd hs (A.shR _ _ hr)
 ·rw[(hu op hop).1];by_cases hg:g=g'
  ·exact hg
  rcases (hu op hop).2 b hb with ⟨hs,_⟩|hw|⟨hr,_⟩
  ·exact absurd (e▸hs) (A.shW _ _ hl)
  ·exact absurd (e▸hw) (A.one g' g l hl hg).1
  ·exact absurd (e▸hr) (A.one g' g l hl hg).2
 ·rw[(hu op hop).1];by_cases hg:g'=g
  ·exact hg.symm
  rcases (hu op hop).2 b hb with ⟨hs,_⟩|hw'|⟨_,hr⟩
  ·exact absurd (e▸hs) (A.shR _ _ hl)
  ·exact absurd hl (A.one g g' l (e▸hw') hg).2
  ·rw[hr] at hw;cases hw
 ·refine noRace_append (h.nr said) (fun op hop=>(hu op hop).1) (fun i a ha op hop b hb hc=>?_)
  rcases (hu op hop).2 b hb with ⟨hs,hk,hn⟩|hw|⟨hr,hbw⟩
  ·exact h.quiet.known hs hk hn i a ha hc
  ·exact h.w g b.loc hw i a ha hc.1
  ·exact h.r g b.loc hr i a ha hc.1 (hc.2.2.1.resolve_right (by simp[hbw]))
def um(t:Trace)(l:Loc):Prop:=∀i a,touchAt t i=some a→a.loc≠l
theorem TrI.ck(h:TrI Sh r t)(hW:∀g l,r'.W g l→r.W g l∨um t l)(hR:∀g l,r'.R g l→r.R g l∨r.W g l∨um t l):TrI Sh r' t:=by
 refine⟨h.quiet,fun g l hl=>?_,fun g l hl=>?_,h.nr⟩
 ·rcases hW g l hl with h1|h1
  ·exact h.w g l h1
  ·exact fun i a ha e=>absurd e (h1 i a ha)
 ·rcases hR g l hl with h1|h1|h1
  ·exact h.r g l h1
  ·exact .of (h.w g l h1)
  ·exact fun i a ha e=>absurd e (h1 i a ha)
theorem TrI.fork{k:Nat}(h:TrI Sh r t){x y:MemOp}(hx:x.g=0∧x.act=.go k)(hy:y.g=k∧y.act=.start)(h0:Deaf t 0=0)(hk:Deaf t k=0)(hW:∀g l,r'.W g l→(g≠k∧r.W g l)∨(g=k∧r.W 0 l))(hR:∀g l,r'.R g l→(g≠k∧(r.R g l∨r.W g l))∨(g=k∧(r.R 0 l∨r.W 0 l))):TrI Sh r' (t++#[x,y]):=by
 have hnt:∀op∈#[x,y],∀b,op.act.touch?=some b→False:=by
  intro op hop b hb;simp only[List.mem_toArray,List.mem_cons,List.not_mem_nil,or_false] at hop
  rcases hop with rfl|rfl
  ·rw[hx.2] at hb;cases hb
  ·rw[hy.2] at hb;cases hb
 have old:∀{i:Nat}{a:Touch},touchAt (t++#[x,y]) i=some a→touchAt t i=some a:=by
  intro i a ha;obtain⟨z,hz,hza⟩:=touch_of ha
  rcases getElem?_append_cases hz with ⟨_,hz'⟩|⟨_,hzu⟩
  ·rw[touchAt_of hz'];exact hza
  ·exact (hnt z hzu a hza).elim
 refine⟨h.quiet.app fun op hop b hb _=>(hnt op hop b hb).elim,fun g l hl=>?_,fun g l hl=>?_,fun said=>?_⟩
 ·rcases hW g l hl with ⟨_,h1⟩|⟨rfl,h1⟩
  ·exact (h.w g l h1).app fun op hop b hb _=>(hnt op hop b hb).elim
  ·exact fun i a ha e=>fork_knows hx hy h0 hk (h.w 0 l h1 i a (old ha) e)
 ·rcases hR g l hl with ⟨_,h1⟩|⟨rfl,h1⟩
  ·exact (h1.elim (h.r g l) fun h1=>.of (h.w g l h1)).app fun op hop b hb _ _=>(hnt op hop b hb).elim
  ·exact fun i a ha e hw=>fork_knows hx hy h0 hk ((h1.elim (h.r 0 l) fun h1=>.of (h.w 0 l h1)) i a (old ha) e hw)
 ·have e:t++#[x,y]=(t++#[x])++#[y]:=by apply Array.ext';simp
  rw[e];refine noRace_append (g:=k) (noRace_append (g:=0) (h.nr said) (fun op hop=>by simp at hop;rw[hop];exact hx.1) (fun i a _ op hop b hb _=>(hnt op (by simp at hop ⊢;exact .inl hop) b hb).elim))
   (fun op hop=>by simp at hop;rw[hop];exact hy.1) (fun i a _ op hop b hb _=>(hnt op (by simp at hop ⊢;exact .inr hop) b hb).elim)
end
theorem BR{B:Nat}{m:MemAct}(h:m.low B){x:Touch}(hx:m.touch?=some x):x.loc.low B:=by
 cases m with
 |access e=>simp only[MemAct.touch?,Option.some.injEq] at hx;subst hx;exact h
 |mark k=>cases k<;>simp only[MemAct.touch?,Option.some.injEq,reduceCtorEq] at hx<;>subst hx<;>exact h
 |_=>simp[MemAct.touch?] at hx
theorem IX{B:Nat}{t:Trace}(h:∀op∈t,op.act.low B){a:Addr}(ha:B≤a.block):um t (.cell a):=by
 intro i x hx e;obtain⟨op,ho,hox⟩:=touch_of hx;have:=BR (h op (Array.mem_of_getElem? ho)) hox;rw[e] at this;exact absurd this (by show ¬a.block<B;omega)
def EH(Wk:Nat→Prop)(Wg:Nat)(op:MemOp):Prop:=op.g=0∨op.act.touch?=none∨(Wk op.g∧∀x,op.act.touch?=some x→x.kind=.atomic→∃a,x.loc=.cell a∧a.block=Wg)
def PhT(Wk:Nat→Prop)(Wg n0:Nat)(t:Trace):Prop:=∀i op,n0≤i→t[i]?=some op→EH Wk Wg op
theorem PhT.app{Wk Wk':Nat→Prop}{Wg n0:Nat}{t u:Trace}(h:PhT Wk Wg n0 t)(hw:∀g,Wk g→Wk' g)(hu:∀op∈u,EH Wk' Wg op):PhT Wk' Wg n0 (t++u):=by
 intro i op hi ho
 rcases getElem?_append_cases ho with ⟨_,ho'⟩|⟨_,hou⟩
 ·exact (h i op hi ho').imp id fun x=>x.imp id fun x=>⟨hw _ x.1,x.2⟩
 ·exact hu op hou
theorem IY{Shun:Loc→Prop}{B0 B Wg q:Nat}{t0 t u:Trace}{Wk:Nat→Prop}(hP:Past Shun B0 t0)(ht:t=t0++u)(nr:∀said,¬Race said t)(hph:PhT Wk Wg t0.size t)(hn:NoRelease (ConcR.stA Wg) t)(hq:t.act? q=some (.mark (.acquire (ConcR.stA Wg))))(hg:t.g? q=some 0)(hh:t.heard q)(hrel:∀g,Wk g→∃r,RelBy (ConcR.stA Wg) t g r∧r<q)(hd:Deaf t 0=0)(hl:∀op∈t,op.act.low B):Past (fun l=>Shun l∨∃a,l=.cell a∧a.block=Wg) B t:=by
 obtain⟨z,hz,hzg⟩:=Option.map_eq_some_iff.1 hg
 have edge:∀g r,RelBy (ConcR.stA Wg) t g r→r<q→HappensBefore t r q:=fun g r hr hrq=>.single (.inr ⟨.marked hrq (.inr hr.act) hq (fun k _ _=>hn k),hr.heard,hh⟩)
 have before:∀i g r,t.g? i=some g→RelBy (ConcR.stA Wg) t g r→r<q→i≤r→HappensBefore t i q:=fun i g r hgi hr hrq hle=>by
  rcases Nat.lt_or_ge i r with hlt|hge
  ·exact .trans (.single (.inl ⟨hlt,g,hgi,hr.g⟩)) (edge g r hr hrq)
  ·obtain rfl:i=r:=by omega
   exact edge g i hr hrq
 refine⟨nr,fun i a ha hm=>?_,fun i g hgi hne hc=>?_,hd,hl⟩
 ·obtain⟨x,hx,hxa⟩:=touch_of ha
  rcases Nat.lt_or_ge i t0.size with hlt|hge
  ·have ha0:touchAt t0 i=some a:=by rw[ht,touchAt_old hlt] at ha;exact ha
   exact (hP.known i a ha0 hm).imp (fun h=>ht▸h.app u) fun h=>⟨.inl h.1,h.2⟩
  ·rcases hph i x hge hx with e|e|⟨hw,hat⟩
   ·have:=knows_own hx;rw[e] at this;exact .inl this
   ·rw[e] at hxa;cases hxa
   ·obtain⟨r,hr,hrq⟩:=hrel _ hw
    have hgi:t.g? i=some x.g:=by simp[Trace.g?,hx]
    rcases Nat.lt_or_ge r i with hlt|hle
    ·have hnc:=hr.after i hlt hgi
     have hk:a.kind=.atomic:=by
      by_cases hk:a.kind=.atomic
      ·exact hk
      ·exact absurd ⟨a,ha,hm,.inl hk⟩ hnc
     exact .inr ⟨.inr (hat a hxa hk),hk⟩
    ·exact .inl ⟨q,z,hz,hzg,.inr (before i _ r hgi hr hrq hle)⟩
 ·rcases Nat.lt_or_ge i t0.size with hlt|hge
  ·obtain⟨j,hj,hb⟩:=hP.over i g (by rw[ht] at hgi;simpa[Trace.g?,getElem?_append_old hlt] using hgi) hne ((counts_old (u:=u) hlt).1 (ht▸hc))
   have hjl:j<t0.size:=by
    unfold Trace.g? at hj;obtain⟨y,hy,_⟩:=Option.map_eq_some_iff.1 hj;exact lt_size_of_getElem? hy
   exact⟨j,by rw[ht];simpa[Trace.g?,getElem?_append_old hjl] using hj,ht▸hb_app u hb⟩
  ·obtain⟨op,ho,hog⟩:=Option.map_eq_some_iff.1 hgi
   rcases hph i op hge ho with e|e|⟨hw,_⟩
   ·exact absurd (hog.symm.trans e) hne
   ·obtain⟨a,ha,_⟩:=hc;have ha2:touchAt t i=some a:=ha;rw[touchAt_of ho,e] at ha2;cases ha2
   ·rw[hog] at hw;obtain⟨r,hr,hrq⟩:=hrel _ hw
    have hle:i≤r:=Nat.le_of_not_lt fun hlt=>hr.after i hlt hgi hc
    exact⟨q,hg,before i g r hgi hr hrq hle⟩
end Go.Fc
namespace Go.Fc
open Go Go.Conc Go.Fi
def isCells:Obj→Prop
 |.cells ..=>True
 |_=>False
def nE:Obj→Obj
 |.cells _ e f=>.cells #[] e f
 |o=>o
def bI(B:World)(b:Nat):Prop:=∃c e f,B.heap[b]?=some (.cells c e f)
def Sh.grown(S:Sh)(B B':World):Sh:=⟨fun b=>S.dead b∨(B.heap.size≤b∧bI B' b),S.part,S.old⟩
def iR(A B':World):World:={ A with heap:=A.heap++(B'.heap.extract A.heap.size B'.heap.size).map nE }
section
variable{C:Cx}{S:Sh}{A B B':World}{es:Array Event}
theorem BS(h:A.heap.size≤B'.heap.size):(iR A B').heap.size=B'.heap.size:=by
 simp[iR];omega
theorem xD{b:Nat}(hb:b<A.heap.size):(iR A B').heap[b]?=A.heap[b]?:=by
 simp[iR,Array.getElem?_append,hb]
theorem BT{b:Nat}(hb:A.heap.size≤b):(iR A B').heap[b]?=(B'.heap[b]?).map nE:=by
 simp only[iR];rw[Array.getElem?_append_right hb,Array.getElem?_map,Array.getElem?_extract];by_cases hl:b<B'.heap.size
 ·rw[if_pos (by omega),show A.heap.size+(b-A.heap.size)=b by omega]
 ·rw[if_neg (by omega),Array.getElem?_eq_none (by omega)]
theorem og:Bel A.heap.size A (iR A B'):=⟨rfl,rfl,by simp[iR],fun k hk=>xD hk⟩
theorem Lk.other(h:Lk C S A B)(k:Kept es B B')(hw:∀e∈es,e.write=true→∃a,e.loc=.cell a∧(bI B a.block→S.dead a.block∨S.part a.block a.off))(hn:∀b o,B.heap.size≤b→B'.heap[b]?=some o→okO C o):Lk C (S.grown B B') (iR A B') B':=by
 have hs:A.heap.size≤B'.heap.size:=by rw[h.size];exact k.size
 refine⟨BS hs,fun b hb=>?_,fun b hb=>?_,fun b hb=>?_,by show A.os=_;rw[k.os];exact h.os,by show A.output=_;rw[k.output];exact h.output⟩
 ·rw[BS hs]
  rcases hb with hb|⟨_,c,e,f,hc⟩
  ·have:=h.low b hb;omega
  ·exact (Array.getElem?_eq_some_iff.1 hc).1
 ·have hd:¬S.dead b:=fun x=>hb (.inl x)
  rcases Nat.lt_or_ge b A.heap.size with hlt|hge
  ·rw[xD hlt]
   have hltB:b<B.heap.size:=by rw[←h.size];exact hlt
   by_cases hc:bI B b
   ·obtain⟨c,e,f,hc⟩:=hc;obtain⟨c',h1,h2,h3⟩:=k.cell b c e f hc
    have h3':∀i,¬S.part b i→c'[i]?=c[i]?:=fun i hi=>h3 i fun ev hev hwr a ha hab hoff=>by
     obtain⟨a',ha',hq⟩:=hw ev hev hwr;rw[ha] at ha';cases ha';rw[hab] at hq
     rcases hq ⟨c,e,f,hc⟩ with hq|hq
     ·exact hd hq
     ·rw[hoff] at hq;exact hi hq
    refine .inr (.inr ?_)
    rcases h.same b hd with ⟨e1,_⟩|⟨o,h4,h5,_⟩|⟨cA,cB,e',f',h4,h5,h6,h7⟩
    ·exact⟨c,c',e,f,e1.trans hc,h1,h2.symm,fun i hi=>(h3' i hi).symm⟩
    ·rw[hc] at h4;cases h4;exact absurd trivial h5
    ·rw[hc] at h5;cases h5;exact⟨cA,c',e,f,h4,h1,h6.trans h2.symm,fun i hi=>(h7 i hi).trans (h3' i hi).symm⟩
   ·have hB:B'.heap[b]?=B.heap[b]?:=by
     refine k.obj b hltB (.inl fun c ty fr hx=>hc ⟨c,ty,fr,hx⟩) (fun e he hwr ho=>?_)
     ·obtain⟨a',ha',_⟩:=hw e he hwr;rw[ho] at ha';cases ha'
    rw[hB];exact h.same b hd
  ·rw[BT hge]
   rcases hx:B'.heap[b]? with _|o
   ·exact .inl ⟨rfl,fun o e=>by cases e⟩
   ·have hnc:¬isCells o:=fun hcl=>by
     cases o<;>first|exact hcl.elim|skip
     exact hb (.inr ⟨by rw[←h.size];exact hge,_,_,_,hx⟩)
    have ho:=hn b o (by rw[←h.size];exact hge) hx
    have he:nE o=o:=by cases o<;>first|rfl|exact absurd trivial hnc
    exact .inl ⟨by simp[he],fun o' e=>by simp[he] at e;exact e▸ho⟩
 ·rcases hb with hb|⟨hge,c,e,f,hc⟩
  ·obtain⟨c,e,f,h1,h2⟩:=h.dead b hb;obtain⟨c',h3,_⟩:=k.cell b c e f h2;exact⟨c',e,f,by rw[xD (h.low b hb)];exact h1,h3⟩
  ·exact⟨c,e,f,by rw[BT (by rw[h.size];exact hge),hc];rfl,hc⟩
theorem Lk.drawn(h:Lk C S A B)(d:Nat):Lk C S A (B.at d):=⟨h.size,h.low,h.same,h.dead,h.os,h.output⟩
theorem Lk.fresh(h:Lk C S A B){part:Nat→Nat→Prop}(hp:∀b i,S.part b i→¬part b i→∀cA cB e f,A.heap[b]?=some (.cells cA e f)→B.heap[b]?=some (.cells cB e f)→cA[i]?=cB[i]?):Lk C ⟨S.dead,part,S.old⟩ A B:=by
 refine⟨h.size,h.low,fun b hb=>?_,h.dead,h.os,h.output⟩
 rcases h.same b hb with x|x|⟨cA,cB,e,f,h1,h2,h3,h4⟩
 ·exact .inl x
 ·exact .inr (.inl x)
 ·refine .inr (.inr ⟨cA,cB,e,f,h1,h2,h3,fun i hi=>?_⟩);by_cases hq:S.part b i
  ·exact hp b i hq hi cA cB e f h1 h2
  ·exact h4 i hq
theorem Lk.EI(h:Lk C S A B){a:Addr}{v:Value}(hc:A.cell? a=some v)(hp:¬S.part a.block a.off):B.cell? a=some v:=(h.cell hc hp).2.2
open Classical in
noncomputable def mkA(C:Cx)(dead:Nat→Prop)(B:World):World:=
 { B with heap:=B.heap.mapIdx fun b o=>if dead b then nE o else if okO C o then o else gn b o }
variable{dead:Nat→Prop}
theorem cE:(mkA C dead B).heap.size=B.heap.size:=by simp[mkA]
theorem jV{b:Nat}(hd:dead b):(mkA C dead B).heap[b]?=(B.heap[b]?).map nE:=by
 simp only[mkA,Array.getElem?_mapIdx,if_pos hd]
theorem jh{b:Nat}{o:Obj}(hd:¬dead b)(h:B.heap[b]?=some o)(ho:okO C o):(mkA C dead B).heap[b]?=some o:=by
 simp only[mkA,Array.getElem?_mapIdx,h,if_neg hd,Option.map_some,if_pos ho]
theorem lG{b:Nat}{o:Obj}(hd:¬dead b)(h:B.heap[b]?=some o)(ho:¬okO C o):(mkA C dead B).heap[b]?=some (gn b o):=by
 simp only[mkA,Array.getElem?_mapIdx,h,if_neg hd,Option.map_some,if_neg ho]
theorem pQ{b:Nat}(h:B.heap[b]?=none):(mkA C dead B).heap[b]?=none:=by
 simp only[mkA,Array.getElem?_mapIdx,h,Option.map_none]
theorem sS{old:Nat→Obj→Prop}{part:Nat→Nat→Prop}(hd:∀b,dead b→bI B b)(ho:∀b o,¬dead b→B.heap[b]?=some o→¬okO C o→old b o):Lk C ⟨dead,part,old⟩ (mkA C dead B) B:=by
 refine⟨cE,fun b hb=>?_,fun b hb=>?_,fun b hb=>?_,rfl,rfl⟩
 ·obtain⟨c,e,f,h⟩:=hd b hb;rw[cE];exact (Array.getElem?_eq_some_iff.1 h).1
 ·have hb:¬dead b:=hb
  rcases hx:B.heap[b]? with _|o
  ·exact .inl ⟨pQ hx,fun o e=>by rw[pQ hx] at e;cases e⟩
  ·by_cases hk:okO C o
   ·exact .inl ⟨jh hb hx hk,fun o' e=>by rw[jh hb hx hk] at e;cases e;exact hk⟩
   ·exact .inr (.inl ⟨o,rfl,hk,lG hb hx hk,ho b o hb hx hk⟩)
 ·obtain⟨c,e,f,h⟩:=hd b hb;have hb:dead b:=hb;exact⟨c,e,f,by rw[jV hb,h];rfl,h⟩
theorem mV{b:Nat}{c:Array Value}{e:TypeId}{f:Nat×Nat}(hd:¬dead b)(h:B.heap[b]?=some (.cells c e f)):(mkA C dead B).heap[b]?=some (.cells c e f):=jh hd h trivial
theorem sT{a:Addr}{v:Value}(hd:¬dead a.block)(h:B.cell? a=some v):(mkA C dead B).cell? a=some v:=by
 unfold World.cell? at h
 rcases hx:B.heap[a.block]? with _|o
 ·rw[hx] at h;cases h
 ·rw[hx] at h
  cases o<;>first|cases h|skip
  unfold World.cell?;rw[mV hd hx];exact h
end
end Go.Fc
namespace Go.Fc
open Go Go.Conc Go.Fi
open Go.ConcN (PayAt Has RW AsideCell WgLive)
open Go.ConcR (KK WgAt stA smA Payload)
structure PhD where
 ty:TypeId
 Wg:Nat
 F:Nat
 n:Nat
 lo0:Nat
 e0:Nat
 dead:Nat→Prop
 v0:Value
structure dc(d:PhD):Prop where
 wg:d.Wg<d.lo0
 f:d.F<d.lo0
 ne:d.F≠d.Wg
 dead:∀b,d.dead b→b<d.lo0∧b≠d.F∧b≠d.Wg
 e0:1≤d.e0
 n:d.n<2147483648
def slot(d:PhD)(p:Nat):Nat:=if p=0 then d.n else p-1
theorem I5{d:PhD}{p q:Nat}(hp:p≤d.n)(hq:q≤d.n)(h:p≠q):slot d p≠slot d q:=by unfold slot;split<;>split<;>omega
structure Mem[Payload](C:Cx)(d:PhD)(j:Nat)(own lo:Nat→Nat)(S:Nat→Sh)(A:Nat→World)(B B0:World):Prop where
 lk:∀p,p≤j→Lk C (S p) (A p) B
 nG:∀b,own b≠0→d.lo0≤b∧b<B.heap.size∧own b≤j
 kU:∀p,1≤p→p≤j→d.lo0≤lo p∧lo p≤B.heap.size
 iC:∀p,p≤j→∀b,d.dead b∨b=d.Wg→(S p).dead b
 mf:∀p,p≤j→∀b,bI B b→own b≠p→(own b≠0∨(1≤p∧lo p≤b))→(S p).dead b
 ma:∀p,p≤j→∀b o,(S p).old b o→b<d.lo0
 jA:∀p,p≤j→∀b k,(S p).part b k→b=d.F
 oS:∀p,p≤j→∀k,k≠slot d p→(S p).part d.F k
 oT:¬(S 0).part d.F d.n
 pay:PayAt d.F d.n B
 init:∀i,j≤i→i<d.n→B.cell? ⟨d.F,i,none⟩=some d.v0
 mg:∀b o,d.lo0≤b→B.heap[b]?=some o→okO C o
 same:∀b,b<d.lo0→b≠d.F→b≠d.Wg→B.heap[b]?=B0.heap[b]?
 os:B.os=B0.os
 output:B.output=B0.output
 size:d.lo0≤B.heap.size
theorem Kept.back{es:Array Event}{B B':World}(k:Kept es B B')(h:∀e∈es,e.write=true→∃a,e.loc=.cell a){b:Nat}(hb:b<B.heap.size)(hc:bI B' b):bI B b:=by
 by_cases hx:bI B b
 ·exact hx
 ·have:=k.obj b hb (.inl fun c ty fr e=>hx ⟨c,ty,fr,e⟩) fun e he hw ho=>by
   obtain⟨a,ha⟩:=h e he hw;rw[ho] at ha;cases ha
  obtain⟨c,e,f,h1⟩:=hc;exact⟨c,e,f,this▸h1⟩
theorem bI.lt{B:World}{b:Nat}(h:bI B b):b<B.heap.size:=let ⟨_,_,_,h⟩:=h;(Array.getElem?_eq_some_iff.1 h).1
def oU(d:PhD)(own lo:Nat→Nat)(j p:Nat)(B:World)(es:Array Event):Prop:=
 ∀e∈es,e.write=true→∃a,e.loc=.cell a∧(a.block=d.Wg∨(a.block=d.F∧a.off=slot d p)∨(d.lo0≤a.block∧(bI B a.block→own a.block=p∧(p=0→∀q,1≤q→q≤j→lo q≤a.block))))
section
variable[Payload]{C:Cx}{d:PhD}{j:Nat}{own lo:Nat→Nat}{S:Nat→Sh}{A:Nat→World}{B B' B0:World}{es:Array Event}{p:Nat}
theorem Mem.EJ(h:Mem C d j own lo S A B B0)(hj:j≤d.n)(hp:p≤j)(hw:oU d own lo j p B es){q:Nat}(hq:q≤j)(hqp:q≠p):∀e∈es,e.write=true→∃a,e.loc=.cell a∧(bI B a.block→(S q).dead a.block∨(S q).part a.block a.off):=by
 intro e he hwr;obtain⟨a,ha,hc⟩:=hw e he hwr;refine⟨a,ha,fun hcl=>?_⟩
 rcases hc with hc|⟨hc,ho⟩|⟨hl,hc⟩
 ·exact .inl (h.iC q hq _ (.inr hc))
 ·exact .inr (by rw[hc];exact h.oS q hq _ (by rw[ho];exact I5 (by omega) (by omega) (Ne.symm hqp)))
 ·obtain⟨h1,h2⟩:=hc hcl;refine .inl (h.mf q hq _ hcl (by rw[h1];exact Ne.symm hqp) ?_);by_cases hp0:p=0
  ·exact .inr ⟨by omega,h2 hp0 q (by omega) hq⟩
  ·exact .inl (by rw[h1];exact hp0)
theorem Mem.a8(h:Mem C d j own lo S A B B0)(hd:dc d)(hj:j≤d.n)(hp:p≤j)(k:Kept es B B')(hw:oU d own lo j p B es):PayAt d.F d.n B'∧(∀i,j≤i→i<d.n→B'.cell? ⟨d.F,i,none⟩=some d.v0)∧(∀b,b<d.lo0→b≠d.F→b≠d.Wg→B'.heap[b]?=B.heap[b]?):=by
 obtain⟨cF,hF,hn⟩:=h.pay;obtain⟨c',h1,h2,h3⟩:=k.cell _ _ _ _ hF;refine⟨⟨c',h1,h2.trans hn⟩,fun i hji hi=>?_,fun b hb hbF hbW=>?_⟩
 ·have e0:=h.init i hji hi;unfold World.cell? at e0 ⊢;rw[hF] at e0;rw[h1];refine Eq.trans ?_ e0
  refine h3 i fun e he hwr a ha hab hoff=>?_
  obtain⟨a',ha',hc⟩:=hw e he hwr;rw[ha] at ha';cases ha'
  rcases hc with hc|⟨_,ho⟩|⟨hl,_⟩
  ·exact hd.ne (hab▸hc)
  ·unfold slot at ho
   split at ho<;>omega
  ·have:=hd.f;omega
 ·refine k.obj b (by have:=h.size;omega) (.inr fun e he hwr a ha hab=>?_) fun e he hwr ho=>?_
  ·obtain⟨a',ha',hc⟩:=hw e he hwr;rw[ha] at ha';cases ha'
   rcases hc with hc|⟨hc,_⟩|⟨hl,_⟩<;>omega
  ·obtain⟨a',ha',_⟩:=hw e he hwr;rw[ho] at ha';cases ha'
theorem Mem.EK(h:Mem C d j own lo S A B B0)(hd:dc d)(hj:j≤d.n)(hp:p≤j)(k:Kept es B B')(hw:oU d own lo j p B es){Sp:Sh}{Ap:World}(hlk:Lk C Sp Ap B')(e1:Sp.dead=(S p).dead)(e2:Sp.part=(S p).part)(e3:Sp.old=(S p).old):Mem C d j (fun b=>if B.heap.size≤b∧b<B'.heap.size then p else own b) lo (fun q=>if q=p then Sp else (S q).grown B B') (fun q=>if q=p then Ap else iR (A q) B') B' B0:=by
 have hwc:∀e∈es,e.write=true→∃a,e.loc=.cell a:=fun e he hwr=>let ⟨a,ha,_⟩:=hw e he hwr;⟨a,ha⟩
 have hnew:∀b o,B.heap.size≤b→B'.heap[b]?=some o→okO C o:=fun b o hb ho=>by
  have hnd:¬Sp.dead b:=fun hx=>by
   rw[e1] at hx;have:=(h.lk p hp).low b hx;rw[(h.lk p hp).size] at this;omega
  rcases hlk.same b hnd with ⟨e,hk⟩|⟨o',h1,_,_,h2⟩|⟨_,_,_,_,_,h1,_⟩
  ·exact hk o (e.trans ho)
  ·rw[e3] at h2;have:=h.ma p hp b o' h2;have:=h.size;omega
  ·rw[ho] at h1;cases h1;trivial
 obtain⟨k1,k2,k3⟩:=h.a8 hd hj hp k hw;have hsz:=k.size;refine⟨fun q hq=>?_,fun b hb=>?_,fun q h1 h2=>?_,fun q hq b hb=>?_,fun q hq b hc hne hor=>?_,fun q hq b o ho=>?_,fun q hq b kk hk=>?_,fun q hq kk hk=>?_,?_,k1,k2,fun b o hb ho=>?_,fun b h1 h2 h3=>(k3 b h1 h2 h3).trans (h.same b h1 h2 h3),k.os.trans h.os,k.output.trans h.output,by have:=h.size;omega⟩
 ·by_cases e:q=p
  ·subst e;simp only[if_true];exact hlk
  ·simp only[if_neg e];exact (h.lk q hq).other k (h.EJ hj hp hw hq e) hnew
 ·by_cases hn:B.heap.size≤b∧b<B'.heap.size
  ·rw[if_pos hn] at hb ⊢;exact⟨by have:=h.size;omega,hn.2,hp⟩
  ·rw[if_neg hn] at hb ⊢;obtain⟨a1,a2,a3⟩:=h.nG b hb;exact⟨a1,by omega,a3⟩
 ·have:=h.kU q h1 h2;omega
 ·by_cases e:q=p
  ·subst e;simp only[if_true];rw[e1];exact h.iC q hq b hb
  ·simp only[if_neg e];exact .inl (h.iC q hq b hb)
 ·rcases Nat.lt_or_ge b B.heap.size with hlt|hge
  ·have hn:¬(B.heap.size≤b∧b<B'.heap.size):=by omega
   rw[if_neg hn] at hne hor;have:=h.mf q hq b (k.back hwc hlt hc) hne hor;by_cases e:q=p
   ·subst e;simp only[if_true];rw[e1];exact this
   ·simp only[if_neg e];exact .inl this
  ·rw[if_pos ⟨hge,hc.lt⟩] at hne hor;rw[if_neg (Ne.symm hne)];exact .inr ⟨hge,hc⟩
 ·by_cases e:q=p
  ·subst e;simp only[if_true] at ho;rw[e3] at ho;exact h.ma q hq b o ho
  ·simp only[if_neg e] at ho;exact h.ma q hq b o ho
 ·by_cases e:q=p
  ·subst e;simp only[if_true] at hk;rw[e2] at hk;exact h.jA q hq b kk hk
  ·simp only[if_neg e] at hk;exact h.jA q hq b kk hk
 ·by_cases e:q=p
  ·subst e;simp only[if_true];rw[e2];exact h.oS q hq kk hk
  ·simp only[if_neg e];exact h.oS q hq kk hk
 ·by_cases e:0=p
  ·subst e;simp only[if_true];rw[e2];exact h.oT
  ·simp only[if_neg e];exact h.oT
 ·rcases Nat.lt_or_ge b B.heap.size with hlt|hge
  ·by_cases hc:bI B' b
   ·obtain⟨c,e,f,hc⟩:=hc;rw[ho] at hc;cases hc;trivial
   ·have:B'.heap[b]?=B.heap[b]?:=by
     by_cases hx:bI B b
     ·obtain⟨c,e,f,hx⟩:=hx;obtain⟨c',hx',_⟩:=k.cell _ _ _ _ hx;exact absurd ⟨_,_,_,hx'⟩ hc
     ·exact k.obj b hlt (.inl fun c ty fr e=>hx ⟨c,ty,fr,e⟩) fun e he hw' ho=>by
       obtain⟨a,ha⟩:=hwc e he hw';rw[ho] at ha;cases ha
    exact h.mg b o hb (this▸ho)
  ·exact hnew b o hge ho
theorem Mem.lib(h:Mem C d j own lo S A B B0)(hd:dc d)(hj:j≤d.n)(hp:p≤j)(k:Kept es B B')(hsz:B'.heap.size=B.heap.size)(hw:∀e∈es,e.write=true→∃a,e.loc=.cell a∧(a.block=d.Wg∨(a.block=d.F∧a.off=slot d p∧(S p).part d.F (slot d p)))):Mem C d j own lo (fun q=>(S q).grown B B') (fun q=>iR (A q) B') B' B0:=by
 have hw':oU d own lo j p B es:=fun e he hwr=>let ⟨a,ha,hc⟩:=hw e he hwr;⟨a,ha,hc.imp id fun x=>.inl ⟨x.1,x.2.1⟩⟩
 have hwc:∀e∈es,e.write=true→∃a,e.loc=.cell a:=fun e he hwr=>let ⟨a,ha,_⟩:=hw e he hwr;⟨a,ha⟩
 have hnew:∀b o,B.heap.size≤b→B'.heap[b]?=some o→okO C o:=fun b o hb ho=>by
  have:=(Array.getElem?_eq_some_iff.1 ho).1;omega
 obtain⟨k1,k2,k3⟩:=h.a8 hd hj hp k hw';refine⟨fun q hq=>(h.lk q hq).other k (fun e he hwr=>?_) hnew,fun b hb=>?_,fun q h1 h2=>?_,fun q hq b hb=>.inl (h.iC q hq b hb),fun q hq b hc hne hor=>.inl (h.mf q hq b (k.back hwc (by rw[←hsz];exact hc.lt) hc) hne hor),h.ma,h.jA,h.oS,h.oT,k1,k2,fun b o hb ho=>?_,fun b h1 h2 h3=>(k3 b h1 h2 h3).trans (h.same b h1 h2 h3),k.os.trans h.os,k.output.trans h.output,by have:=h.size;omega⟩
 ·by_cases hqp:q=p
  ·subst hqp;obtain⟨a,ha,hc⟩:=hw e he hwr;refine⟨a,ha,fun _=>?_⟩
   rcases hc with hc|⟨hc,ho,hs⟩
   ·exact .inl (h.iC q hq _ (.inr hc))
   ·exact .inr (by rw[hc,ho];exact hs)
  ·exact h.EJ hj hp hw' hq hqp e he hwr
 ·have:=h.nG b hb;omega
 ·have:=h.kU q h1 h2;omega
 ·by_cases hc:bI B' b
  ·obtain⟨c,e,f,hc⟩:=hc;rw[ho] at hc;cases hc;trivial
  ·have hlt:b<B.heap.size:=by rw[←hsz];exact (Array.getElem?_eq_some_iff.1 ho).1
   have:B'.heap[b]?=B.heap[b]?:=by
    by_cases hx:bI B b
    ·obtain⟨c,e,f,hx⟩:=hx;obtain⟨c',hx',_⟩:=k.cell _ _ _ _ hx;exact absurd ⟨_,_,_,hx'⟩ hc
    ·exact k.obj b hlt (.inl fun c ty fr e=>hx ⟨c,ty,fr,e⟩) fun e he hw' ho=>by
      obtain⟨a,ha⟩:=hwc e he hw';rw[ho] at ha;cases ha
   exact h.mg b o hb (this▸ho)
theorem Mem.spawn(h:Mem C d j own lo S A B B0)(hd:dc d)(hj:j<d.n)(hdead:∀b,d.dead b∨b=d.Wg→bI B b):Mem C d (j+1) own (fun q=>if q=j+1 then B.heap.size else lo q) (fun q=>if q=j+1 then ⟨fun b=>d.dead b∨b=d.Wg∨(own b≠0∧bI B b),fun b k=>b=d.F∧k≠j,fun b o=>b<d.lo0∧B.heap[b]?=some o⟩ else S q) (fun q=>if q=j+1 then mkA C (fun b=>d.dead b∨b=d.Wg∨(own b≠0∧bI B b)) B else A q) B B0:=by
 refine⟨fun q hq=>?_,fun b hb=>?_,fun q h1 h2=>?_,fun q hq b hb=>?_,fun q hq b hc hne hor=>?_,fun q hq b o ho=>?_,fun q hq b kk hk=>?_,fun q hq kk hk=>?_,by simp only[show (0:Nat)≠j+1 by omega,if_false];exact h.oT,h.pay,fun i h1 h2=>h.init i (by omega) h2,h.mg,h.same,h.os,h.output,h.size⟩
 ·by_cases e:q=j+1
  ·subst e;simp only[if_true];refine sS (fun b hb=>?_) (fun b o hnd ho hbad=>⟨?_,ho⟩)
   ·rcases hb with hb|hb|⟨_,hb⟩
    ·exact hdead b (.inl hb)
    ·exact hdead b (.inr hb)
    ·exact hb
   ·rcases Nat.lt_or_ge b d.lo0 with hlt|hge
    ·exact hlt
    ·exact absurd (h.mg b o hge ho) hbad
  ·simp only[if_neg e];exact h.lk q (by omega)
 ·obtain⟨a1,a2,a3⟩:=h.nG b hb;exact⟨a1,a2,by omega⟩
 ·by_cases e:q=j+1
  ·subst e;simp only[if_true];exact⟨h.size,Nat.le_refl _⟩
  ·simp only[if_neg e];exact h.kU q h1 (by omega)
 ·by_cases e:q=j+1
  ·subst e;simp only[if_true];exact hb.imp id .inl
  ·simp only[if_neg e];exact h.iC q (by omega) b hb
 ·by_cases e:q=j+1
  ·subst e;simp only[if_true] at hor ⊢
   rcases hor with hor|⟨_,hor⟩
   ·exact .inr (.inr ⟨hor,hc⟩)
   ·have:=hc.lt;omega
  ·simp only[if_neg e] at hor ⊢;exact h.mf q (by omega) b hc hne hor
 ·by_cases e:q=j+1
  ·subst e;simp only[if_true] at ho;exact ho.1
  ·simp only[if_neg e] at ho;exact h.ma q (by omega) b o ho
 ·by_cases e:q=j+1
  ·subst e;simp only[if_true] at hk;exact hk.1
  ·simp only[if_neg e] at hk;exact h.jA q (by omega) b kk hk
 ·by_cases e:q=j+1
  ·subst e;simp only[if_true];exact⟨trivial,by simpa[slot] using hk⟩
  ·simp only[if_neg e];exact h.oS q (by omega) kk hk
theorem Mem.toChild(h:Mem C d j own lo S A B B0){a:Addr}{v:Value}(hF:a.block≠d.F)(hc:(A 0).cell? a=some v):(mkA C (fun b=>d.dead b∨b=d.Wg∨(own b≠0∧bI B b)) B).cell? a=some v:=by
 obtain⟨hnd,_,hB⟩:=(h.lk 0 (Nat.zero_le _)).cell hc fun hp=>hF (h.jA 0 (Nat.zero_le _) _ _ hp)
 refine sT (fun hd=>?_) hB
 rcases hd with hd|hd|⟨h1,h2⟩
 ·exact hnd (h.iC 0 (Nat.zero_le _) _ (.inl hd))
 ·exact hnd (h.iC 0 (Nat.zero_le _) _ (.inr hd))
 ·exact hnd (h.mf 0 (Nat.zero_le _) _ h2 h1 (.inl h1))
end
end Go.Fc
namespace Go.Fc
open Go Go.Conc Go.Fi
open Go.ConcN (PayAt Has RelBy WD ShN norel_of)
open Go.ConcR (KK WgAt stA smA Payload g_of_ofEvents)
def rts(d:PhD)(own lo:Nat→Nat)(j:Nat):Rts where
 W g l:=∃a,l=.cell a∧((g=0∧own a.block=0∧¬d.dead a.block∧a.block≠d.Wg∧(a.block=d.F→j≤a.off)∧(a.block≠d.F→∀q,1≤q→q≤j→lo q≤a.block)) ∨
  ∃p,1≤p∧p≤j∧g=d.e0+(p-1)∧(own a.block=p∨(a.block=d.F∧a.off=p-1)))
 R g l:=∃a,l=.cell a∧own a.block=0∧¬d.dead a.block∧a.block≠d.Wg∧((g=0∧(a.block=d.F→j≤a.off))∨∃p,1≤p∧p≤j∧g=d.e0+(p-1)∧a.block≠d.F∧a.block<lo p)
def gof(d:PhD)(p:Nat):Nat:=if p=0 then 0 else d.e0+(p-1)
section
variable[Payload]{C:Cx}{d:PhD}{j:Nat}{own lo:Nat→Nat}{S:Nat→Sh}{A:Nat→World}{B B' B0:World}{es:Array Event}{p:Nat}
theorem zh(h:Mem C d j own lo S A B B0)(hd:dc d):own d.F=0:=Decidable.byContradiction fun e=>by have:=(h.nG _ e).1;have:=hd.f;omega
theorem I6(h:Mem C d j own lo S A B B0)(hd:dc d):own d.Wg=0:=Decidable.byContradiction fun e=>by have:=(h.nG _ e).1;have:=hd.wg;omega
theorem BU(h:Mem C d j own lo S A B B0)(hd:dc d):(rts d own lo j).Apart (ShN d.Wg):=by
 have hF:=zh h hd;have hW:=I6 h hd;have he:=hd.e0;refine⟨?_,?_,?_⟩
 ·rintro g g' l ⟨a,rfl,h1⟩ hne
  refine⟨?_,?_⟩
  ·rintro⟨a',e,h2⟩
   cases e
   rcases h1 with ⟨rfl,o1,_,_,f1,_⟩|⟨p,p1,pj,rfl,o1⟩
   ·rcases h2 with ⟨rfl,_⟩|⟨p',p1',pj',rfl,o2⟩
    ·exact hne rfl
    ·rcases o2 with o2|⟨o2,o3⟩
     ·omega
     ·have:=f1 o2;omega
   ·rcases h2 with ⟨rfl,o2,_,_,f2,_⟩|⟨p',p1',pj',rfl,o2⟩
    ·rcases o1 with o1|⟨o1,o3⟩
     ·omega
     ·have:=f2 o1;omega
    ·rcases o1 with o1|⟨o1,o3⟩<;>rcases o2 with o2|⟨o2,o4⟩
     ·exact hne (by rw[←o1,←o2])
     ·rw[o2,hF] at o1;omega
     ·rw[o1,hF] at o2;omega
     ·exact hne (by omega)
  ·rintro⟨a',e,o2,_,_,h2⟩
   cases e
   rcases h1 with ⟨rfl,o1,_,_,f1,g1⟩|⟨p,p1,pj,rfl,o1⟩
   ·rcases h2 with ⟨rfl,_⟩|⟨p',p1',pj',rfl,o3,o4⟩
    ·exact hne rfl
    ·have:=g1 o3 p' p1' pj';omega
   ·rcases o1 with o1|⟨o1,o3⟩
    ·omega
    ·rcases h2 with ⟨rfl,f2⟩|⟨p',p1',pj',rfl,o4,o5⟩
     ·have:=f2 o1;omega
     ·exact o4 o1
 ·rintro g l ⟨a,rfl,h1⟩ ⟨a',e,hb⟩
  cases e
  rcases h1 with ⟨rfl,o1,_,f1,_⟩|⟨p,p1,pj,rfl,o1⟩
  ·exact f1 hb
  ·rcases o1 with o1|⟨o1,_⟩
   ·rw[hb,hW] at o1;omega
   ·exact hd.ne (o1.symm.trans hb)
 ·rintro g l ⟨a,rfl,_,_,f1,_⟩ ⟨a',e,hb⟩
  cases e;exact f1 hb
def EvS(d:PhD)(r:Rts)(p B:Nat)(e:Event):Prop:=
 (∀x,(MemAct.ofEvent e).touch?=some x→(ShN d.Wg x.loc∧x.kind≠.plain∧(x.kind=.said→p=0))∨(x.kind≠.atomic∧(r.W (gof d p) x.loc∨(r.R (gof d p) x.loc∧x.write=false)))) ∧
 (MemAct.ofEvent e).low B∧e.loc≠.mark (.release (stA d.Wg))
theorem EL(h:Mem C d j own lo S A B' B0)(hd:dc d)(hj:j≤d.n)(hp:p≤j){l:Nat}(hl:p≠0→l=lo p)(hl0:p=0→∀q,1≤q→q≤j→lo q≤l){e:Event}(h1:EvT (S p) B' e)(h2:EvD l d.F (slot d p) e):EvS d (rts d own lo j) p B'.heap.size e:=by
 have hF:=zh h hd
 rcases h1 with ⟨a,wr,rfl,hc,hnd⟩|⟨r,wr,sy,rfl,_⟩|rfl
 ·have h2':(a.block=d.F→a.off=slot d p)∧(wr=true→l≤a.block∨a.block=d.F):=by
   rcases h2 with ⟨a',e,x1,x2⟩|⟨m,e⟩
   ·cases e;exact⟨x1,x2⟩
   ·cases e
  obtain⟨hf,hw⟩:=h2'
  have hdead:¬d.dead a.block:=fun x=>hnd (h.iC p hp _ (.inl x))
  have hwg:a.block≠d.Wg:=fun x=>hnd (h.iC p hp _ (.inr x))
  have hown:own a.block=p∨(own a.block=0∧(p=0∨a.block<lo p)):=by
   by_cases h0:own a.block=p
   ·exact .inl h0
   ·have:=fun o=>hnd (h.mf p hp _ hc h0 o)
    refine .inr ⟨Decidable.byContradiction fun x=>this (.inl x),?_⟩;by_cases hp0:p=0
    ·exact .inl hp0
    ·exact .inr (Nat.lt_of_not_le fun x=>this (.inr ⟨by omega,x⟩))
  refine⟨fun x hx=>.inr ?_,hc.elim fun c ⟨_,_,hc⟩=>(Array.getElem?_eq_some_iff.1 hc).1,by simp⟩;simp only[ofEvent_cell0,MemAct.touch?,Option.some.injEq] at hx;subst hx;refine⟨by simp,?_⟩;by_cases hp0:p=0
  ·subst hp0;have ho:own a.block=0:=hown.elim id (·.1)
   have hfj:a.block=d.F→j≤a.off:=fun e=>by rw[hf e];exact hj
   cases wr with
   |false=>exact .inr ⟨⟨a,rfl,ho,hdead,hwg,.inl ⟨rfl,hfj⟩⟩,rfl⟩
   |true=>
    refine .inl ⟨a,rfl,.inl ⟨rfl,ho,hdead,hwg,hfj,fun hne q h1 h2=>?_⟩⟩;have:=hl0 rfl q h1 h2
    rcases hw rfl with x|x
    ·omega
    ·exact absurd x hne
  ·have hg:gof d p=d.e0+(p-1):=by simp[gof,hp0]
   rw[hg]
   rcases hown with ho|⟨ho,hlt⟩
   ·exact .inl ⟨a,rfl,.inr ⟨p,by omega,hp,rfl,.inl ho⟩⟩
   ·have hlt:=hlt.resolve_left hp0;by_cases hbF:a.block=d.F
    ·exact .inl ⟨a,rfl,.inr ⟨p,by omega,hp,rfl,.inr ⟨hbF,by rw[hf hbF];simp[slot,hp0]⟩⟩⟩
    ·refine .inr ⟨⟨a,rfl,ho,hdead,hwg,.inr ⟨p,by omega,hp,rfl,hbF,hlt⟩⟩,?_⟩
     cases wr with
     |false=>rfl
     |true=>
      rcases hw rfl with x|x
      ·rw[hl hp0] at x;omega
      ·exact absurd x hbF
 ·rcases h2 with ⟨a',e,_⟩|⟨m,e⟩<;>cases e
 ·exact⟨fun x hx=>by simp[MemAct.ofEvent,MemAct.touch?] at hx,trivial,by simp⟩
theorem EM(h:Mem C d j own lo S A B B0)(hd:dc d)(hp:p≤j){l:Nat}(hl:p≠0→l=lo p)(hl0:p=0→d.lo0≤l∧∀q,1≤q→q≤j→lo q≤l)(h1:∀e∈es,EvT (S p) B' e)(h2:∀e∈es,EvD l d.F (slot d p) e):oU d own lo j p B es:=by
 intro e he hwr
 rcases h1 e he with ⟨a,wr,rfl,hc,hnd⟩|⟨r,wr,sy,rfl,_⟩|rfl
 ·obtain⟨hf,hw⟩:(a.block=d.F→a.off=slot d p)∧(wr=true→l≤a.block∨a.block=d.F):=by
   rcases h2 _ he with ⟨a',e,x1,x2⟩|⟨m,e⟩
   ·cases e;exact⟨x1,x2⟩
   ·cases e
  have hwr:wr=true:=hwr;refine⟨a,rfl,.inr ?_⟩
  rcases hw hwr with hlb|hbF
  ·right
   have hown:bI B a.block→¬(own a.block≠p∧(own a.block≠0∨(1≤p∧lo p≤a.block))):=fun hc ⟨x,y⟩=>hnd (h.mf p hp _ hc x y)
   by_cases hp0:p=0
   ·subst hp0;refine⟨by have:=(hl0 rfl).1;omega,fun hc=>⟨Decidable.byContradiction fun x=>hown hc ⟨x,.inl x⟩,fun _ q h1 h2=>by have:=(hl0 rfl).2 q h1 h2;omega⟩⟩
   ·have hlp:=hl hp0;have:=h.kU p (by omega) hp;exact⟨by omega,fun hc=>⟨Decidable.byContradiction fun x=>hown hc ⟨x,.inr ⟨by omega,by omega⟩⟩,fun x=>absurd x hp0⟩⟩
  ·exact .inl ⟨hbF,hf hbF⟩
 ·rcases h2 _ he with ⟨a',e,_⟩|⟨m,e⟩<;>cases e
 ·cases hwr
end
structure Trc(d:PhD)(j:Nat)(own lo:Nat→Nat)(gsz:Nat)(t0 t:Trace)(Bsz:Nat)(D:Nat→WD)(d0:Nat):Prop where
 pre:∃u,t=t0++u
 tr:TrI (ShN d.Wg) (rts d own lo j) t
 ph:PhT (fun g=>d.e0≤g∧g<d.e0+j) d.Wg t0.size t
 norel:NoRelease (stA d.Wg) t
 low:∀op∈t,op.act.low Bsz
 deaf0:Deaf t 0=d0
 deafW:∀i,i<j→Deaf t (d.e0+i)=(D i).deaf
 above:∀k,gsz≤k→Deaf t k=0
 rel:∀i,i<j→(D i).stage≤6→∃r,RelBy (stA d.Wg) t (d.e0+i) r
section
variable{d:PhD}{j:Nat}{own own' lo:Nat→Nat}{gsz Bsz Bsz' d0:Nat}{t0 t:Trace}{D:Nat→WD}{es:Array Event}{p:Nat}
theorem mW{g:Nat}{fn:FuncId}{pos:String}{es:Array Event}{op:MemOp}(h:op∈MemOp.ofEvents g fn pos es):∃e∈es,op = { g,fn,pos,act:=.ofEvent e }:=Go.Conc.mem_ofEvents h
theorem Trc.step(h:Trc d j own lo gsz t0 t Bsz D d0)(hd:dc d)(hA:(rts d own' lo j).Apart (ShN d.Wg))(hp:p≤j)(hg:gof d p<gsz)(hB:Bsz≤Bsz')(hown:∀b,own' b=own b∨(Bsz≤b∧own' b=p))(hlo:∀q,1≤q→q≤j→lo q≤Bsz)(hFB:d.F<Bsz){fn:FuncId}{pos:String}(hes:∀e∈es,EvS d (rts d own' lo j) p Bsz' e){D':Nat→WD}{d0':Nat}(hD:∀i,i+1≠p→D' i=D i)(hd0:d0'=if p=0 then deafBehind d0 es else d0)(hdW:∀i,p=i+1→(D' i).deaf=deafBehind (D i).deaf es)(hrel:∀i,p=i+1→(D' i).stage≤6→∃r,RelBy (stA d.Wg) (t++MemOp.ofEvents (gof d p) fn pos es) (d.e0+i) r):Trc d j own' lo gsz t0 (t++MemOp.ofEvents (gof d p) fn pos es) Bsz' D' d0':=by
 have he:=hd.e0
 have hgp:∀i,gof d p=d.e0+i↔p=i+1:=fun i=>by unfold gof;split<;>omega
 have hg0:gof d p=0↔p=0:=by unfold gof;split<;>omega
 have hun:∀a:Addr,Bsz≤a.block→um t (.cell a):=fun a ha=>IX h.low ha
 have htr:TrI (ShN d.Wg) (rts d own' lo j) t:=by
  refine h.tr.ck (fun g l hl=>?_) (fun g l hl=>?_)
  ·obtain⟨a,rfl,hc⟩:=hl
   rcases Nat.lt_or_ge a.block Bsz with hlt|hge
   ·have:own' a.block=own a.block:=(hown a.block).resolve_right fun x=>by omega
    rw[this] at hc;exact .inl ⟨a,rfl,hc⟩
   ·exact .inr (hun a hge)
  ·obtain⟨a,rfl,hc⟩:=hl
   rcases Nat.lt_or_ge a.block Bsz with hlt|hge
   ·have:own' a.block=own a.block:=(hown a.block).resolve_right fun x=>by omega
    rw[this] at hc;exact .inl ⟨a,rfl,hc⟩
   ·exact .inr (.inr (hun a hge))
 obtain⟨u0,hu0⟩:=h.pre;refine⟨⟨u0++_,by rw[hu0,Array.append_assoc]⟩,htr.app hA (g:=gof d p) fun op hop=>?_,h.ph.app (fun _=>id) fun op hop=>?_,h.norel.app (norel_of fun e he=>(hes e he).2.2),fun op hop=>?_,?_,fun i hi=>?_,fun k hk=>?_,fun i hi hs=>?_⟩
 ·obtain⟨e,he,rfl⟩:=mW hop;exact⟨rfl,fun x hx=>((hes e he).1 x hx).imp (fun y=>⟨y.1,y.2.1,fun z=>hg0.2 (y.2.2 z)⟩) (·.2)⟩
 ·obtain⟨e,he,rfl⟩:=mW hop;by_cases hp0:p=0
  ·exact .inl (hg0.2 hp0)
  ·refine .inr (.inr ⟨by show d.e0≤gof d p∧gof d p<d.e0+j;simp[gof,hp0];omega,fun x hx hk=>?_⟩)
   rcases (hes e he).1 x hx with y|y
   ·obtain⟨⟨a,h1,h2⟩,_⟩:=y;exact⟨a,h1,h2⟩
   ·exact absurd hk y.1
 ·rcases Array.mem_append.1 hop with hop|hop
  ·exact MemAct.low_mono hB (h.low op hop)
  ·obtain⟨e,he,rfl⟩:=mW hop;exact (hes e he).2.1
 ·rw[hd0];by_cases hp0:p=0
  ·rw[if_pos hp0,hg0.2 hp0,Deaf_own,h.deaf0]
  ·rw[if_neg hp0,Deaf_other t (fun x=>hp0 (hg0.1 x)) _ g_of_ofEvents,h.deaf0]
 ·by_cases hpi:p=i+1
  ·rw[hdW i hpi,(hgp i).2 hpi,Deaf_own,h.deafW i hi]
  ·rw[Deaf_other t (fun x=>hpi ((hgp i).1 x)) _ g_of_ofEvents,h.deafW i hi,hD i fun x=>hpi x.symm]
 ·rw[Deaf_other t (by omega) _ g_of_ofEvents,h.above k hk]
 ·by_cases hpi:p=i+1
  ·exact hrel i hpi hs
  ·rw[hD i fun x=>hpi x.symm] at hs;obtain⟨r,hr⟩:=h.rel i hi hs;exact⟨r,hr.appOther g_of_ofEvents (fun x=>hpi ((hgp i).1 x))⟩
theorem Trc.mute(h:Trc d j own lo gsz t0 t Bsz D d0){g:Nat}(hg0:g≠0)(hg:g<d.e0)(hgs:d.e0≤gsz){fn:FuncId}{pos:String}(hm:∀e∈es,e.mute=true):Trc d j own lo gsz t0 (t++MemOp.ofEvents g fn pos es) Bsz D d0:=by
 have hnt:∀op∈MemOp.ofEvents g fn pos es,op.act.touch?=none:=fun op hop=>by obtain⟨e,he,rfl⟩:=mW hop;exact touch_mute (hm e he)
 obtain⟨u0,hu0⟩:=h.pre
 refine⟨⟨u0++_,by rw[hu0,Array.append_assoc]⟩,⟨h.tr.quiet.app fun op hop x hx _=>(by rw[hnt op hop] at hx;cases hx),fun g' l hl=>(h.tr.w g' l hl).app fun op hop x hx _=>(by rw[hnt op hop] at hx;cases hx),fun g' l hl=>(h.tr.r g' l hl).app fun op hop x hx _ _=>(by rw[hnt op hop] at hx;cases hx),fun said=>?_⟩,
  h.ph.app (fun _=>id) fun op hop=>.inr (.inl (hnt op hop)),h.norel.app fun op hop hx=>?_,fun op hop=>?_,?_,fun i hi=>?_,fun k hk=>?_,fun i hi hs=>?_⟩
 ·exact noRace_append (h.tr.nr said) (fun op hop=>by obtain⟨e,_,rfl⟩:=mW hop;rfl) fun i a _ op hop b hb _=>(by rw[hnt op hop] at hb;cases hb)
 ·obtain⟨e,he,rfl⟩:=mW hop;have:=hm e he;have hl:=Go.ConcR.loc_of_ofEvent hx;obtain⟨loc,w,s⟩:=e;simp only at hl;subst hl;simp[Event.mute] at this
 ·rcases Array.mem_append.1 hop with hop|hop
  ·exact h.low op hop
  ·obtain⟨e,he,rfl⟩:=mW hop;exact low_mute (hm e he) _
 ·rw[Deaf_other t hg0 _ g_of_ofEvents,h.deaf0]
 ·rw[Deaf_other t (by omega) _ g_of_ofEvents,h.deafW i hi]
 ·rw[Deaf_other t (by omega) _ g_of_ofEvents,h.above k hk]
 ·obtain⟨r,hr⟩:=h.rel i hi hs;exact⟨r,hr.appOther g_of_ofEvents (by omega)⟩
theorem Trc.fork(h:Trc d j own lo (d.e0+j) t0 t Bsz D 0)(hd:dc d)(hown:∀b,own b≤j)(hF0:own d.F=0){x y:MemOp}(hx:x.g=0∧x.act=.go (d.e0+j))(hy:y.g=d.e0+j∧y.act=.start){sz m:Nat}:Trc d (j+1) own (fun q=>if q=j+1 then sz else lo q) (d.e0+(j+1)) t0 (t++#[x,y]) Bsz (ConcN.upd D j ⟨7,m,0⟩) 0:=by
 have he:=hd.e0
 have hm:∀op∈#[x,y],op=x∨op=y:=by intro op hop;simpa using hop
 have hst:∀op∈#[x,y],op.act≠.mark .disable∧op.act≠.mark .enable:=by
  intro op hop
  rcases hm op hop with rfl|rfl
  ·rw[hx.2];exact⟨by simp,by simp⟩
  ·rw[hy.2];exact⟨by simp,by simp⟩
 have hnt:∀op∈#[x,y],op.act.touch?=none:=by
  intro op hop
  rcases hm op hop with rfl|rfl
  ·rw[hx.2];rfl
  ·rw[hy.2];rfl
 obtain⟨u0,hu0⟩:=h.pre;refine⟨⟨u0++#[x,y],by rw[hu0,Array.append_assoc]⟩,h.tr.fork hx hy h.deaf0 (h.above _ (Nat.le_refl _)) (fun g l hl=>?_) (fun g l hl=>?_),h.ph.app (fun g hg=>⟨hg.1,by omega⟩) fun op hop=>.inr (.inl (hnt op hop)),h.norel.app fun op hop=>?_,fun op hop=>?_,?_,fun i hi=>?_,fun k hk=>?_,fun i hi hs=>?_⟩
 ·obtain⟨a,rfl,hc⟩:=hl
  rcases hc with ⟨rfl,o1,o2,o3,o4,o5⟩|⟨p,p1,pj,rfl,o1⟩
  ·refine .inl ⟨by omega,a,rfl,.inl ⟨rfl,o1,o2,o3,fun e=>by have:=o4 e;omega,fun e q h1 h2=>?_⟩⟩;have:=o5 e q h1 (by omega);dsimp only at this
   rwa [if_neg (by omega)] at this
  ·by_cases hp:p=j+1
   ·subst hp;refine .inr ⟨by omega,a,rfl,.inl ?_⟩
    rcases o1 with o1|⟨o1,o2⟩
    ·have:=hown a.block;omega
    ·exact⟨rfl,by rw[o1];exact hF0,fun hx=>(hd.dead _ hx).2.1 o1,fun e=>hd.ne (o1.symm.trans e),fun _=>by omega,fun e=>absurd o1 e⟩
   ·exact .inl ⟨by omega,a,rfl,.inr ⟨p,p1,by omega,rfl,o1⟩⟩
 ·obtain⟨a,rfl,o1,o2,o3,hc⟩:=hl
  rcases hc with ⟨rfl,o4⟩|⟨p,p1,pj,rfl,o4,o5⟩
  ·exact .inl ⟨by omega,.inl ⟨a,rfl,o1,o2,o3,.inl ⟨rfl,fun e=>by have:=o4 e;omega⟩⟩⟩
  ·by_cases hp:p=j+1
   ·exact .inr ⟨by omega,.inl ⟨a,rfl,o1,o2,o3,.inl ⟨rfl,fun e=>absurd e o4⟩⟩⟩
   ·dsimp only at o5;rw[if_neg hp] at o5;exact .inl ⟨by omega,.inl ⟨a,rfl,o1,o2,o3,.inr ⟨p,p1,by omega,rfl,o4,o5⟩⟩⟩
 ·rcases hm op hop with rfl|rfl
  ·rw[hx.2];simp
  ·rw[hy.2];simp
 ·rcases Array.mem_append.1 hop with hop|hop
  ·exact h.low op hop
  ·rcases hm op hop with rfl|rfl
   ·rw[hx.2];trivial
   ·rw[hy.2];trivial
 ·rw[ConcN.Deaf_still t 0 _ hst,h.deaf0]
 ·rw[ConcN.Deaf_still t _ _ hst]
  rcases Nat.lt_or_ge i j with hlt|hge
  ·rw[h.deafW i hlt,ConcN.upd_ne D _ (by omega)]
  ·obtain rfl:i=j:=by omega
   rw[ConcN.upd_same];exact h.above _ (Nat.le_refl _)
 ·rw[ConcN.Deaf_still t _ _ hst,h.above k (by omega)]
 ·rcases Nat.lt_or_ge i j with hlt|hge
  ·rw[ConcN.upd_ne D _ (by omega)] at hs;obtain⟨r,hr⟩:=h.rel i hlt hs;refine⟨r,hr.appNot fun op hop=>?_⟩
   rcases hm op hop with rfl|rfl
   ·rw[hx.1];omega
   ·rw[hy.1];omega
  ·obtain rfl:i=j:=by omega
   rw[ConcN.upd_same] at hs;simp at hs
end
theorem I7{d:PhD}{t:Trace}{S:Sh}{Bsz Bsz' gsz:Nat}(hP:Past (jz S) Bsz t)(hS:∀b,S.dead b→d.dead b)(hW:Bsz≤d.Wg)(hB:Bsz≤Bsz')(hab:∀k,gsz≤k→Deaf t k=0)(D:Nat→WD)(lo:Nat→Nat):Trc d 0 (fun _=>0) lo gsz t t Bsz' D 0:=by
 have hn:∀(i:Nat)(op:MemOp),t[i]?=some op→op.act.low Bsz:=fun i op h=>hP.seen op (Array.mem_of_getElem? h)
 have hk:∀a:Addr,¬d.dead a.block→Perm t 0 (.cell a):=fun a hd i x hx e=>by
  refine (hP.known i x hx (by rw[e];rfl)).resolve_right fun hs=>?_
  obtain⟨⟨a',h1,h2⟩,_⟩:=hs;rw[e] at h1;cases h1;exact hd (hS _ h2)
 refine⟨⟨#[],by simp⟩,⟨fun i op x hi hx hs=>?_,fun g l hl=>?_,fun g l hl=>?_,hP.clean⟩,fun i op hi ho=>?_,fun i hi=>?_,fun op hop=>MemAct.low_mono hB (hP.seen op hop),hP.hears,fun i hi=>by omega,hab,fun i hi=>by omega⟩
 ·obtain⟨a,ha,hb⟩:=hs;have:=BR (hn i op hi) hx;rw[ha] at this;have:a.block<Bsz:=this;omega
 ·obtain⟨a,rfl,hc⟩:=hl
  rcases hc with ⟨rfl,_,hd,_⟩|⟨p,h1,h2,_⟩
  ·exact hk a hd
  ·omega
 ·obtain⟨a,rfl,_,hd,_,hc⟩:=hl
  rcases hc with ⟨rfl,_⟩|⟨p,h1,h2,_⟩
  ·exact .of (hk a hd)
  ·omega
 ·have:=(Array.getElem?_eq_some_iff.1 ho).1;omega
 ·obtain⟨op,ho,hoa⟩:=Option.map_eq_some_iff.1 hi;have:=hn i op ho;rw[hoa] at this;have:d.Wg<Bsz:=this;omega
end Go.Fc
namespace Go.Fc
open Go Go.Conc Go.Fi
open Go.ConcN (PayAt Has RW AsideCell WgLive DWs AtR0 WSit CTag WD upd upd_ne upd_same)
open Go.ConcR (KK WgAt stA smA rd wr mk Payload DC0)
def RL(ty:TypeId)(Wg:Nat)(w w1:World):Prop:=WgLive ty Wg w→WgLive ty Wg w1
def DL(Wg:Nat)(w w':World)(es:Array Event):Prop:=w'=w∧∀e∈es,e=mk (.read (smA Wg))∨e=mk (.write (smA Wg))
theorem RL.refl{ty:TypeId}{Wg:Nat}(w:World):RL ty Wg w w:=id
theorem RL.trans{ty:TypeId}{Wg:Nat}(a b c:World)(h:RL ty Wg a b)(k:RL ty Wg b c):RL ty Wg a c:=fun x=>k (h x)
section
variable(P:Program)(ty:TypeId)(Wg:Nat)
abbrev GL(Stop:Goroutine→World→Prop):Nat→Goroutine→World→Prop:=Goes P true (RL ty Wg) (DL Wg) Stop
def iS(g0:Goroutine)(g:Goroutine)(_:World):Prop:=g=g0
def qH(m:Mark)(Next:Goroutine→World→Prop)(g:Goroutine)(w:World):Prop:=g.status=.running∧∃g',stepG P true g w=.go g' w #[mk m]∧∃n,GL P ty Wg Next n g' w
def zi(fin:Goroutine):Goroutine→World→Prop:=qH P ty Wg .enable (iS fin)
def EN(fin:Goroutine)(g:Goroutine)(w:World):Prop:=
 g.status=.running∧∀v:Nat,v<2147483647→WgAt ty Wg w (v*KK) 0 →
  ∃g',stepG P true g w=.go g' (w.setCell (stA Wg) (.int .u64 ((v+1)*KK))) #[rd (stA Wg),wr (stA Wg)]∧∃n,GL P ty Wg (zi P ty Wg fin) n g' (w.setCell (stA Wg) (.int .u64 ((v+1)*KK)))
def uo(fin:Goroutine):Goroutine→World→Prop:=qH P ty Wg .disable (EN P ty Wg fin)
def WtQ(fin:Goroutine):Goroutine→World→Prop:=qH P ty Wg (.acquire (stA Wg)) (iS fin)
def WtE(fin:Goroutine):Goroutine→World→Prop:=qH P ty Wg .enable (WtQ P ty Wg fin)
def Wt4(fin:Goroutine)(g:Goroutine)(w:World):Prop:=g.status=.running∧(WgAt ty Wg w 0 0→∃g',stepG P true g w=.go g' w #[rd (stA Wg)]∧∃n,GL P ty Wg (WtE P ty Wg fin) n g' w)
def Wt3(fin:Goroutine)(g:Goroutine)(w:World):Prop:=
 g.status=.running∧g.offers=none∧((∃st,WgAt ty Wg w st 0)→stepG P true g w=.go { g with status:=.blocked } w #[]) ∧
  (WgAt ty Wg w 0 1→∃g',stepG P true g w=.go g' (w.setCell (smA Wg) (.int .u32 0)) (semEvents (smA Wg))∧∃n,GL P ty Wg (Wt4 P ty Wg fin) n g' (w.setCell (smA Wg) (.int .u32 0)))
def Wt2(fin:Goroutine)(fQ:Goroutine→World→Prop)(vs:Nat)(g:Goroutine)(w:World):Prop:=
 g.status=.running∧∀v:Nat,v<2147483648→WgAt ty Wg w (v*KK) 0 →
  (v=vs→∃g',stepG P true g w=.go g' (w.setCell (stA Wg) (.int .u64 (v*KK+1))) #[rd (stA Wg),wr (stA Wg)]∧∃n,GL P ty Wg (Wt3 P ty Wg fin) n g' (w.setCell (stA Wg) (.int .u64 (v*KK+1)))) ∧
  (v≠vs→∃g',stepG P true g w=.go g' w #[rd (stA Wg)]∧∃n,GL P ty Wg fQ n g' w)
def Wt1(fin:Goroutine)(fQ:Goroutine→World→Prop)(g:Goroutine)(w:World):Prop:=
 g.status=.running∧∀v:Nat,v<2147483648→WgAt ty Wg w (v*KK) 0→∃g',stepG P true g w=.go g' w #[rd (stA Wg)] ∧
  (v=0→∃n,GL P ty Wg (WtE P ty Wg fin) n g' w)∧(v≠0→∃n,GL P ty Wg (Wt2 P ty Wg fin fQ v) n g' w)
def WtK(fQ:Goroutine→World→Prop):Goroutine→World→Prop:=qH P ty Wg .disable fQ
end
abbrev noL:Nat→Loc→Prop:=fun _ _=>False
structure Script where
 base:List Frame
 csW:List Frame
 K7:Nat
 NK:Nat
 I1:Nat→Frame→World→Prop
 I2:Nat→Frame→World→Prop
 I3:Frame→World→Prop
 WE:Nat→Frame→List Frame→World→Prop
 Fin:Nat→World→Prop
 zj:Frame→Goroutine
 zk:Frame→Goroutine
 fQ:Frame→Goroutine→World→Prop
 child:Nat→Frame→Goroutine
 frW:Nat→Frame→Frame
abbrev dR(s:Script)(fr:Frame):Goroutine:=G (fr.finish (.tuple #[])) s.base
structure dm[Payload][Xf](P P1:Program)(d:PhD)(s:Script):Prop where
 Nb:s.base≠[]
 csN:s.csW≠[]
 st1:∀j fr A A',s.I1 j fr A→Bel A.heap.size A A'→s.I1 j fr A'
 st2:∀j fr A A',s.I2 j fr A→Bel A.heap.size A A'→s.I2 j fr A'
 st3:∀fr A A',s.I3 fr A→Bel A.heap.size A A'→s.I3 fr A'
 stW:∀i fr cs A A',s.WE i fr cs A→Bel A.heap.size A A'→s.WE i fr cs A'
 stF:∀i A A',s.Fin i A→Bel A.heap.size A A'→s.Fin i A'
 EO:∀j fr A,s.I1 j fr A→∀B,stepG P true (G fr s.base) B=.go (s.zj fr) B #[]
 add:∀j fr A,s.I1 j fr A→∀w,WgLive d.ty d.Wg w→∃m,GL P d.ty d.Wg (uo P d.ty d.Wg (dR s fr)) m (s.zj fr) w
 mid:∀j fr A,s.I1 j fr A→j<d.n→∀lo,∃N,@TN (a7 lo d.F d.n) P1 s.base.length s.base.length (fun fr' cs' A'=>cs'=s.base∧s.I2 j fr' A') N (fr.finish (.tuple #[])) s.base A
 go:∀j fr A,s.I2 j fr A→∀B,stepG P true (G fr s.base) B=.spawn (G (fr.finish undef) s.base) (s.child j fr) B #[]
 Nc:∀j fr,(s.child j fr).status=.running
 beg:∀j fr A,s.I2 j fr A→∀w,∃m,Goes P false (fun _ _=>True) DC0 (iS (G (s.frW j fr) s.csW)) m (s.child j fr) w
 wok:∀j fr A,s.I2 j fr A→bD P1 P (s.frW j fr)
 work:∀j fr A,s.I2 j fr A→∀Aw,(∀(a:Addr) v,a.block≠d.F→A.cell? a=some v→Aw.cell? a=some v)→Aw.heap.size=A.heap.size→PayAt d.F d.n Aw→Aw.cell? ⟨d.F,j,none⟩=some d.v0 →
  ∃N,@TN (a7 Aw.heap.size d.F j) P1 s.csW.length s.csW.length (s.WE j) N (s.frW j fr) s.csW Aw
 next:∀j fr A,s.I2 j fr A→j<d.n→∀lo,d.lo0≤lo→lo≤A.heap.size→∃N,@TN (a7 lo d.F d.n) P1 s.base.length s.base.length (fun fr' cs' A'=>cs'=s.base∧if j+1<d.n then s.I1 (j+1) fr' A' else s.I3 fr' A') N (fr.finish undef) s.base A
 hwe:∀i fr cs A,s.WE i fr cs A→cs=s.csW∧s.Fin i A∧∃v,A.cell? ⟨d.F,i,none⟩=some v∧∀w,WgLive d.ty d.Wg w∧Has d.F i v w →
  Goes P false (RW d.ty d.Wg d.F d.n 0 i) DC0 (AtR0 P d.ty d.Wg d.F d.n 0 (i+1) v) s.K7 (G fr s.csW) w
 call3:∀fr A,s.I3 fr A→∀B,stepG P true (G fr s.base) B=.go (s.zk fr) B #[]
 kX:∀fr A,s.I3 fr A→∀w,WgLive d.ty d.Wg w→GL P d.ty d.Wg (WtK P d.ty d.Wg (s.fQ fr)) s.NK (s.zk fr) w
 EP:∀fr g w,s.fQ fr g w→g.status=.running
 anch:∀fr A g w,s.I3 fr A→s.fQ fr g w→∃m,GL P d.ty d.Wg (Wt1 P d.ty d.Wg (dR s fr) (s.fQ fr)) m g w
 ER:∀j fr A f args,s.I1 j fr A→fr≠Frame.enter P1 f args .normal
 ES:∀j fr A f args,s.I2 j fr A→fr≠Frame.enter P1 f args .normal
 ET:∀fr A f args,s.I3 fr A→fr≠Frame.enter P1 f args .normal
 EU:∀i fr cs A f args,s.WE i fr cs A→fr≠Frame.enter P1 f args .normal
section
variable[Payload][Xf](P P1:Program)(d:PhD)(s:Script)
inductive WkS(i lo:Nat):Nat→Nat→Nat→Goroutine→Sh→World→World→Prop
 |b0 {m N:Nat} {g:Goroutine} {fr:Frame} {S:Sh} {A B:World}:Goes P false (fun _ _=>True) DC0 (iS (G fr s.csW)) m g B→bQ P1 P S s.csW fr s.csW A B→¬S.part d.F i→@TN (a7 lo d.F i) P1 s.csW.length s.csW.length (s.WE i) N fr s.csW A→WkS i lo 7 (m+N+s.K7+2) 0 g S A B
 |b1 {N:Nat} {fr:Frame} {cs:List Frame} {S:Sh} {A B:World}:bQ P1 P S s.csW fr cs A B→¬S.part d.F i→@TN (a7 lo d.F i) P1 s.csW.length s.csW.length (s.WE i) N fr cs A→WkS i lo 7 (N+s.K7+1) 0 (G fr cs) S A B
 |b2 {m:Nat} {v:Value} {g:Goroutine} {S:Sh} {A B:World}:Lk (Cc P1 P) S A B→¬S.part d.F i→s.Fin i A→m≤s.K7→Goes P false (RW d.ty d.Wg d.F d.n 0 i) DC0 (AtR0 P d.ty d.Wg d.F d.n 0 (i+1) v) m g B→WkS i lo 7 m 0 g S A B
 |b3 {st m dd:Nat} {v:Value} {g:Goroutine} {S:Sh} {A B:World}:Lk (Cc P1 P) S A B→¬S.part d.F i→s.Fin i A→st≤6→WSit P d.ty d.Wg d.F d.n noL noL 0 (i+1) v st m dd g B→WkS i lo st m dd g S A B
inductive StS(lo:Nat→Nat):CTag→Nat→Nat→Nat→Goroutine→Sh→World→World→Prop
 |p6 {r N l:Nat} {fr:Frame} {cs:List Frame} {S:Sh} {A B:World}:r<d.n→bQ P1 P S s.base fr cs A B→d.lo0≤l→(∀q,1≤q→q≤d.n-(r+1)→lo q≤l) →
   @TN (a7 l d.F d.n) P1 s.base.length s.base.length (fun fr' cs' A'=>cs'=s.base∧s.I1 (d.n-(r+1)) fr' A') N fr cs A→StS lo (.sp r 6) (d.n-(r+1)) N 0 (G fr cs) S A B
 |l5 {r m:Nat} {fr:Frame} {g:Goroutine} {S:Sh} {A B:World}:r<d.n→bQ P1 P S s.base fr s.base A B→s.I1 (d.n-(r+1)) fr A→GL P d.ty d.Wg (uo P d.ty d.Wg (dR s fr)) m g B→StS lo (.sp r 5) (d.n-(r+1)) m 0 g S A B
 |l4 {r m:Nat} {fr:Frame} {g:Goroutine} {S:Sh} {A B:World}:r<d.n→bQ P1 P S s.base fr s.base A B→s.I1 (d.n-(r+1)) fr A→GL P d.ty d.Wg (EN P d.ty d.Wg (dR s fr)) m g B→StS lo (.sp r 4) (d.n-(r+1)) m 1 g S A B
 |l3 {r m:Nat} {fr:Frame} {g:Goroutine} {S:Sh} {A B:World}:r<d.n→bQ P1 P S s.base fr s.base A B→s.I1 (d.n-(r+1)) fr A→GL P d.ty d.Wg (zi P d.ty d.Wg (dR s fr)) m g B→StS lo (.sp r 3) (d.n-(r+1)) m 1 g S A B
 |l2 {r m:Nat} {fr:Frame} {g:Goroutine} {S:Sh} {A B:World}:r<d.n→bQ P1 P S s.base fr s.base A B→s.I1 (d.n-(r+1)) fr A→GL P d.ty d.Wg (iS (dR s fr)) m g B→StS lo (.sp r 2) (d.n-(r+1)) m 0 g S A B
 |p1 {r N l:Nat} {fr:Frame} {cs:List Frame} {S:Sh} {A B:World}:r<d.n→bQ P1 P S s.base fr cs A B→d.lo0≤l→(∀q,1≤q→q≤d.n-(r+1)→lo q≤l) →
   @TN (a7 l d.F d.n) P1 s.base.length s.base.length (fun fr' cs' A'=>cs'=s.base∧s.I2 (d.n-(r+1)) fr' A') N fr cs A→StS lo (.sp r 1) (d.n-(r+1)) N 0 (G fr cs) S A B
 |pk {N l:Nat} {fr:Frame} {cs:List Frame} {S:Sh} {A B:World}:bQ P1 P S s.base fr cs A B→d.lo0≤l→(∀q,1≤q→q≤d.n→lo q≤l) →
   @TN (a7 l d.F d.n) P1 s.base.length s.base.length (fun fr' cs' A'=>cs'=s.base∧s.I3 fr' A') N fr cs A→StS lo .kd d.n (N+s.NK+1) 0 (G fr cs) S A B
 |kd {m:Nat} {fr:Frame} {g:Goroutine} {S:Sh} {A B:World}:bQ P1 P S s.base fr s.base A B→s.I3 fr A→m≤s.NK→GL P d.ty d.Wg (WtK P d.ty d.Wg (s.fQ fr)) m g B→StS lo .kd d.n m 0 g S A B
 |anch {m:Nat} {fr:Frame} {g:Goroutine} {S:Sh} {A B:World}:bQ P1 P S s.base fr s.base A B→s.I3 fr A→GL P d.ty d.Wg (s.fQ fr) m g B→StS lo .anch d.n m 1 g S A B
 |w1 {m:Nat} {fr:Frame} {g:Goroutine} {S:Sh} {A B:World}:bQ P1 P S s.base fr s.base A B→s.I3 fr A→GL P d.ty d.Wg (Wt1 P d.ty d.Wg (dR s fr) (s.fQ fr)) m g B→StS lo .w1 d.n m 1 g S A B
 |w2 {vs m:Nat} {fr:Frame} {g:Goroutine} {S:Sh} {A B:World}:bQ P1 P S s.base fr s.base A B→s.I3 fr A→GL P d.ty d.Wg (Wt2 P d.ty d.Wg (dR s fr) (s.fQ fr) vs) m g B→StS lo (.w2 vs) d.n m 1 g S A B
 |w3 {m:Nat} {fr:Frame} {g:Goroutine} {S:Sh} {A B:World}:bQ P1 P S s.base fr s.base A B→s.I3 fr A→GL P d.ty d.Wg (Wt3 P d.ty d.Wg (dR s fr)) m g B→StS lo .w3 d.n (m+1) 1 g S A B
 |blk {fr:Frame} {g:Goroutine} {S:Sh} {A B:World}:bQ P1 P S s.base fr s.base A B→s.I3 fr A→(∀w,RL d.ty d.Wg B w→Wt3 P d.ty d.Wg (dR s fr) g w)→StS lo .blk d.n 0 1 { g with status:=.blocked } S A B
 |w4 {m:Nat} {fr:Frame} {g:Goroutine} {S:Sh} {A B:World}:bQ P1 P S s.base fr s.base A B→s.I3 fr A→GL P d.ty d.Wg (Wt4 P d.ty d.Wg (dR s fr)) m g B→StS lo .w4 d.n m 1 g S A B
 |ke {m:Nat} {fr:Frame} {g:Goroutine} {S:Sh} {A B:World}:bQ P1 P S s.base fr s.base A B→s.I3 fr A→GL P d.ty d.Wg (WtE P d.ty d.Wg (dR s fr)) m g B→StS lo .ke d.n m 1 g S A B
 |acq {m:Nat} {fr:Frame} {g:Goroutine} {S:Sh} {A B:World}:bQ P1 P S s.base fr s.base A B→s.I3 fr A→GL P d.ty d.Wg (WtQ P d.ty d.Wg (dR s fr)) m g B→StS lo .acq d.n m 0 g S A B
 |ret {m:Nat} {fr:Frame} {g:Goroutine} {S:Sh} {A B:World}:bQ P1 P S s.base fr s.base A B→s.I3 fr A→GL P d.ty d.Wg (iS (dR s fr)) m g B→StS lo .ret d.n m 0 g S A B
end
theorem lH(a b c:World)(h:Bel a.heap.size a b)(k:Bel b.heap.size b c):Bel a.heap.size a c:=h.trans (k.mono h.size)
section
variable[Payload][Xf]{P P1:Program}{d:PhD}{s:Script}{S S':Sh}{A A' B B':World}{lo:Nat→Nat}
omit [Payload] in
theorem bQ.ck{base:List Frame}{fr:Frame}{cs:List Frame}(h:bQ P1 P S base fr cs A B)(hl:Lk (Cc P1 P) S' A' B'):bQ P1 P S' base fr cs A' B':=⟨h.pre,h.ok,hl⟩
theorem WkS.other(hs:dm P P1 d s){i l st m dd:Nat}{g:Goroutine}(h:WkS P P1 d s i l st m dd g S A B)(hl:Lk (Cc P1 P) S' A' B')(hA:Bel A.heap.size A A')(hp:S'.part=S.part)(hR:RW d.ty d.Wg d.F d.n 0 i B B'):WkS P P1 d s i l st m dd g S' A' B':=by
 cases h with
 |b0 h1 h2 h3 h4=>exact .b0 (Goes.rely (fun _ _ _ _ _=>trivial) h1 trivial) (h2.ck hl) (by rw[hp];exact h3) (@TN.rely (a7 l d.F i) _ _ _ _ lH (fun fr cs w w1 x e=>hs.stW i fr cs w w1 x e) _ _ _ _ _ h4 hA)
 |b1 h2 h3 h4=>exact .b1 (h2.ck hl) (by rw[hp];exact h3) (@TN.rely (a7 l d.F i) _ _ _ _ lH (fun fr cs w w1 x e=>hs.stW i fr cs w w1 x e) _ _ _ _ _ h4 hA)
 |b2 h1 h2 h3 h5 h6=>exact .b2 hl (by rw[hp];exact h2) (hs.stF _ _ _ h3 hA) h5 (Goes.rely (fun _ _ _ x y=>x.trans y) h6 hR)
 |b3 h1 h2 h3 h4 h5=>exact .b3 hl (by rw[hp];exact h2) (hs.stF _ _ _ h3 hA) h4 (h5.rely (by simpa using hR))
theorem StS.other(hs:dm P P1 d s){tag:CTag}{j f dd:Nat}{g:Goroutine}(h:StS P P1 d s lo tag j f dd g S A B)(hl:Lk (Cc P1 P) S' A' B')(hA:Bel A.heap.size A A')(hR:RL d.ty d.Wg B B'):StS P P1 d s lo tag j f dd g S' A' B':=by
 cases h with
 |p6 h1 h2 h0 h3 h4=>exact .p6 h1 (h2.ck hl) h0 h3 (@TN.rely (a7 _ d.F d.n) _ _ _ _ lH (fun _ _ _ _ x e=>⟨x.1,hs.st1 _ _ _ _ x.2 e⟩) _ _ _ _ _ h4 hA)
 |l5 h1 h2 h3 h4=>exact .l5 h1 (h2.ck hl) (hs.st1 _ _ _ _ h3 hA) (Goes.rely RL.trans h4 hR)
 |l4 h1 h2 h3 h4=>exact .l4 h1 (h2.ck hl) (hs.st1 _ _ _ _ h3 hA) (Goes.rely RL.trans h4 hR)
 |l3 h1 h2 h3 h4=>exact .l3 h1 (h2.ck hl) (hs.st1 _ _ _ _ h3 hA) (Goes.rely RL.trans h4 hR)
 |l2 h1 h2 h3 h4=>exact .l2 h1 (h2.ck hl) (hs.st1 _ _ _ _ h3 hA) (Goes.rely RL.trans h4 hR)
 |p1 h1 h2 h0 h3 h4=>exact .p1 h1 (h2.ck hl) h0 h3 (@TN.rely (a7 _ d.F d.n) _ _ _ _ lH (fun _ _ _ _ x e=>⟨x.1,hs.st2 _ _ _ _ x.2 e⟩) _ _ _ _ _ h4 hA)
 |pk h2 h0 h3 h4=>exact .pk (h2.ck hl) h0 h3 (@TN.rely (a7 _ d.F d.n) _ _ _ _ lH (fun _ _ _ _ x e=>⟨x.1,hs.st3 _ _ _ x.2 e⟩) _ _ _ _ _ h4 hA)
 |kd h2 h3 h5 h4=>exact .kd (h2.ck hl) (hs.st3 _ _ _ h3 hA) h5 (Goes.rely RL.trans h4 hR)
 |anch h2 h3 h4=>exact .anch (h2.ck hl) (hs.st3 _ _ _ h3 hA) (Goes.rely RL.trans h4 hR)
 |w1 h2 h3 h4=>exact .w1 (h2.ck hl) (hs.st3 _ _ _ h3 hA) (Goes.rely RL.trans h4 hR)
 |w2 h2 h3 h4=>exact .w2 (h2.ck hl) (hs.st3 _ _ _ h3 hA) (Goes.rely RL.trans h4 hR)
 |w3 h2 h3 h4=>exact .w3 (h2.ck hl) (hs.st3 _ _ _ h3 hA) (Goes.rely RL.trans h4 hR)
 |blk h2 h3 h4=>exact .blk (h2.ck hl) (hs.st3 _ _ _ h3 hA) (fun w x=>h4 w fun y=>x (hR y))
 |w4 h2 h3 h4=>exact .w4 (h2.ck hl) (hs.st3 _ _ _ h3 hA) (Goes.rely RL.trans h4 hR)
 |ke h2 h3 h4=>exact .ke (h2.ck hl) (hs.st3 _ _ _ h3 hA) (Goes.rely RL.trans h4 hR)
 |acq h2 h3 h4=>exact .acq (h2.ck hl) (hs.st3 _ _ _ h3 hA) (Goes.rely RL.trans h4 hR)
 |ret h2 h3 h4=>exact .ret (h2.ck hl) (hs.st3 _ _ _ h3 hA) (Goes.rely RL.trans h4 hR)
theorem StS.bound{tag:CTag}{j f dd:Nat}{g:Goroutine}(h:StS P P1 d s lo tag j f dd g S A B):j+ConcN.pend tag≤d.n:=by
 cases h<;>simp only[ConcN.pend]<;>(try simp)<;>omega
theorem WkS.status{i l st m dd:Nat}{g:Goroutine}(h:WkS P P1 d s i l st m dd g S A B):(g.status=.running)∨(g.status=.finished∧st=1):=by
 cases h with
 |b0 h1=>exact .inl (Goes.running (fun _ _ x=>by rw[show _=_ from x];rfl) B trivial h1)
 |b1 _ _ _=>exact .inl rfl
 |b2 _ _ _ _ h6=>exact .inl (Goes.running (fun _ _ x=>x.1) B (ConcN.RW.refl B) h6)
 |b3 _ _ _ _ h5=>
  by_cases hs:st=1
  ·exact h5.status.imp id fun x=>⟨x,hs⟩
  ·exact .inl (h5.running_of hs)
theorem StS.status(hs:dm P P1 d s){tag:CTag}{j f dd:Nat}{g:Goroutine}(h:StS P P1 d s lo tag j f dd g S A B):(g.status=.running∧tag≠.blk)∨(g.status=.blocked∧tag=.blk):=by
 cases h with
 |p6=>exact .inl ⟨rfl,by simp⟩
 |p1=>exact .inl ⟨rfl,by simp⟩
 |pk=>exact .inl ⟨rfl,by simp⟩
 |blk=>exact .inr ⟨rfl,rfl⟩
 |l5 _ _ _ h=>exact .inl ⟨Goes.running (fun _ _ x=>x.1) B (RL.refl B) h,by simp⟩
 |l4 _ _ _ h=>exact .inl ⟨Goes.running (fun _ _ x=>x.1) B (RL.refl B) h,by simp⟩
 |l3 _ _ _ h=>exact .inl ⟨Goes.running (fun _ _ x=>x.1) B (RL.refl B) h,by simp⟩
 |l2 _ _ _ h=>exact .inl ⟨Goes.running (fun _ _ x=>by rw[show _=_ from x];rfl) B (RL.refl B) h,by simp⟩
 |kd _ _ _ h=>exact .inl ⟨Goes.running (fun _ _ x=>x.1) B (RL.refl B) h,by simp⟩
 |anch _ _ h=>exact .inl ⟨Goes.running (fun _ _ x=>hs.EP _ _ _ x) B (RL.refl B) h,by simp⟩
 |w1 _ _ h=>exact .inl ⟨Goes.running (fun _ _ x=>x.1) B (RL.refl B) h,by simp⟩
 |w2 _ _ h=>exact .inl ⟨Goes.running (fun _ _ x=>x.1) B (RL.refl B) h,by simp⟩
 |w3 _ _ h=>exact .inl ⟨Goes.running (fun _ _ x=>x.1) B (RL.refl B) h,by simp⟩
 |w4 _ _ h=>exact .inl ⟨Goes.running (fun _ _ x=>x.1) B (RL.refl B) h,by simp⟩
 |ke _ _ h=>exact .inl ⟨Goes.running (fun _ _ x=>x.1) B (RL.refl B) h,by simp⟩
 |acq _ _ h=>exact .inl ⟨Goes.running (fun _ _ x=>x.1) B (RL.refl B) h,by simp⟩
 |ret _ _ h=>exact .inl ⟨Goes.running (fun _ _ x=>by rw[show _=_ from x];rfl) B (RL.refl B) h,by simp⟩
theorem WkS.woken{i l st m dd:Nat}{g:Goroutine}(h:WkS P P1 d s i l st m dd g S A B)(a a':Goroutine)(w':World):woken P a a' w' g=g:=by
 unfold Go.Conc.woken;split
 ·exact again_running _ (h.status.imp id (·.1))
 ·rfl
theorem StS.wokenBy(hs:dm P P1 d s){tag:CTag}{j f dd:Nat}{a:Goroutine}(h:StS P P1 d s lo tag j f dd a S A B)(w':World)(g g':Goroutine):∃tag' f',StS P P1 d s lo tag' j f' dd (woken P g g' w' a) S A B∧f'≤f+1∧(tag'=tag∨(tag=.blk∧tag'=.w3))∧(mayWake P g=true→g'.status=.running→tag'≠.blk):=by
 unfold Go.Conc.woken;split
 ·rcases h.status hs with ⟨hr,hne⟩|⟨_,rfl⟩
  ·exact⟨tag,f,by rw[again_running _ (.inl hr)];exact h,by omega,.inl rfl,fun _ _=>hne⟩
  ·cases h with
   |blk h2 h3 hb=>
    have h4:=hb B (RL.refl B);exact⟨.w3,0+1,by rw[Go.ConcR.again_blocked h4.1 h4.2.1];exact .w3 h2 h3 (Goes.stop hb),by omega,.inr ⟨rfl,rfl⟩,fun _ _=>by simp⟩
 ·rename_i hc;exact⟨tag,f,h,by omega,.inl rfl,fun h1 h2=>absurd (by simp[h1,h2]) hc⟩
end
end Go.Fc
namespace Go.Fc
open Go Go.Conc Go.Fi
open Go.ConcN (PayAt Has RW AsideCell WgLive DWs AtR0 WSit CTag WD upd upd_ne upd_same RelBy phi Vc Ssum Fsum cnt sumTo sumTo_upd sumTo_congr phi_mono phi_retag get_map_set get_map_set_same sumTo_upd_out ShN)
open Go.ConcR (KK WgAt stA smA rd wr mk Payload DC0 g_of_ofEvents)
def jB(d:PhD)(j:Nat)(t:Trace):Prop:=
 ∃q,t.act? q=some (.mark (.acquire (stA d.Wg)))∧t.g? q=some 0∧t.heard q∧∀i,i<j→∃r,RelBy (stA d.Wg) t (d.e0+i) r∧r<q
theorem jB.app{d:PhD}{j:Nat}{t u:Trace}(h:jB d j t)(hu:∀i r,i<j→RelBy (stA d.Wg) t (d.e0+i) r→RelBy (stA d.Wg) (t++u) (d.e0+i) r):jB d j (t++u):=by
 obtain⟨q,h1,h2,h3,h4⟩:=h;have hq:=lt_of_act? h1;exact⟨q,by rw[act?_old hq];exact h1,by rw[g?_old hq];exact h2,(heard_old hq).2 h3,fun i hi=>let ⟨r,hr,hrq⟩:=h4 i hi;⟨r,hu i r hi hr,hrq⟩⟩
section
variable[Payload][Xf](P P1:Program)(d:PhD)(s:Script)(t0:Trace)(B0:World)
structure PI(gs:Array Goroutine)(B:World)(j:Nat)(D:Nat→WD)(tag:CTag)(f0 d0:Nat)(a:Goroutine)(q:Nat→Nat)(own lo:Nat→Nat)(S:Nat→Sh)(A:Nat→World)(st sm:Int)(t:Trace):Prop where
 size:gs.size=d.e0+j
 zero:gs[0]?=some a
 start:StS P P1 d s lo tag j f0 d0 a (S 0) (A 0) B
 eld:∀i,0<i→i<d.e0→∃g,gs[i]?=some g∧QuitsD P (q i) (Deaf t i) g
 wk:∀i,i<j→∃g,gs[d.e0+i]?=some g∧WkS P P1 d s i (lo (i+1)) (D i).stage (D i).fuel (D i).deaf g (S (i+1)) (A (i+1)) B
 mem:Mem (Cc P1 P) d j own lo S A B B0
 trc:Trc d j own lo gs.size t0 t B.heap.size D d0
 wg:WgAt d.ty d.Wg B st sm
 mode:ConcN.Mode j D tag st sm
 acq:tag=.ret→jB d j t
 jn:j≤d.n
 dead:∀b,d.dead b→bI B b
def muP(d:PhD)(j:Nat)(D:Nat→WD)(tag:CTag)(f0:Nat)(q:Nat→Nat):Nat×Nat:=(phi d.n (Vc j D) tag+Ssum j D,f0+2*(Fsum j D+sumTo d.e0 q))
def cg(μ:Nat×Nat)(m:Machine)(t:Trace):Prop:=
 ∃gs B sl j D tag f0 d0 a q own lo S A st sm,m=crowd gs B sl∧PI P P1 d s t0 B0 gs B j D tag f0 d0 a q own lo S A st sm t∧μ=muP d j D tag f0 q
end
section
variable[Payload][Xf]{P P1:Program}{d:PhD}{s:Script}{t0:Trace}{B0:World}{gs:Array Goroutine}{B B':World}{sl:Option (Nat×Nat)}{j:Nat}{D:Nat→WD}{tag:CTag}{f0 d0:Nat}{a:Goroutine}{q:Nat→Nat}{own lo:Nat→Nat}{S:Nat→Sh}{A:Nat→World}{st sm:Int}{t:Trace}
theorem PI.uq(h:PI P P1 d s t0 B0 gs B j D tag f0 d0 a q own lo S A st sm t){es:Array Event}(k:Kept es B B'):∀b,d.dead b→bI B' b:=fun b hb=>by
 obtain⟨c,e,f,hc⟩:=h.dead b hb;obtain⟨c',h1,_⟩:=k.cell _ _ _ _ hc;exact⟨c',e,f,h1⟩
theorem PI.stepW(hs:dm P P1 d s)(hd:dc d)(h:PI P P1 d s t0 B0 gs B j D tag f0 d0 a q own lo S A st sm t){i:Nat}(hi:i<j){g g':Goroutine}{es:Array Event}(hg:gs[d.e0+i]?=some g)(hgo:stepG P false g B=.go g' B' es){own':Nat→Nat}{S':Nat→Sh}{A':Nat→World}{s' m' dd':Nat}{st' sm':Int}(hM:Mem (Cc P1 P) d j own' lo S' A' B' B0)(hA:∀p,p≤j→p≠i+1→Bel (A p).heap.size (A p) (A' p)∧(S' p).part=(S p).part)(hRL:RL d.ty d.Wg B B')(hRW:∀i',i'<j→i'≠i→RW d.ty d.Wg d.F d.n 0 i' B B')(hs':WkS P P1 d s i (lo (i+1)) s' m' dd' g' (S' (i+1)) (A' (i+1)) B')(hsz:B.heap.size≤B'.heap.size)(hown:∀b,own' b=own b∨(B.heap.size≤b∧own' b=i+1))(hes:∀e∈es,EvS d (rts d own' lo j) (i+1) B'.heap.size e)(hdd:deafBehind (D i).deaf es=dd')(hrel:s'≤6→∃r,RelBy (stA d.Wg) (t++MemOp.ofEvents (d.e0+i) g.frame.fn g.frame.place es) (d.e0+i) r)(hwg:WgAt d.ty d.Wg B' st' sm')(hcell:∀b,d.dead b→bI B' b)(hmode:∀tag',(tag'=tag∨(tag=.blk∧tag'=.w3))→(mayWake P g=true→g'.status=.running→tag'≠.blk)→ConcN.Mode j (upd D i ⟨s',m',dd'⟩) tag' st' sm')(hacq:tag=.ret→jB d j (t++MemOp.ofEvents (d.e0+i) g.frame.fn g.frame.place es))(hlt:(s'<(D i).stage∧cnt ⟨s',m',dd'⟩≤cnt (D i))∨(s'=(D i).stage∧m'+1≤(D i).fuel)):∃m₁ ops μ',runT P (crowd gs B sl) (d.e0+i)=(.next m₁,ops)∧Lt2 μ' (muP d j D tag f0 q)∧cg P P1 d s t0 B0 μ' m₁ (t++ops):=by
 have he:=hd.e0
 have hgof:gof d (i+1)=d.e0+i:=by simp[gof]
 have hne0:(d.e0+i==0)=false:=by simp;omega
 obtain⟨a1,a2⟩:=hA 0 (Nat.zero_le _) (by omega);obtain⟨tag',f',hst,hf',htag,hwake⟩:=(h.start.other hs (hM.lk 0 (Nat.zero_le _)) a1 hRL).wokenBy hs B' g g';have hrun:=runT_crowd_go (P:=P) (sl:=sl) (i:=d.e0+i) hg (by rw[hne0];exact hgo)
 have hilt:d.e0+i<gs.size:=by rw[h.size];omega
 refine⟨_,_,muP d j (upd D i ⟨s',m',dd'⟩) tag' f' q,hrun,?_,_,B',sl,j,upd D i ⟨s',m',dd'⟩,tag',f',d0,_,q,own',lo,S',A',st',sm',rfl,⟨?_,?_,hst,fun k hk0 hk=>?_,fun i' hi'=>?_,hM,?_,hwg,hmode tag' htag hwake,fun e=>?_,h.jn,hcell⟩,rfl⟩
 ·have c1:=sumTo_upd D ⟨s',m',dd'⟩ cnt hi;have c2:=sumTo_upd D ⟨s',m',dd'⟩ WD.stage hi;have c3:=sumTo_upd D ⟨s',m',dd'⟩ WD.fuel hi;simp only at c2 c3;simp only[muP];rw[phi_retag d.n _ htag];simp only[Vc,Ssum,Fsum] at *
  rcases hlt with ⟨h1,h2⟩|⟨h1,h2⟩
  ·refine Prod.Lex.left _ _ ?_;have:=phi_mono d.n (v':=sumTo j fun a=>cnt (upd D i ⟨s',m',dd'⟩ a)) (v:=sumTo j fun a=>cnt (D a)) (by omega) tag;omega
  ·have ec:cnt (⟨s',m',dd'⟩:WD)=cnt (D i):=by simp only[cnt,h1]
   have ev:(sumTo j fun a=>cnt (upd D i ⟨s',m',dd'⟩ a))=sumTo j fun a=>cnt (D a):=by omega
   have es':(sumTo j fun a=>(upd D i ⟨s',m',dd'⟩ a).stage)=sumTo j fun a=>(D a).stage:=by omega
   rw[ev,es'];refine Prod.Lex.right _ ?_;omega
 ·simp[h.size]
 ·rw[get_map_set _ _ _ _ (by omega),h.zero,Option.map_some]
 ·obtain⟨x,hx,hq⟩:=h.eld k hk0 hk;refine⟨x,by rw[get_map_set _ _ _ _ (by omega),hx,Option.map_some,woken_quitsD hq],?_⟩;rw[Deaf_other t (by omega) _ g_of_ofEvents];exact hq
 ·by_cases e:i'=i
  ·subst e;exact⟨g',get_map_set_same _ _ _ hilt,by rw[upd_same];exact hs'⟩
  ·obtain⟨x,hx,hsx⟩:=h.wk i' hi';obtain⟨b1,b2⟩:=hA (i'+1) (by omega) (by omega);refine⟨x,by rw[get_map_set _ _ _ _ (by omega),hx,Option.map_some,hsx.woken],?_⟩;rw[upd_ne D _ e];exact hsx.other hs (hM.lk _ (by omega)) b1 b2 (hRW i' hi' e)
 ·have:=h.trc.step (p:=i+1) hd (BU hM hd) (by omega) (by rw[hgof];exact hilt) hsz hown (fun q h1 h2=>(h.mem.kU q h1 h2).2) (by have:=h.mem.size;have:=hd.f;omega) (fn:=g.frame.fn) (pos:=g.frame.place) hes (D':=upd D i ⟨s',m',dd'⟩) (d0':=d0)
   (fun k hk=>upd_ne D _ (by omega)) (by simp) (fun k hk=>by obtain rfl:i=k:=(by omega);rw[upd_same];exact hdd.symm) (fun k hk hs=>by obtain rfl:i=k:=(by omega);rw[upd_same] at hs;rw[hgof];exact hrel hs)
  rw[hgof] at this;simpa using this
 ·rcases htag with rfl|⟨_,rfl⟩
  ·exact hacq e
  ·cases e
theorem PI.step0(hs:dm P P1 d s)(hd:dc d)(h:PI P P1 d s t0 B0 gs B j D tag f0 d0 a q own lo S A st sm t){a':Goroutine}{es:Array Event}{tag':CTag}{f':Nat}{st' sm':Int}(hgo:stepG P true a B=.go a' B' es){own':Nat→Nat}{S':Nat→Sh}{A':Nat→World}(hM:Mem (Cc P1 P) d j own' lo S' A' B' B0)(hA:∀p,p≤j→p≠0→Bel (A p).heap.size (A p) (A' p)∧(S' p).part=(S p).part)(hRW:∀i,i<j→RW d.ty d.Wg d.F d.n 0 i B B')(hs':StS P P1 d s lo tag' j f' (deafBehind d0 es) a' (S' 0) (A' 0) B')(hsz:B.heap.size≤B'.heap.size)(hown:∀b,own' b=own b∨(B.heap.size≤b∧own' b=0))(hes:∀e∈es,EvS d (rts d own' lo j) 0 B'.heap.size e)(hwg:WgAt d.ty d.Wg B' st' sm')(hcell:∀b,d.dead b→bI B' b)(hmode:ConcN.Mode j D tag' st' sm')(hacq:tag'=.ret→jB d j (t++MemOp.ofEvents 0 a.frame.fn a.frame.place es))(hlt:phi d.n (Vc j D) tag'<phi d.n (Vc j D) tag∨(phi d.n (Vc j D) tag'=phi d.n (Vc j D) tag∧f'<f0)):∃m₁ ops μ',runT P (crowd gs B sl) 0=(.next m₁,ops)∧Lt2 μ' (muP d j D tag f0 q)∧cg P P1 d s t0 B0 μ' m₁ (t++ops):=by
 have he:=hd.e0;have hrun:=runT_crowd_go (P:=P) (sl:=sl) (i:=0) h.zero (by simpa using hgo);refine⟨_,_,muP d j D tag' f' q,hrun,?_,_,B',sl,j,D,tag',f',deafBehind d0 es,a',q,own',lo,S',A',st',sm',rfl,⟨?_,?_,hs',fun k hk0 hk=>?_,fun i' hi'=>?_,hM,?_,hwg,hmode,hacq,h.jn,hcell⟩,rfl⟩
 ·simp only[muP]
  rcases hlt with h|⟨h1,h2⟩
  ·exact Prod.Lex.left _ _ (by omega)
  ·rw[h1];exact Prod.Lex.right _ (by omega)
 ·simp[h.size]
 ·exact get_map_set_same _ _ _ (by rw[h.size];omega)
 ·obtain⟨x,hx,hq⟩:=h.eld k hk0 hk;refine⟨x,by rw[get_map_set _ _ _ _ (by omega),hx,Option.map_some,woken_quitsD hq],?_⟩;rw[Deaf_other t (by omega) _ g_of_ofEvents];exact hq
 ·obtain⟨x,hx,hsx⟩:=h.wk i' hi';obtain⟨b1,b2⟩:=hA (i'+1) (by omega) (by omega);exact⟨x,by rw[get_map_set _ _ _ _ (by omega),hx,Option.map_some,hsx.woken],hsx.other hs (hM.lk _ (by omega)) b1 b2 (hRW i' hi')⟩
 ·have:=h.trc.step (p:=0) hd (BU hM hd) (Nat.zero_le _) (by rw[h.size];simp[gof];omega) hsz hown (fun q h1 h2=>(h.mem.kU q h1 h2).2) (by have:=h.mem.size;have:=hd.f;omega) (fn:=a.frame.fn) (pos:=a.frame.place) hes (D':=D) (d0':=deafBehind d0 es)
   (fun k _=>rfl) (by simp) (fun k hk=>by omega) (fun k hk=>by omega)
  simpa[gof] using this
theorem PI.Nd(hs:dm P P1 d s)(hd:dc d)(h:PI P P1 d s t0 B0 gs B j D tag f0 d0 a q own lo S A st sm t){i:Nat}(hi0:0<i)(hi:i<d.e0){g:Goroutine}(hg:gs[i]?=some g)(hr:g.status=.running):∃m₁ ops μ',runT P (crowd gs B sl) i=(.next m₁,ops)∧Lt2 μ' (muP d j D tag f0 q)∧cg P P1 d s t0 B0 μ' m₁ (t++ops):=by
 obtain⟨g0,hg0,hq⟩:=h.eld i hi0 hi
 obtain rfl:g=g0:=by rw[hg] at hg0;exact Option.some.inj hg0
 cases hqi:q i with
 |zero=>rw[hqi] at hq;rw[hq.1] at hr;cases hr
 |succ k=>
  rw[hqi] at hq
  rcases hq with ⟨hf,_⟩|⟨_,g',es,hm,hstp,hq'⟩
  ·rw[hf] at hr;cases hr
  have hne0:(i==0)=false:=by simp;omega
  have hrunT:=runT_crowd_go (P:=P) (sl:=sl) (i:=i) hg (by rw[hne0];exact hstp B);obtain⟨tag',f',hst,hf',htag,hwake⟩:=h.start.wokenBy hs B g g';have hilt:i<gs.size:=(Array.getElem?_eq_some_iff.1 hg).1
  have hsum:sumTo d.e0 (upd q i k)+(k+1)=sumTo d.e0 q+k:=by
   have:=sumTo_upd q k id hi;simpa[hqi] using this
  refine⟨_,_,muP d j D tag' f' (upd q i k),hrunT,?_,_,B,sl,j,D,tag',f',d0,_,upd q i k,own,lo,S,A,st,sm,rfl,⟨by simp[h.size],?_,hst,fun k' hk0 hk=>?_,fun i' hi'=>?_,h.mem,?_,h.wg,h.mode.retag htag,fun e=>?_,h.jn,h.dead⟩,rfl⟩
  ·simp only[muP];rw[phi_retag d.n _ htag];refine Prod.Lex.right _ ?_;omega
  ·rw[get_map_set _ _ _ _ (by omega),h.zero,Option.map_some]
  ·by_cases e:k'=i
   ·subst e;exact⟨g',get_map_set_same _ _ _ hilt,by rw[upd_same,Deaf_own];exact hq'⟩
   ·obtain⟨x,hx,hqx⟩:=h.eld k' hk0 hk;refine⟨x,by rw[get_map_set _ _ _ _ (by omega),hx,Option.map_some,woken_quitsD hqx],?_⟩;rw[upd_ne q k e,Deaf_other t (by omega) _ g_of_ofEvents];exact hqx
  ·obtain⟨x,hx,hsx⟩:=h.wk i' hi';exact⟨x,by rw[get_map_set _ _ _ _ (by omega),hx,Option.map_some,hsx.woken],hsx⟩
  ·have:=h.trc.mute (g:=i) (by omega) hi (by rw[h.size];omega) (fn:=g.frame.fn) (pos:=g.frame.place) hm;simpa using this
  ·rcases htag with rfl|⟨_,rfl⟩
   ·exact (h.acq e).app fun i' r hi' hr=>hr.appOther g_of_ofEvents (by omega)
   ·cases e
theorem PI.at(hs:dm P P1 d s)(h:PI P P1 d s t0 B0 gs B j D tag f0 d0 a q own lo S A st sm t)(k:Nat):PI P P1 d s t0 B0 gs (B.at k) j D tag f0 d0 a q own lo S A st sm t:=by
 have hM:Mem (Cc P1 P) d j own lo S A (B.at k) B0:=⟨fun p hp=>(h.mem.lk p hp).drawn k,h.mem.nG,h.mem.kU,h.mem.iC,h.mem.mf,h.mem.ma,h.mem.jA,h.mem.oS,h.mem.oT,h.mem.pay,h.mem.init,h.mem.mg,h.mem.same,h.mem.os,h.mem.output,h.mem.size⟩;exact⟨h.size,h.zero,h.start.other hs (hM.lk 0 (Nat.zero_le _)) (Bel.refl _ _) id,h.eld,fun i hi=>let ⟨g,hg,hw⟩:=h.wk i hi;⟨g,hg,hw.other hs (hM.lk _ (by omega)) (Bel.refl _ _) rfl (ConcN.RW.at B k)⟩,hM,h.trc,h.wg,h.mode,h.acq,h.jn,h.dead⟩
end
end Go.Fc
