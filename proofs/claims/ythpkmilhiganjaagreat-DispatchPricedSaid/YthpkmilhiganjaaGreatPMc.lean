/- Lemmas. -/
import Derived.Test.YthpkmilhiganjaaGreatPMb
import Derived.Test.YthpkmilhiganjaaGreatPLa
import Derived.Conc.Beside
set_option linter.unusedSimpArgs false
set_option linter.unusedVariables false
set_option linter.unusedSectionVars false
set_option maxHeartbeats 32000000
set_option maxRecDepth 100000
namespace Go.Fc
open Go Go.Conc Go.Fi
open Go.ConcN (sumTo upd sumTo_upd upd_ne upd_same)
theorem BM{P:Program}{m m1 m2:Machine}{t t2:Trace}{ops:Trace}{N:Nat}(h:stepT P m=(.next m1,ops))(k:runNT P N m1 (t++ops)=(.next m2,t2)):runNT P (N+1) m t=(.next m2,t2):=by
 simp only[runNT,h];exact k
theorem xB{P:Program}{Shun:Loc→Prop}{B0:Nat}{a:Goroutine}(hrun:a.status=.running):∀(M:Nat)(gs:Array Goroutine)(w:World)(sl:Option (Nat×Nat))(t:Trace)(q:Nat→Nat),sumTo gs.size q≤M→gs[0]?=some a→Leavers P t gs q→Past Shun B0 t→∃(N:Nat)(gs':Array Goroutine)(w':World)(sl':Option (Nat×Nat))(t':Trace)(q':Nat→Nat)(d:Nat)(sl2:Option (Nat×Nat)),runNT P N (crowd gs w sl) t=(.next (crowd gs' w' sl'),t')∧gs'.size=gs.size∧gs'[0]?=some a∧Leavers P t' gs' q'∧Past Shun B0 t'∧AtRel w (w'.at d)∧stepT P (crowd gs' w' sl')=runT P (crowd gs' (w'.at d) sl2) 0:=by
 intro M
 induction M with
 |zero=>
  intro gs w sl t q hM h0 hL hP
  have haw:∀g∈gs,awake g:=by
   intro g hg;obtain⟨i,hi,rfl⟩:=Array.mem_iff_getElem.1 hg
   rcases Nat.eq_zero_or_pos i with rfl|hpos
   ·have:gs[0]=a:=by simpa[Array.getElem?_eq_getElem hi] using h0
    rw[this];exact awake_of (.inl hrun)
   ·exact awake_of ((hL.old i _ hpos (Array.getElem?_eq_getElem hi)).status.elim .inl fun x=>.inr (.inr x))
  obtain⟨i,g,d,sl',hi,hg,hst⟩:=crowd_pick (P:=P) (w:=w) (sl:=sl) haw ⟨0,a,h0,hrun⟩
  rcases Nat.eq_zero_or_pos i with rfl|hpos
  ·exact⟨0,gs,w,sl,t,q,d,sl',rfl,rfl,h0,hL,hP,⟨d,rfl⟩,hst⟩
  ·exfalso;have hq:=hL.old i g hpos hi;have hlt:i<gs.size:=(Array.getElem?_eq_some_iff.1 hi).1;have:=Go.ConcN.le_sumTo (f:=q) hlt
   have h0':q i=0:=by omega
   rw[h0'] at hq;rw[hq.1] at hg;cases hg
 |succ M ih=>
  intro gs w sl t q hM h0 hL hP
  have haw:∀g∈gs,awake g:=by
   intro g hg;obtain⟨i,hi,rfl⟩:=Array.mem_iff_getElem.1 hg
   rcases Nat.eq_zero_or_pos i with rfl|hpos
   ·have:gs[0]=a:=by simpa[Array.getElem?_eq_getElem hi] using h0
    rw[this];exact awake_of (.inl hrun)
   ·exact awake_of ((hL.old i _ hpos (Array.getElem?_eq_getElem hi)).status.elim .inl fun x=>.inr (.inr x))
  obtain⟨i,g,d,sl',hi,hg,hst⟩:=crowd_pick (P:=P) (w:=w) (sl:=sl) haw ⟨0,a,h0,hrun⟩
  rcases Nat.eq_zero_or_pos i with rfl|hpos
  ·exact⟨0,gs,w,sl,t,q,d,sl',rfl,rfl,h0,hL,hP,⟨d,rfl⟩,hst⟩
  ·have hq:=hL.old i g hpos hi
   have hi0:(i==0)=false:=by simp;omega
   have hlt:i<gs.size:=(Array.getElem?_eq_some_iff.1 hi).1
   cases hqi:q i with
   |zero=>rw[hqi] at hq;rw[hq.1] at hg;cases hg
   |succ k=>
    rw[hqi] at hq
    rcases hq with ⟨hf,_⟩|⟨_,g',es,hm,hstp,hq'⟩
    ·rw[hf] at hg;cases hg
    have hrunT:=runT_crowd_go (P:=P) (sl:=sl') (i:=i) hi (by rw[hi0];exact hstp (w.at d))
    have hsz:((gs.map (woken P g g' (w.at d))).setIfInBounds i g').size=gs.size:=by simp
    have hsum:sumTo gs.size (upd q i k)+(k+1)=sumTo gs.size q+k:=by
     have:=sumTo_upd q k id hlt;simpa[hqi] using this
    obtain⟨N,gs',w',sl'',t',q',d',sl2,hr,hs',h0',hL',hP',hat,hst'⟩:=ih ((gs.map (woken P g g' (w.at d))).setIfInBounds i g') (w.at d) sl' (t++MemOp.ofEvents i g.frame.fn g.frame.place es) (upd q i k) (by rw[hsz];omega)
     (by
       have hne:i≠0:=by omega
       rw[Array.getElem?_setIfInBounds_ne hne,Array.getElem?_map,h0]
       simp[woken_run hrun])
     ⟨fun j x hj hx=>by
       by_cases hji:i=j
       ·subst hji;rw[Array.getElem?_setIfInBounds_self_of_lt (by simpa using hlt)] at hx;obtain rfl:=Option.some.inj hx;rw[upd_same,Deaf_own];exact hq'
       ·rw[Array.getElem?_setIfInBounds_ne hji,Array.getElem?_map] at hx;obtain⟨y,hy,rfl⟩:=Option.map_eq_some_iff.1 hx;have hqj:=hL.old j y hj hy;rw[woken_quitsD hqj,upd_ne q k (Ne.symm hji),Deaf_other t hji _ (fun op hop=>by obtain⟨e,_,rfl⟩:=Go.Conc.mem_ofEvents hop;rfl)]
        exact hqj,fun j hj=>by
       rw[Deaf_other t (g':=i) (by simp at hj;omega) _ (fun op hop=>by obtain⟨e,_,rfl⟩:=Go.Conc.mem_ofEvents hop;rfl)]
       exact hL.above j (by simpa using hj)⟩
     (hP.mute (by omega) hm)
    exact⟨N+1,gs',w',sl'',t',q',d',sl2,BM (hst.trans hrunT) hr,hs'.trans hsz,h0',hL',hP',atRel_trans _ _ _ ⟨d,rfl⟩ hat,hst'⟩
variable[Xf][EnvD]
def jz(S:Sh):Loc→Prop:=fun l=>∃a,l=.cell a∧S.dead a.block
omit [Xf] [EnvD] in
theorem BN{S:Sh}{n:World}{e:Event}(h:EvT S n e):EvL (jz S) n.heap.size e:=by
 rcases h with ⟨a,wr,rfl,⟨c,ty,fr,h1⟩,h2⟩|⟨r,wr,sy,rfl,h1,h2⟩|rfl
 ·exact evL_cell a wr (by rintro⟨b,hb,hd⟩;cases hb;exact h2 hd) (Array.getElem?_eq_some_iff.1 h1).1
 ·refine⟨fun x hx hs=>?_,by simp,by simp,?_⟩
  ·obtain⟨b,hb,_⟩:=hs
   cases wr<;>cases sy<;>simp[MemAct.ofEvent,MemAct.touch?] at hx<;>subst hx<;>simp at hb
  ·cases wr<;>cases sy<;>simpa[MemAct.ofEvent,MemAct.low,Loc.low] using h1
 ·exact⟨fun x hx=>by simp[MemAct.ofEvent,MemAct.touch?] at hx,by simp,by simp,trivial⟩
section
variable(P0 P:Program)
def zc(base:List Frame)(fr:Frame)(cs:List Frame)(fr2:Frame):Prop:=
 (∃pre,cs=pre++base∧(∀x∈pre,bD P0 P x)∧Fok P0 P fr fr2)∨(fr2=fr∧∃(c:Frame)(v:Value),base=c::cs∧fr=c.finish v)
structure fV where
 n0:Nat
 old:Nat→Obj→Prop
variable(K:fV)
structure Sit(S:Sh)(base:List Frame)(fr:Frame)(cs:List Frame)(A:World)(gs:Array Goroutine)(B:World)(t:Trace)(q:Nat→Nat):Prop where
 st:∃fr2,gs[0]?=some (G fr2 cs)∧zc P0 P base fr cs fr2
 lk:Lk (Cc P0 P) S A B
 whole:∀b i,¬S.part b i
 iw:∀b,S.dead b→K.n0≤b
 ma:S.old=K.old
 old:Leavers P t gs q
 kE:Past (jz S) B.heap.size t
 n0:K.n0≤B.heap.size
def oQ:Prop:=∀(f:FuncId)(args:Array Value)(c:Frame)(cs:List Frame)(base:List Frame)(A:World)(S:Sh)(R:World→Value→World→Prop)(gs:Array Goroutine)(B:World)(sl:Option (Nat×Nat))(t:Trace)(q:Nat→Nat),
 Xf.xf f→(∀w1,EnvD.E A w1→EnvD.xt f args w1 (R w1))→Sit P0 P K S base (Frame.enter P0 f args .normal) (c::cs) A gs B t q→gs[0]?=some (G (Frame.enter P f args .normal) (c::cs)) →
 ∃(N:Nat)(gs':Array Goroutine)(B':World)(sl':Option (Nat×Nat))(t':Trace)(q':Nat→Nat)(S':Sh)(A1 A':World)(v:Value),
  runNT P N (crowd gs B sl) t=(.next (crowd gs' B' sl'),t')∧EnvD.E A A1∧R A1 v A'∧gs'[0]?=some (G (c.finish v) cs)∧Lk (Cc P0 P) S' A' B'∧(∀b i,¬S'.part b i)∧(∀b,S'.dead b→K.n0≤b)∧S'.old=K.old∧Leavers P t' gs' q'∧Past (jz S') B'.heap.size t'∧B.heap.size≤B'.heap.size
structure nD(bad:Nat→Prop):Prop where
 kin:gK P0 P (Cc P0 P) bad
 apart:∀f,bad f→¬Xf.xf f
 known:∀f args w R,EnvD.xt f args w R→Xf.xf f
 oR:∀f,bad f∨Xf.xf f→∀args cs w g' w' es,stepG P0 true (G (Frame.enter P0 f args .normal) cs) w≠.go g' w' es
 own:∀f,Xf.xf f→¬(Cc P0 P).fn f
 tmps:∀f,Xf.xf f→(P0.funcs[f]?).map (·.ntmps)=(P.funcs[f]?).map (·.ntmps)
 gN:∀(w:World) t d,EnvD.E w { w with tape:=t,drawn:=d }
end
section
variable{P0 P:Program}{bad:Nat→Prop}{S:Sh}{K:fV}
omit [Xf] [EnvD] in
theorem Lk.ze{C:Cx}{A B:World}(h:Lk C S A B)(t u:Nat→Question→Nat)(d e:Nat):Lk C S { A with tape:=t,drawn:=d } { B with tape:=u,drawn:=e }:=⟨h.size,h.low,h.same,h.dead,h.os,h.output⟩
omit [EnvD] in
theorem IV{f:FuncId}{a b:Array Value}(hn:(P0.funcs[f]?).map (·.ntmps)=(P.funcs[f]?).map (·.ntmps))(h:Frame.enter P0 f a .normal=Frame.enter P0 f b .normal):Frame.enter P f a .normal=Frame.enter P f b .normal:=by
 simp only[Frame.enter,Frame.mk.injEq] at h ⊢;rw[hn] at h;exact⟨trivial,h.2.1,trivial,trivial,trivial,trivial,trivial⟩
theorem zc.top{base:List Frame}{fr fr2:Frame}{cs:List Frame}(h:zc P0 P base fr cs fr2)(hn:base.length≤cs.length):∃pre,cs=pre++base∧(∀x∈pre,bD P0 P x)∧Fok P0 P fr fr2:=by
 rcases h with h|⟨_,c,v,hb,_⟩
 ·exact h
 ·rw[hb] at hn;simp at hn;omega
theorem BQ(hp:nD P0 P bad)(kI:oQ P0 P K)(hbot:∀f,¬Xf.bot f){base:List Frame}{Φ:Frame→List Frame→World→Prop}(hΦ:∀f args cs w,bad f→¬Φ (Frame.enter P0 f args .normal) cs w){fr:Frame}{cs:List Frame}{A:World}(hT:T P0 base.length Φ fr cs A):∀(S:Sh)(gs:Array Goroutine)(B:World)(sl:Option (Nat×Nat))(t:Trace)(q:Nat→Nat),Sit P0 P K S base fr cs A gs B t q→∃(N:Nat)(gs':Array Goroutine)(B':World)(sl':Option (Nat×Nat))(t':Trace)(q':Nat→Nat)(S':Sh)(fr':Frame)(cs':List Frame)(A':World),runNT P N (crowd gs B sl) t=(.next (crowd gs' B' sl'),t')∧Sit P0 P K S' base fr' cs' A' gs' B' t' q'∧Φ fr' cs' A':=by
 have dead:∀{f:FuncId}{args:Array Value}{cs:List Frame}{w:World},bad f→T P0 base.length Φ (Frame.enter P0 f args .normal) cs w→False:=by
  intro f args cs w hb h;generalize hfr:Frame.enter P0 f args .normal=fr at h
  cases h with
  |now h=>subst hfr;exact hΦ _ _ _ _ hb h
  |quiet fr' cs' h1 h2 h3 hn=>subst hfr;exact hp.oR f (.inl hb) _ _ _ _ _ _ (h1 w)
  |step h1 h2 hn=>
   subst hfr;obtain⟨_,_,_,_,e,_⟩:=h1 _ (hp.gN w w.tape w.drawn);exact hp.oR f (.inl hb) _ _ _ _ _ _ e
  |ext R h1 h2 hn=>
   rename_i f' args' c cs';have:f=f':=congrArg Frame.fn hfr;subst this;exact hp.apart f hb (hp.known _ _ _ _ (h1 _ (hp.gN w w.tape w.drawn)))
 have one:∀{fr:Frame}{cs:List Frame}{A:World}(S:Sh)(gs:Array Goroutine)(B:World)(sl:Option (Nat×Nat))(t:Trace)(q:Nat→Nat),Sit P0 P K S base fr cs A gs B t q→base.length≤cs.length →
  (∀tp d,∃fr' cs' A' es,stepG P0 true (G fr cs) { A with tape:=tp,drawn:=d } = .go (G fr' cs') A' es∧fj fr'∧∃w0,T P0 base.length Φ fr' cs' w0) →
  ∃(N:Nat)(gs':Array Goroutine)(B':World)(sl':Option (Nat×Nat))(t':Trace)(q':Nat→Nat)(tp:Nat→Question→Nat)(d:Nat)(fr':Frame)(cs':List Frame)(A':World)(es:Array Event),
   runNT P N (crowd gs B sl) t=(.next (crowd gs' B' sl'),t')∧stepG P0 true (G fr cs) { A with tape:=tp,drawn:=d } = .go (G fr' cs') A' es∧Sit P0 P K S base fr' cs' A' gs' B' t' q':=by
  intro fr cs A S gs B sl t q hsit hn hst;obtain⟨⟨fr2,h0,hstd⟩,hlk,hwh,hde,hol,hold,hpast,hn0⟩:=hsit;obtain⟨pre,rfl,hpre,hfok⟩:=hstd.top hn;obtain⟨N,gs',w',sl',t',q',d,sl2,hr,hsz,h0',hL',hP',⟨d2,hat⟩,hstp⟩:=xB (P:=P) (a:=G fr2 (pre++base)) rfl _ gs B sl t q (Nat.le_refl _) h0 hold hpast;obtain⟨fr',cs',A',es,hs,hcalm,w0,hT'⟩:=hst (w'.at d).tape (w'.at d).drawn
  rcases hfok with ⟨e0,hf⟩|⟨f,args,hxf,rfl,rfl⟩
  ·obtain rfl:fr=fr2:=e0.symm
   have hlk1:Lk (Cc P0 P) S { A with tape:=(w'.at d).tape,drawn:=(w'.at d).drawn } (w'.at d):=by
    rw[hat];exact hlk.ze _ B.tape _ d2
   rcases BL hp.kin hf (.inl rfl) hlk1 hs with ⟨f,args,cs2,hb,e1,e2⟩|(⟨ch,hch⟩|hdy)|hal
   ·simp only[G] at e1;rw[e1] at hT';exact (dead hb hT').elim
   ·exact absurd hch (hcalm ch)
   ·exact absurd rfl hdy
   ·obtain⟨_,_,hsz2,_,_,_,hgo⟩:=hal fun e he a _=>hwh _ _
    obtain⟨f2,B',hcf,hB,hlk',_,_,_,hev⟩:=hgo fun j hj=>rfl
    have hB':stepG P true (G fr (pre++base)) (w'.at d)=.go (G f2 cs') B' es:=hB;have hrunT:=runT_crowd_go (P:=P) (sl:=sl2) (i:=0) h0' (show stepG P (0==0) (G fr (pre++base)) (w'.at d)=_ from hB');have hlt:0<gs'.size:=(Array.getElem?_eq_some_iff.1 h0').1;refine⟨N+1,(gs'.map (woken P (G fr (pre++base)) (G f2 cs') B')).setIfInBounds 0 (G f2 cs'),B',sl2,t'++MemOp.ofEvents 0 (G fr (pre++base)).frame.fn (G fr (pre++base)).frame.place es,q',_,_,fr',cs',A',es,?_,hs,⟨⟨f2,by simp[hlt],?_⟩,hlk',hwh,hde,hol,⟨fun j x hj hx=>?_,fun j hj=>?_⟩,?_,?_⟩⟩
    ·rw[runNT_add,hr];show runNT P 1 _ _=_;simp only[runNT,hstp,hrunT]
    ·rcases hcf with ⟨hc,hfk⟩|⟨e1,c,v,e2,e3,_⟩|⟨_,_,_,hb,_⟩
     ·rcases hc with ⟨hc,_⟩|⟨f1,hf1,_,_,hc⟩
      ·exact .inl ⟨pre,hc,hpre,hfk⟩
      ·exact .inl ⟨f1::pre,hc,fun x hx=>(List.mem_cons.1 hx).elim (fun e=>e▸hf1) (hpre x),hfk⟩
     ·simp only[G] at e1 e2 e3
      cases pre with
      |nil=>exact .inr ⟨e1,c,v,e2,e3⟩
      |cons p ps=>
       simp only[List.cons_append,List.cons.injEq] at e2;obtain⟨rfl,rfl⟩:=e2;exact .inl ⟨ps,rfl,fun x hx=>hpre x (List.mem_cons_of_mem _ hx),.inl ⟨e1,e3▸(hpre p List.mem_cons_self).finish v⟩⟩
     ·exact absurd hb (hbot _)
    ·have hne:0≠j:=by omega
     rw[Array.getElem?_setIfInBounds_ne hne,Array.getElem?_map] at hx;obtain⟨y,hy,rfl⟩:=Option.map_eq_some_iff.1 hx;have hq:=hL'.old j y hj hy;rw[woken_quitsD hq,Deaf_other t' (by omega) _ (fun op hop=>by obtain⟨e,_,rfl⟩:=Go.Conc.mem_ofEvents hop;rfl)];exact hq
    ·rw[Deaf_other t' (g':=0) (by simp at hj;omega) _ (fun op hop=>by obtain⟨e,_,rfl⟩:=Go.Conc.mem_ofEvents hop;rfl)];exact hL'.above j (by simpa using hj)
    ·have hszB:B.heap.size≤B'.heap.size:=by
      rw[←hlk'.size,←hlk.size];exact hsz2
     exact (hP'.mono hszB).own fun e he=>BN (hev e he)
    ·have hszB:B.heap.size≤B'.heap.size:=by
      rw[←hlk'.size,←hlk.size];exact hsz2
     exact Nat.le_trans hn0 hszB
  ·exact absurd hs (hp.oR f (.inr hxf) _ _ _ _ _ _)
 induction hT with
 |now h=>exact fun S gs B sl t q hs=>⟨0,gs,B,sl,t,q,S,_,_,_,rfl,hs,h⟩
 |quiet fr' cs' h1 h2 h3 hn ih=>
  rename_i fr cs w;intro S gs B sl t q hs
  obtain⟨N,gs',B',sl',t',q',tp,d,f2,c2,A2,es,hr,hst,hs'⟩:=one S gs B sl t q hs hn fun tp d=>⟨fr',cs',_,_,h1 _,h2,_,h3⟩
  ·rw[h1 _] at hst
   injection hst with e1 e2 e3
   injection e1 with e4 e5
   subst e4;subst e5;subst e2;obtain⟨x1,x2,x3,x4,x5,x6,x7,x8⟩:=hs';obtain⟨N2,y⟩:=ih S gs' B' sl' t' q' ⟨x1,⟨x2.size,x2.low,x2.same,x2.dead,x2.os,x2.output⟩,x3,x4,x5,x6,x7,x8⟩;obtain⟨gs2,B2,sl2,t2,q2,S2,fr2,cs2,A2,hr2,hs2,hf⟩:=y;exact⟨N+N2,gs2,B2,sl2,t2,q2,S2,fr2,cs2,A2,by rw[runNT_add,hr];exact hr2,hs2,hf⟩
 |step h1 h2 hn ih=>
  rename_i fr cs w;intro S gs B sl t q hs
  obtain⟨N,gs',B',sl',t',q',tp,d,f2,c2,A2,es,hr,hst,hs'⟩:=one S gs B sl t q hs hn fun tp d=>by
   obtain⟨fr',cs',w',es,e1,e2,_⟩:=h1 _ (hp.gN w tp d);exact⟨fr',cs',w',es,e1,e2,_,h2 _ _ _ _ _ (hp.gN w tp d) e1⟩
  obtain⟨N2,gs2,B2,sl2,t2,q2,S2,fr2,cs2,A3,hr2,hs2,hf⟩:=ih _ _ _ _ _ (hp.gN w tp d) hst S gs' B' sl' t' q' hs';exact⟨N+N2,gs2,B2,sl2,t2,q2,S2,fr2,cs2,A3,by rw[runNT_add,hr];exact hr2,hs2,hf⟩
 |ext R h1 h2 hn ih=>
  rename_i f args c cs w;intro S gs B sl t q hs;have hxf:Xf.xf f:=hp.known _ _ _ _ (h1 _ (hp.gN w w.tape w.drawn));obtain⟨fr2,h0,hstd⟩:=hs.st;obtain⟨pre,hpe,hpre,hfok⟩:=hstd.top hn
  have hfr2:fr2=Frame.enter P f args .normal:=by
   rcases hfok with ⟨rfl,hf⟩|⟨f',args',hxf',e1,rfl⟩
   ·exact absurd (hf.calm.resolve_right fun h=>hbot _ h.1).2.2 (hp.own f hxf)
   ·have:f=f':=congrArg Frame.fn e1;subst this;exact (IV (hp.tmps f hxf) e1).symm
  subst hfr2;obtain⟨N,gs',B',sl',t',q',S',A1,A',v,hr,hE,hR,h0',hlk',hwh',hde',hol',hL',hP',hszX⟩:=kI f args c cs base w S R gs B sl t q hxf h1 hs h0
  have hsit:Sit P0 P K S' base (c.finish v) cs A' gs' B' t' q':=by
   refine⟨⟨_,h0',?_⟩,hlk',hwh',hde',hol',hL',hP',Nat.le_trans hs.n0 hszX⟩
   cases pre with
   |nil=>exact .inr ⟨rfl,c,v,hpe.symm,rfl⟩
   |cons p ps=>
    simp only[List.cons_append,List.cons.injEq] at hpe;obtain⟨rfl,rfl⟩:=hpe;exact .inl ⟨ps,rfl,fun x hx=>hpre x (List.mem_cons_of_mem _ hx),.inl ⟨rfl,(hpre c List.mem_cons_self).finish v⟩⟩
  obtain⟨N2,gs2,B2,sl2,t2,q2,S2,fr2,cs2,A3,hr2,hs2,hf⟩:=ih A1 v A' hE hR S' gs' B' sl' t' q' hsit;exact⟨N+N2,gs2,B2,sl2,t2,q2,S2,fr2,cs2,A3,by rw[runNT_add,hr];exact hr2,hs2,hf⟩
end
end Go.Fc
namespace Go.Fc
open Go Go.Conc Go.Fi
open Go.ConcN (sumTo)
noncomputable def fI(C:Cx)(W:World):World:={ W with heap:=W.heap.mapIdx fun b o=>open Classical in if okO C o then o else gn b o }
def rootOf(W:World):fV:=⟨W.heap.size,fun b o=>W.heap[b]?=some o⟩
section
variable{C:Cx}{W:World}
theorem uP:(fI C W).heap.size=W.heap.size:=by simp[fI]
theorem qW{b:Nat}{o:Obj}(h:W.heap[b]?=some o)(ho:okO C o):(fI C W).heap[b]?=some o:=by
 simp[fI,h,ho]
theorem yx{b:Nat}{o:Obj}(h:W.heap[b]?=some o)(ho:¬okO C o):(fI C W).heap[b]?=some (gn b o):=by
 simp[fI,h,ho]
theorem Ef(b:Nat)(o:Obj):¬okO C (gn b o):=by cases o<;>exact id
theorem Ly:Lk C ⟨fun _=>False,fun _ _=>False,fun b o=>W.heap[b]?=some o⟩ (fI C W) W:=by
 refine⟨uP,fun b h=>h.elim,fun b _=>?_,fun b h=>h.elim,rfl,rfl⟩
 rcases hx:W.heap[b]? with _|o
 ·have:(fI C W).heap[b]?=none:=by
   rw[Array.getElem?_eq_none_iff,uP];exact Array.getElem?_eq_none_iff.1 hx
  exact .inl ⟨this,fun o e=>by rw[this] at e;cases e⟩
 ·by_cases ho:okO C o
  ·exact .inl ⟨by rw[qW hx ho],fun o' e=>by rw[qW hx ho] at e;cases e;exact ho⟩
  ·exact .inr (.inl ⟨o,rfl,ho,yx hx ho,hx⟩)
theorem PN{S:Sh}{A B:World}(hl:Lk C S A B)(hd:∀b,S.dead b→(rootOf W).n0≤b)(ho:S.old=(rootOf W).old)(hw:∀b i,¬S.part b i)(hb:Bel W.heap.size (fI C W) A):Bel W.heap.size W B:=by
 refine⟨hl.os.symm.trans hb.os,hl.output.symm.trans hb.output,by rw[←hl.size,←uP (C:=C)];exact hb.size,fun b hlt=>?_⟩;have hA:=hb.block b hlt;obtain⟨o,hx⟩:∃o,W.heap[b]?=some o:=⟨_,Array.getElem?_eq_getElem hlt⟩
 have hnd:¬S.dead b:=fun h=>by have:=hd b h;simp only[rootOf] at this;omega
 rcases hl.same b hnd with ⟨e,hk⟩|⟨o',h1,h2,h3,h4⟩|⟨cA,cB,e,f,h1,h2,h3,h4⟩
 ·rw[←e,hA];by_cases hok:okO C o
  ·rw[qW hx hok,hx]
  ·rw[yx hx hok] at hA;exact absurd (hk _ hA) (Ef b o)
 ·rw[ho] at h4;rw[h1];exact h4.symm
 ·have hc:cA=cB:=Array.ext' (List.ext_getElem? fun i=>by simpa using h4 i (hw b i));subst hc;rw[h2,←h1,hA];by_cases hok:okO C o
  ·rw[qW hx hok,hx]
  ·rw[yx hx hok] at hA;rw[h1] at hA;have:=Ef (C:=C) b o;rw[←Option.some.inj hA] at this;exact absurd trivial this
end
section
variable[Xf][ar]{P0 P:Program}{bad:Nat→Prop}
theorem Lz(S:Loc→Prop)(n:Nat):Past S n #[]:=
 ⟨fun said=>by rintro⟨i,j,_,⟨a,b,ha,_⟩,_⟩;simp[Trace.act?] at ha,fun i a ha=>by simp[touchAt,Trace.act?] at ha,fun i g hg=>by simp[Trace.g?] at hg,rfl,by simp⟩
theorem PO(hp:nD P0 P bad){W:World}(kI:oQ P0 P (rootOf W))(hbot:∀f,¬Xf.bot f){f:FuncId}{fn:Func}{c:Code}{args:Array Value}{t:Tmp}{R:Value→World→Prop}{fO:Value→World→Prop}(hf:P.funcs[f]?=some fn)(hb:fn.body=some c)(hc:Cd P0 c)(hfn:(Cc P0 P).fn f)(hnb:¬bad f)(hrs:fn.results=#[.tmp t])(h:c.wpT none P0 (Go.Fi.bodyPost P0 fn fun e w'=>∃v,e=.returned v∧R v w') { tmps:=args++Array.replicate (fn.ntmps-args.size) undef,defers:=[] } (fI (Cc P0 P) W))(hpost:∀v A B S,R v A→Lk (Cc P0 P) S A B→(∀b,S.dead b→W.heap.size≤b)→S.old=(rootOf W).old→(∀b i,¬S.part b i)→fO v B):∃N last o w' t',runNT P (N+1) (solo (G (Frame.enter P f args .normal) []) W) #[]=(.ended o w',t')∧runN P N (solo (G (Frame.enter P f args .normal) []) W)=.next last∧step P last=.ended o w'∧Go.Conc.Good P fO last o w' t':=by
 let b:Frame:={ (default:Frame) with fn:=f,kind:=.normal,roundOf:=none }
 have henter:Frame.enter P f args .normal=b.atR { tmps:=args++Array.replicate (fn.ntmps-args.size) undef,defers:=[] } [.code c]:=by
  simp[Frame.enter,Frame.atR,hf,hb,b]
 have hT:=h b [] [] rfl (by simp[b])
 have hΦ:∀f' args cs w,bad f'→¬Arr b [] [] (Go.Fi.bodyPost P0 fn fun e w'=>∃v,e=.returned v∧R v w') (Frame.enter P0 f' args .normal) cs w:=by
  rintro f' args' cs w hbad ⟨_,e,a,_,he⟩
  cases e with
  |normal=>
   have:f'=f:=congrArg Frame.fn he;exact hnb (this▸hbad)
  |exit id=>
   obtain⟨k1,_,he⟩:=he;have:f'=f:=congrArg Frame.fn he;exact hnb (this▸hbad)
  |ret=>
   obtain⟨k1,he⟩:=he;have:f'=f:=congrArg Frame.fn he;exact hnb (this▸hbad)
  |_=>exact he.elim
 have hf0:bD P0 P (Frame.enter P f args .normal):=by
  rw[henter];refine⟨fun it hit=>?_,by simp[Frame.atR,b],.inl ⟨rfl,fun d hd=>by simp[Frame.atR] at hd,hfn⟩,fun ch=>by simp[Frame.atR],hfn.1.imp fun fn h=>⟨fn,h.1,h.2.1,h.2.2,h.2.2⟩⟩;simp only[Frame.atR,List.mem_singleton] at hit;subst hit;exact hc
 have hsit:Sit P0 P (rootOf W) ⟨fun _=>False,fun _ _=>False,fun b o=>W.heap[b]?=some o⟩ [] (b.atR { tmps:=args++Array.replicate (fn.ntmps-args.size) undef,defers:=[] } [.code c]) [] (fI (Cc P0 P) W) #[G (Frame.enter P f args .normal) []] W #[] (fun _=>0):=by
  refine⟨⟨Frame.enter P f args .normal,rfl,.inl ⟨[],rfl,by simp,.inl ⟨henter,by rw[←henter];exact hf0⟩⟩⟩,Ly,fun _ _=>id,fun _ h=>h.elim,rfl,leavers_one P _,Lz _ _,Nat.le_refl _⟩
 obtain⟨N,gs',B',sl',t',q',S',fr',cs',A',hr,hs',hArr⟩:=BQ hp kI hbot hΦ hT _ _ _ none _ _ hsit;obtain⟨rfl,e,a,hq,he⟩:=hArr;obtain⟨⟨fr2,h0,hst⟩,hlk,hwh,hde,hol,hold,hpast,_⟩:=hs'
 obtain⟨hfr,hret,hd⟩:fr'=b.atR a fr'.todo∧(∀w1,stepG P true (G fr' []) w1=.go (G { fr' with mode:=.returning } []) w1 #[])∧a.defers=[]∧∀w1,EnvD.E A' w1→∃v,(results fn a.tmps).run P0 w1=.ok v w1∧∃v',Ending.returned v=.returned v'∧R v' w1:=by
  cases e with
  |normal=>subst he;exact⟨rfl,fun w1=>va rfl,hq⟩
  |ret=>obtain⟨k1,rfl⟩:=he;exact⟨rfl,fun w1=>u9 rfl,hq⟩
  |_=>exact hq.elim
 obtain⟨hdef,hR⟩:=hd
 have hfr2:fr2=fr':=by
  rcases hst with ⟨pre,hpe,_,hfk⟩|⟨_,c,v,hb',_⟩
  ·rcases hfk with ⟨e,_⟩|⟨f',args',hx,e1,_⟩
   ·exact e
   ·have:f=f':=by rw[hfr] at e1;exact congrArg Frame.fn e1
    exact absurd hfn (hp.own f (this▸hx))
  ·cases hb'
 subst hfr2;obtain⟨v,hrun,v',hv,hRv⟩:=hR _ (hp.gN A' A'.tape A'.drawn);cases hv
 have hv:v=a.tmps.getD t undef:=by
  rw[results_tmp hrs _ P0 _] at hrun;cases hrun;rfl
 have hinit:P.inits.idxOf? f=none:=by rw[IM hp.kin.kin];exact hfn.2
 have hend:Goes P true AtRel (fun _ _ es=>es=#[]) (AtEnd P (jz S') B'.heap.size fO) 1 (G fr2 []) B':=by
  refine Goes.step rfl fun w1 h1=>?_
  rw[hret w1];refine⟨rfl,fun w2 h2=>?_⟩;obtain⟨d,hd⟩:=atRel_trans _ _ _ h1 h2;refine⟨rfl,v,#[],?_,by simp,?_⟩
  ·have htm:fr2.tmps=a.tmps:=by rw[hfr];rfl
   have hdf:fr2.defers=[]:=by rw[hfr];exact hdef
   have hfn2:fr2.fn=f:=by rw[hfr];rfl
   have hkd:fr2.kind=.normal:=by rw[hfr];rfl
   have hrn:(results fn fr2.tmps).run P w2=.ok v w2:=by rw[results_tmp hrs _ P w2,htm,hv]
   have hev:(results fn fr2.tmps).events P w2 #[]=#[]:=events_results_tmp hrs _ _;simp only[G,stepG,unwind,hdf,hfn2,hf,Sem.runT_eq,hrn,hev,seen_none,doReturn,hkd,hinit,Bool.not_true,Bool.false_eq_true,if_false,GStep.after];rfl
  ·subst hd;exact hpost v _ _ S' hRv (hlk.ze A'.tape B'.tape A'.drawn d) hde hol hwh
 obtain⟨N2,last,o,w',t2,e1,e2,e3,e4⟩:=beside_ends (D:=fun _ _ es=>es=#[]) (fun w w' es hes e he=>by subst hes;simp at he) h0 hold hpast hend (sl:=sl');refine⟨N+N2,last,o,w',t2,?_,?_,e3,e4⟩
 ·rw[Nat.add_assoc,runNT_add];rw[solo_eq_crowd,hr];exact e1
 ·rw[runN_add,←runNT_fst P _ _ #[],solo_eq_crowd,hr];exact e2
end
end Go.Fc
namespace Go.Fi
open Go Go.RowKit
open Go.Conc (G)
section
variable[EnvD]
def TN(P:Program)(n m:Nat)(Φ:Frame→List Frame→World→Prop):Nat→Frame→List Frame→World→Prop
 |0,fr,cs,w=>Φ fr cs w
 |N+1,fr,cs,w=>Φ fr cs w ∨
  (n≤cs.length∧∃fr' cs',(∀w1,stepG P true (G fr cs) w1=.go (G fr' cs') w1 #[])∧fj fr'∧(fr'.mode=.run∨m<cs'.length)∧TN P n m Φ N fr' cs' w) ∨
  (n≤cs.length∧∀w1,EnvD.E w w1→∃fr' cs' w' es,stepG P true (G fr cs) w1=.go (G fr' cs') w' es∧fj fr'∧(fr'.mode=.run∨m<cs'.length)∧EnvD.D w1 es∧TN P n m Φ N fr' cs' w')
variable{P:Program}{n m:Nat}{Φ Ψ:Frame→List Frame→World→Prop}{fr:Frame}{cs:List Frame}{w:World}
theorem TN.now(h:Φ fr cs w):∀{N:Nat},TN P n m Φ N fr cs w
 |0=>h
 |_+1=>.inl h
theorem TN.quiet{N:Nat}(fr':Frame)(cs':List Frame)(h1:∀w1,stepG P true (G fr cs) w1=.go (G fr' cs') w1 #[])(h2:fj fr')(h3:fr'.mode=.run∨m<cs'.length)(h:TN P n m Φ N fr' cs' w)(hn:n≤cs.length:=by simp):TN P n m Φ (N+1) fr cs w:=
 .inr (.inl ⟨hn,fr',cs',h1,h2,h3,h⟩)
theorem TN.bV{N:Nat}(h:∀w1,EnvD.E w w1→∃fr' cs' w' es,stepG P true (G fr cs) w1=.go (G fr' cs') w' es∧fj fr'∧(fr'.mode=.run∨m<cs'.length)∧EnvD.D w1 es∧TN P n m Φ N fr' cs' w')(hn:n≤cs.length:=by simp):TN P n m Φ (N+1) fr cs w:=
 .inr (.inr ⟨hn,h⟩)
theorem TN.succ:∀{N:Nat}{fr:Frame}{cs:List Frame}{w:World},TN P n m Φ N fr cs w→TN P n m Φ (N+1) fr cs w
 |0,_,_,_,h=>.inl h
 |N+1,fr,cs,w,h=>by
  rcases h with h|⟨hn,fr',cs',h1,h2,h3,h⟩|⟨hn,h⟩
  ·exact .inl h
  ·exact .inr (.inl ⟨hn,fr',cs',h1,h2,h3,h.succ⟩)
  ·exact .inr (.inr ⟨hn,fun w1 e=>let ⟨a,b,c,d,e1,e2,e3,e4,e5⟩:=h w1 e;⟨a,b,c,d,e1,e2,e3,e4,e5.succ⟩⟩)
theorem TN.add{N:Nat}(h:TN P n m Φ N fr cs w):∀k,TN P n m Φ (N+k) fr cs w
 |0=>h
 |k+1=>(h.add k).succ
theorem TN.bind{M:Nat}:∀{N:Nat}{fr:Frame}{cs:List Frame}{w:World},TN P n m Φ N fr cs w→(∀fr cs w,Φ fr cs w→TN P n m Ψ M fr cs w)→TN P n m Ψ (M+N) fr cs w
 |0,_,_,_,h,hk=>hk _ _ _ h
 |N+1,fr,cs,w,h,hk=>by
  rcases h with h|⟨hn,fr',cs',h1,h2,h3,h⟩|⟨hn,h⟩
  ·exact (hk _ _ _ h).add _
  ·exact .inr (.inl ⟨hn,fr',cs',h1,h2,h3,h.bind hk⟩)
  ·exact .inr (.inr ⟨hn,fun w1 e=>let ⟨a,b,c,d,e1,e2,e3,e4,e5⟩:=h w1 e;⟨a,b,c,d,e1,e2,e3,e4,e5.bind hk⟩⟩)
theorem TN.mono{N:Nat}(h:TN P n m Φ N fr cs w)(hk:∀fr cs w,Φ fr cs w→Ψ fr cs w):TN P n m Ψ N fr cs w:=by
 have:=TN.bind (M:=0) h hk
 rwa [Nat.zero_add] at this
theorem TN.more{N N':Nat}(h:TN P n m Φ N fr cs w)(hn:N≤N'):TN P n m Φ N' fr cs w:=by
 have:=TN.bind (M:=N'-N) (Ψ:=Φ) h fun _ _ _ h=>.now h
 rwa [show N'-N+N=N' by omega] at this
theorem TN.low{n' m':Nat}(hn:n'≤n)(hm:m'≤m):∀{N:Nat}{fr:Frame}{cs:List Frame}{w:World},TN P n m Φ N fr cs w→TN P n' m' Φ N fr cs w
 |0,_,_,_,h=>h
 |N+1,fr,cs,w,h=>by
  rcases h with h|⟨h0,fr',cs',h1,h2,h3,h⟩|⟨h0,h⟩
  ·exact .inl h
  ·exact .inr (.inl ⟨by omega,fr',cs',h1,h2,h3.imp id fun x=>by omega,h.low hn hm⟩)
  ·exact .inr (.inr ⟨by omega,fun w1 e=>let ⟨a,b,c,d,e1,e2,e3,e4,e5⟩:=h w1 e;⟨a,b,c,d,e1,e2,e3.imp id fun x=>by omega,e4,e5.low hn hm⟩⟩)
theorem TN.rely(tr:∀a b c,EnvD.E a b→EnvD.E b c→EnvD.E a c)(hΦ:∀fr cs w w1,Φ fr cs w→EnvD.E w w1→Φ fr cs w1):∀{N:Nat}{fr:Frame}{cs:List Frame}{w w1:World},TN P n m Φ N fr cs w→EnvD.E w w1→TN P n m Φ N fr cs w1
 |0,_,_,_,_,h,e=>hΦ _ _ _ _ h e
 |N+1,fr,cs,w,w1,h,e=>by
  rcases h with h|⟨h0,fr',cs',h1,h2,h3,h⟩|⟨h0,h⟩
  ·exact .inl (hΦ _ _ _ _ h e)
  ·exact .inr (.inl ⟨h0,fr',cs',h1,h2,h3,h.rely tr hΦ e⟩)
  ·exact .inr (.inr ⟨h0,fun w2 e2=>h w2 (tr _ _ _ e e2)⟩)
def _root_.Go.Code.wpN(r:Option Nat)(P:Program)(c:Code)(N:Nat)(Q:Exit→Act→World→Prop)(a:Act)(w:World):Prop:=
 ∀(b:Frame)(k:List Item)(cs:List Frame),b.roundOf=r→b.kind≠.early→TN P cs.length cs.length (Arr b k cs Q) N (b.atR a (.code c::k)) cs w
def bz(r:Option Nat)(P:Program)(ops:Array Oper)(l:List Nat)(N:Nat)(Q:Exit→Act→World→Prop)(a:Act)(w:World):Prop:=
 ∀(b:Frame)(k:List Item)(cs:List Frame),b.roundOf=r→b.kind≠.early→TN P cs.length cs.length (Arr b k cs Q) N (b.atR a (.inRegion ops l::k)) cs w
def oD(P:Program)(f:FuncId)(args:Array Value)(N:Nat)(w:World)(R:Value→World→Prop):Prop:=
 ∀(c:Frame)(cs:List Frame),c.mode=.run→TN P (cs.length+1) cs.length (fun fr cs' w'=>cs'=cs∧∃v,R v w'∧fr=c.finish v) N (Frame.enter P f args .normal) (c::cs) w
theorem FX{b:Frame}{a:Act}{k:List Item}:(b.atR a k).mode=.run:=rfl
section rules
variable{r:Option Nat}{Q:Exit→Act→World→Prop}{a:Act}{w:World}
theorem rj{c:Code}{N N':Nat}(h:c.wpN r P N Q a w)(hn:N≤N'):c.wpN r P N' Q a w:=fun b k cs hr hk=>(h b k cs hr hk).more hn
theorem lj{ops:Array Oper}{l:List Nat}{N N':Nat}(h:bz r P ops l N Q a w)(hn:N≤N'):bz r P ops l N' Q a w:=fun b k cs hr hk=>(h b k cs hr hk).more hn
theorem zM{f:FuncId}{args:Array Value}{N:Nat}{R R':Value→World→Prop}(h:oD P f args N w R)(hr:∀v w,R v w→R' v w):oD P f args N w R':=
 fun c cs hc=>(h c cs hc).mono fun _ _ _ ⟨h1,v,h2,h3⟩=>⟨h1,v,hr _ _ h2,h3⟩
theorem vl(h:Q .normal a w):Code.skip.wpN r P 1 Q a w:=fun b k cs _ _=>.quiet _ _ (fun _=>uV) bw (.inl rfl) (.now ⟨rfl,.normal,a,h,rfl⟩)
theorem zN{id:Nat}(h:Q (.exit id) a w):(Code.exit id).wpN r P 0 Q a w:=fun b k cs _ _=>.now ⟨rfl,.exit id,a,h,k,rfl,rfl⟩
theorem vm(h:Q .ret a w):Code.ret.wpN r P 0 Q a w:=fun b k cs _ _=>.now ⟨rfl,.ret,a,h,k,rfl⟩
theorem eX{x y:Code}{N M:Nat}(h:x.wpN r P N (Exit.then (y.wpN r P M Q) Q) a w):(Code.seq x y).wpN r P (M+N+1) Q a w:=by
 intro b k cs hr hk;refine .quiet _ _ (fun _=>uX) bw (.inl rfl) ((h b (.code y::k) cs hr hk).bind ?_)
 rintro fr cs' w' ⟨rfl,e,a',hq,he⟩
 cases e with
 |normal=>subst he;exact hq b k _ hr hk
 |exit id=>
  obtain⟨k1,h1,rfl⟩:=he;exact .now ⟨rfl,.exit id,a',hq,k1,h1.trans (exitTo_plain rfl id k),rfl⟩
 |ret=>obtain⟨k1,rfl⟩:=he;exact .now ⟨rfl,.ret,a',hq,k1,rfl⟩
 |_=>exact he.elim
theorem vn{c:Operand}{x y:Code}{t:Bool}{N:Nat}(hc:a.eval c=.bool t)(h:(if t then x else y).wpN r P N Q a w):(Code.cond c x y).wpN r P (N+1) Q a w:=
 fun b k cs hr hk=>.quiet _ _ (fun _=>uY hc) bw (.inl rfl) (h b k cs hr hk)
theorem rl{id:Nat}{c:Code}{N:Nat}(h:c.wpN r P N (Exit.inBlock id Q) a w):(Code.block id c).wpN r P (N+2) Q a w:=by
 intro b k cs hr hk
 have e0:N+2=(1+N)+1:=by omega
 rw[e0];refine .quiet _ _ (fun _=>uZ) bw (.inl rfl) ((h b (.inBlock id::k) cs hr hk).bind ?_)
 rintro fr cs' w' ⟨rfl,e,a',hq,he⟩
 cases e with
 |normal=>subst he;exact .quiet _ _ (fun _=>uW) bw (.inl rfl) (.now (N:=0) ⟨rfl,.normal,a',hq,rfl⟩)
 |exit id'=>
  obtain⟨k1,h1,rfl⟩:=he;by_cases hid:id'=id
  ·simp only[Exit.inBlock,hid,if_true] at hq;subst hid
   have:exitTo id' k1=some k:=by rw[h1];simp[exitTo]
   exact .quiet _ _ (fun _=>u7 this) bw (.inl rfl) (.now (N:=0) ⟨rfl,.normal,a',hq,rfl⟩)
  ·simp only[Exit.inBlock,hid,if_false] at hq
   have this:(id==id')=false:=by simp;exact fun h=>hid h.symm
   have hx:exitTo id' (.inBlock id::k)=exitTo id' k:=by simp[exitTo,this]
   exact .now ⟨rfl,.exit id',a',hq,k1,h1.trans hx,rfl⟩
 |ret=>obtain⟨k1,rfl⟩:=he;exact .now ⟨rfl,.ret,a',hq,k1,rfl⟩
 |_=>exact he.elim
theorem zO{c:Code}(I:Nat→Act→World→Prop)(n0 r0:Nat)(h0:I n0 a w)(round:∀k a w,I k a w→c.wpN r P r0 (Exit.then (fun a' w'=>∃n',n'<k∧I n' a' w') Q) a w):(Code.loop c).wpN r P (n0*(r0+1)+r0+1) Q a w:=by
 intro b k cs hr hk;refine .quiet _ _ (fun _=>u5) bw (.inl rfl) ?_
 have key:∀n a w,I n a w→TN P cs.length cs.length (Arr b k cs Q) (n*(r0+1)+r0) (b.atR a (.code c::.inLoop c::k)) cs w:=by
  intro n
  induction n using Nat.strongRecOn with
  |_ n ih=>
   intro a w hI;refine (round n a w hI b (.inLoop c::k) cs hr hk).bind (M:=n*(r0+1)) ?_
   rintro fr cs' w' ⟨rfl,e,a',hq,he⟩
   cases e with
   |normal=>
    subst he;obtain⟨n',hlt,hI'⟩:=hq
    have hle:n'*(r0+1)+r0+1≤n*(r0+1):=by
     have h1:(n'+1)*(r0+1)≤n*(r0+1):=Nat.mul_le_mul_right _ hlt;rw[Nat.add_mul] at h1;omega
    exact TN.more (.quiet _ _ (fun _=>u6) bw (.inl rfl) (ih n' hlt a' w' hI')) hle
   |exit id=>
    obtain⟨k1,h1,rfl⟩:=he;exact .now ⟨rfl,.exit id,a',hq,k1,h1.trans (exitTo_plain rfl id k),rfl⟩
   |ret=>obtain⟨k1,rfl⟩:=he;exact .now ⟨rfl,.ret,a',hq,k1,rfl⟩
   |_=>exact he.elim
 exact key n0 a w h0
theorem fJ{id:Nat}{ops:Array Oper}{N:Nat}(h:bz r P ops (List.range ops.size) N Q a w):(Code.region id ops false).wpN r P (N+1) Q a w:=
 fun b k cs hr hk=>.quiet _ _ (fun _=>vc) bw (.inl rfl) (h b k cs hr hk)
theorem FY{id:Nat}{ops:Array Oper}{N:Nat}(h:∀w1,EnvD.E w w1→∀t,bz r P ops (Region.schedule (P.follows .mixedOrders) ops t) N Q a { w1 with drawn:=w1.drawn+1 }):(Code.region id ops true).wpN r P (N+1) Q a w:=
 fun b k cs hr hk=>.bV fun w1 e=>⟨_,_,_,_,zI,bw,.inl rfl,EnvD.nil w1,h w1 e _ b k cs hr hk⟩
variable{ops:Array Oper}
theorem eo(h:Q .normal a w):bz r P ops [] 1 Q a w:=fun b k cs _ _=>.quiet _ _ (fun _=>qY) bw (.inl rfl) (.now ⟨rfl,.normal,a,h,rfl⟩)
theorem zP{i:Nat}{rest:List Nat}{o:Oper}{N:Nat}(ho:ops[i]?=some o)(hw:Region.wanted o (yielded ops a.tmps)=false)(h:bz r P ops rest N Q (a.put o.dst undef) w):bz r P ops (i::rest) (N+1) Q a w:=by
 intro b k cs hr hk
 have hs:∀w1,stepG P true (G (b.atR a (.inRegion ops (i::rest)::k)) cs) w1=_:=fun w1=>vd (P:=P) (b:=b) (a:=a) (k:=k) (cs:=cs) (w:=w1) (ops:=ops) (i:=i) (rest:=rest) (by simp[ho,hw])
 simp only[ho,Option.bind_some] at hs;exact .quiet _ _ hs bw (.inl rfl) (h b k cs hr hk)
def _root_.Go.Oper.da(o:Oper)(a:Act)(K:Act→World→Prop):Result Next→Prop
 |.ok (.value v) w'=>K (a.put o.dst v) w'
 |.ok .skip w'=>K (a.put o.dst undef) w'
 |_=>False
theorem bE{i:Nat}{rest:List Nat}{o:Oper}{N:Nat}(ho:ops[i]?=some o)(hw:Region.wanted o (yielded ops a.tmps)=true)(hd:∀c,o.op≠.defer c)(h:∀w1,EnvD.E w w1→(∀f,EnvD.D w1 (Go.Conc.listed P f a o w1))∧o.da a (bz r P ops rest N Q) ((execOp a.eval o).run P w1)):bz r P ops (i::rest) (N+1) Q a w:=by
 intro b k cs hr hk
 refine .bV fun w1 e=>?_
 obtain⟨hev,hu⟩:=h w1 e;have hg:=qZ (P:=P) (b:=b) (k:=k) (cs:=cs) (w:=w1) (rest:=rest) ho hw hd
 have hfin:∀v,(b.atR a (.inRegion ops (i::rest)::k)).finish v=b.atR (a.put o.dst v) (.inRegion ops rest::k):=by
  intro v;rw[Frame.finish_atR,ho];rfl
 have hk':((b.atR a (.inRegion ops (i::rest)::k)).kind==CallKind.early)=false:=by simpa[Frame.atR] using hk
 have hls:EnvD.D w1 (seen P (b.atR a (.inRegion ops (i::rest)::k)).fn ((execOp a.eval o).events P w1 #[])++#[]):=by rw[Array.append_empty];exact hev _
 generalize hrun:(execOp a.eval o).run P w1=R at hu
 cases R with
 |halt x w'=>exact hu.elim
 |ok x w'=>
  cases x<;>simp only[Oper.da] at hu
  ·rename_i v;exact⟨b.atR (a.put o.dst v) (.inRegion ops rest::k),cs,w',_,by rw[hg,←hfin];simp only[stepG.apply,if_true,Sem.runT_eq,hrun,hk',Bool.false_eq_true,if_false,GStep.after];rfl,bw,.inl rfl,hls,hu b k cs hr hk⟩
  ·exact⟨b.atR (a.put o.dst undef) (.inRegion ops rest::k),cs,w',_,by rw[hg,←hfin];simp only[stepG.apply,if_true,Sem.runT_eq,hrun,hk',Bool.false_eq_true,if_false,GStep.after];rfl,bw,.inl rfl,hls,hu b k cs hr hk⟩
theorem zQ{i:Nat}{rest:List Nat}{o:Oper}{N M:Nat}{f:FuncId}{args:Array Value}(ho:ops[i]?=some o)(hw:Region.wanted o (yielded ops a.tmps)=true)(hd:∀c,o.op≠.defer c)(h:∀w1,EnvD.E w w1→(∀f,EnvD.D w1 (Go.Conc.listed P f a o w1))∧(execOp a.eval o).run P w1=.ok (.enter f args) w1∧oD P f args N w1 fun v w'=>bz r P ops rest M Q (a.put o.dst v) w'):bz r P ops (i::rest) (M+N+1) Q a w:=by
 intro b k cs hr hk
 refine .bV fun w1 e=>?_
 obtain⟨hev,hrun,hu⟩:=h w1 e;have hg:=qZ (P:=P) (b:=b) (k:=k) (cs:=cs) (w:=w1) (rest:=rest) ho hw hd
 have hfin:∀v,(b.atR a (.inRegion ops (i::rest)::k)).finish v=b.atR (a.put o.dst v) (.inRegion ops rest::k):=by
  intro v;rw[Frame.finish_atR,ho];rfl
 have hk':((b.atR a (.inRegion ops (i::rest)::k)).kind==CallKind.early)=false:=by simpa[Frame.atR] using hk
 have hls:EnvD.D w1 (seen P (b.atR a (.inRegion ops (i::rest)::k)).fn ((execOp a.eval o).events P w1 #[])++#[]):=by rw[Array.append_empty];exact hev _
 refine⟨Frame.enter P f args .normal,b.atR a (.inRegion ops (i::rest)::k)::cs,w1,_,by rw[hg];simp only[stepG.apply,if_true,Sem.runT_eq,hrun,hk',Bool.false_eq_true,if_false,GStep.after];rfl,fun ch=>by simp[Frame.enter],.inl rfl,hls,?_⟩
 refine ((hu _ cs FX).low (Nat.le_succ _) (Nat.le_refl _)).bind fun fr cs' w'' ⟨h1,v,h2,h3⟩=>?_
 subst h1;subst h3;rw[hfin];exact h2 b k _ hr hk
theorem zR{f:FuncId}{fn:Func}{c:Code}{args:Array Value}{R:Value→World→Prop}{t:Tmp}{N:Nat}(hf:P.funcs[f]?=some fn)(hb:fn.body=some c)(hrs:fn.results=#[.tmp t])(h:c.wpN none P N (fun e a w=>(e=.normal∨e=.ret)∧a.defers=[]∧∀w1,EnvD.E w w1→R (a.tmps.getD t undef) w1) { tmps:=args++Array.replicate (fn.ntmps-args.size) undef,defers:=[] } w):oD P f args (2+N) w R:=by
 intro cl cs hcl
 let b:Frame:={ (default:Frame) with fn:=f,kind:=.normal,roundOf:=none }
 have henter:Frame.enter P f args .normal=b.atR { tmps:=args++Array.replicate (fn.ntmps-args.size) undef,defers:=[] } [.code c]:=by
  simp[Frame.enter,Frame.atR,hf,hb,b]
 have hclc:fj cl:=fun ch=>by rw[hcl];simp
 have hout:∀(fr:Frame)(w:World),fr.fn=f→fr.mode=.returning→fr.defers=[]→fr.kind=.normal→(∀w1,EnvD.E w w1→R (fr.tmps.getD t undef) w1) →
  TN P (cs.length+1) cs.length (fun fr cs' w'=>cs'=cs∧∃v,R v w'∧fr=cl.finish v) 1 fr (cl::cs) w:=by
  intro fr w hn hm hd hk hR
  refine .bV fun w1 e=>?_
  rw[←hn] at hf;have hev:((results fn fr.tmps).events P w1 #[])=#[]:=Go.Conc.events_results_tmp hrs _ _;have hrun:(results fn fr.tmps).run P w1=.ok (fr.tmps.getD t undef) w1:=results_tmp hrs _ P w1;refine⟨cl.finish (fr.tmps.getD t undef),cs,w1,#[],?_,ra hclc _,.inl ?_,EnvD.nil w1,.now ⟨rfl,_,hR w1 e,rfl⟩⟩
  ·simp only[G,stepG,unwind,hm,hd,hf,Sem.runT_eq,hrun,hev,Go.Conc.seen_none,doReturn,hk,GStep.after];rfl
  ·have:(cl.finish (fr.tmps.getD t undef)).mode=cl.mode:=by unfold Frame.finish;split<;>rfl
   rw[this,hcl]
 rw[henter];refine ((h b [] (cl::cs) rfl (by simp[b])).low (by simp) (by simp)).bind ?_
 rintro fr cs' w' ⟨rfl,e,a',⟨he0,hd,hR⟩,he⟩
 cases e with
 |normal=>
  subst he;exact .quiet _ _ (fun _=>va rfl) (fun ch=>by simp) (.inr (by simp)) (hout _ w' rfl rfl hd rfl hR)
 |ret=>
  obtain⟨k1,rfl⟩:=he;exact .quiet _ _ (fun _=>u9 rfl) (fun ch=>by simp) (.inr (by simp)) (hout _ w' rfl rfl hd rfl hR)
 |_=>rcases he0 with h|h<;>cases h
end rules
end
end Go.Fi
namespace Go.Fc
open Go Go.Conc Go.Fi
theorem IZ(P:Program)(l:Bool)(fr c:Frame)(r:List Frame)(w:World):stepG.exec P true l fr (c::r) none w=stepG.exec P false l fr (c::r) none w:=by
 unfold stepG.exec;rfl
theorem I0(P:Program)(fr c:Frame)(r:List Frame)(w:World):unwind P true fr (c::r) none w=unwind P false fr (c::r) none w:=by
 unfold unwind;rfl
theorem I4(P:Program)(main:Bool)(fr:Frame)(cs:List Frame)(h:main=true∨cs≠[])(w:World):stepG P main (G fr cs) w=stepG P true (G fr cs) w:=by
 cases main with
 |true=>rfl
 |false=>
  cases cs with
  |nil=>simp at h
  |cons c r=>unfold stepG G;simp only[IZ,I0]
variable[Xf][EnvD]
structure iB(P1 P:Program)(bad:Nat→Prop):Prop where
 kin:gK P1 P (Cc P1 P) bad
 xf:∀f,¬Xf.xf f
 oR:∀f,bad f→∀args cs w g' w' es,stepG P1 true (G (Frame.enter P1 f args .normal) cs) w≠.go g' w' es
 gN:∀(w:World) t d,EnvD.E w { w with tape:=t,drawn:=d }
 zg:∀f,Xf.bot f→¬(Cc P1 P).fn f
structure bQ(P1 P:Program)(S:Sh)(base:List Frame)(fr:Frame)(cs:List Frame)(A B:World):Prop where
 pre:∃pre,cs=pre++base∧(∀x∈pre,bD P1 P x)∧(∀p ps,pre=p::ps→(Cc P1 P).fn fr.fn∧∀i x,pre[i]?=some x→i+1<pre.length→(Cc P1 P).fn x.fn)
 ok:bD P1 P fr
 lk:Lk (Cc P1 P) S A B
section
variable{P1 P:Program}{bad:Nat→Prop}{S:Sh}{base:List Frame}{Φ:Frame→List Frame→World→Prop}
omit [EnvD] in
theorem bQ.ze{fr:Frame}{cs:List Frame}{A B:World}(h:bQ P1 P S base fr cs A B)(t u:Nat→Question→Nat)(d e:Nat):bQ P1 P S base fr cs { A with tape:=t,drawn:=d } { B with tape:=u,drawn:=e } :=
 ⟨h.pre,h.ok,⟨h.lk.size,h.lk.low,h.lk.same,h.lk.dead,h.lk.os,h.lk.output⟩⟩
theorem xC(hc:iB P1 P bad){main:Bool}(hm:main=true∨base≠[])(hfine:∀w es,EnvD.D w es→∀e∈es,S.cP e)(hΦ:∀f args cs w,bad f→¬Φ (Frame.enter P1 f args .normal) cs w)(hΦ2:∀fr cs w,cs.length<base.length→¬Φ fr cs w){fr:Frame}{cs:List Frame}{A B:World}{N:Nat}(h:bQ P1 P S base fr cs A B)(hT:TN P1 base.length base.length Φ (N+1) fr cs A):Φ fr cs A∨∃fr' cs' A' B' es,stepG P main (G fr cs) B=.go (G fr' cs') B' es∧bQ P1 P S base fr' cs' A' B'∧(∃A2,A2.heap=A'.heap∧A2.os=A'.os∧A2.output=A'.output∧TN P1 base.length base.length Φ N fr' cs' A2)∧B'.tape=B.tape∧Kept es B B'∧(∀e∈es,EvT S B' e)∧(∃A1,A1.heap=A.heap∧EnvD.D A1 es)∧A.heap.size≤A'.heap.size:=by
 have dead:∀{f:FuncId}{args:Array Value}{cs:List Frame}{w:World},bad f→∀{N},TN P1 base.length base.length Φ N (Frame.enter P1 f args .normal) cs w→False:=by
  intro f args cs w hb N h
  cases N with
  |zero=>exact hΦ _ _ _ _ hb h
  |succ N=>
   rcases h with h|⟨_,fr',cs',h1,_⟩|⟨_,h⟩
   ·exact hΦ _ _ _ _ hb h
   ·exact hc.oR f hb _ _ _ _ _ _ (h1 w)
   ·obtain⟨_,_,_,_,e,_⟩:=h _ (hc.gN w w.tape w.drawn);exact hc.oR f hb _ _ _ _ _ _ e
 have gone:∀{fr:Frame}{cs:List Frame}{w:World},cs.length<base.length→∀{N},TN P1 base.length base.length Φ N fr cs w→False:=by
  intro fr cs w hlt N h
  cases N with
  |zero=>exact hΦ2 _ _ _ hlt h
  |succ N=>
   rcases h with h|⟨hn,_⟩|⟨hn,_⟩
   ·exact hΦ2 _ _ _ hlt h
   ·omega
   ·omega
 obtain⟨pre,hpre,hpo,hpf⟩:=h.pre
 have go:∀(A1:World),A1.heap=A.heap→A1.os=A.os→A1.output=A.output→A1.tape=B.tape→A1.drawn=B.drawn→∀(fr':Frame)(cs':List Frame)(A':World)(es:Array Event),stepG P1 true (G fr cs) A1=.go (G fr' cs') A' es→fj fr' →
  (fr'.mode=.run∨base.length<cs'.length)→(∀e∈es,S.cP e)→(∃A2,A2.heap=A'.heap∧A2.os=A'.os∧A2.output=A'.output∧TN P1 base.length base.length Φ N fr' cs' A2)→(∃A1,A1.heap=A.heap∧EnvD.D A1 es) →
  ∃fr' cs' A' B' es,stepG P main (G fr cs) B=.go (G fr' cs') B' es∧bQ P1 P S base fr' cs' A' B'∧(∃A2,A2.heap=A'.heap∧A2.os=A'.os∧A2.output=A'.output∧TN P1 base.length base.length Φ N fr' cs' A2)∧B'.tape=B.tape∧Kept es B B'∧(∀e∈es,EvT S B' e)∧(∃A1,A1.heap=A.heap∧EnvD.D A1 es)∧A.heap.size≤A'.heap.size:=by
  intro A1 e1 e2 e3 e4 e5 fr' cs' A' es hs hcalm hmode hfn hT' hD;have hlk1:Lk (Cc P1 P) S A1 B:=⟨by rw[e1];exact h.lk.size,by rw[e1];exact h.lk.low,by rw[e1];exact h.lk.same,by rw[e1];exact h.lk.dead,by rw[e2];exact h.lk.os,by rw[e3];exact h.lk.output⟩
  rcases BL hc.kin h.ok (.inl rfl) hlk1 hs with ⟨f,args,cs2,hb,x1,x2⟩|(⟨ch,hch⟩|hdy)|hal
  ·simp only[G] at x1;obtain⟨A2,_,_,_,hT'⟩:=hT';rw[x1] at hT';exact (dead hb hT').elim
  ·exact absurd hch (hcalm ch)
  ·exact absurd rfl hdy
  ·obtain⟨_,_,hsz,_,_,_,hgo⟩:=hal hfn
   obtain⟨f2,B',hcf,hB,hlk',htp,_,hkp,hev⟩:=hgo fun j hj=>by rw[e4,e5]
   have hB':stepG P main (G fr cs) B=.go (G f2 cs') B' es:=by
    rw[I4 P main fr cs (hm.imp id fun hb=>by rw[hpre];simp[hb]) B];exact hB
   rcases hcf with ⟨hcl,hfk⟩|⟨x1,c,v,x2,x3,_⟩|⟨x1,x2,x4,x5,x3,_⟩
   ·rcases hfk with ⟨x1,hok⟩|⟨f,_,hx,_⟩
    ·simp only[G] at x1 hcl hok;subst x1;refine⟨f2,cs',A',B',es,hB',⟨?_,hok,hlk'⟩,hT',htp,hkp,hev,hD,by rw[←e1];exact hsz⟩
     rcases hcl with ⟨hcl,hfn1⟩|⟨f1,hf1,hfn1,hfn2,hcl⟩
     ·exact⟨pre,hcl.trans hpre,hpo,fun p ps e=>⟨hfn1▸(hpf p ps e).1,(hpf p ps e).2⟩⟩
     ·refine⟨f1::pre,by rw[hcl,hpre];rfl,fun x hx=>(List.mem_cons.1 hx).elim (fun e=>e▸hf1) (hpo x),fun p ps e=>⟨hfn2.resolve_right (hc.xf _),fun i x hi hlt=>?_⟩⟩
      cases i with
      |zero=>
       obtain rfl:f1=x:=by simpa using hi
       cases pre with
       |nil=>simp at hlt
       |cons q qs=>rw[hfn1];exact (hpf q qs rfl).1
      |succ i=>
       cases pre with
       |nil=>simp at hlt
       |cons q qs=>exact (hpf q qs rfl).2 i x (by simpa using hi) (by simpa using hlt)
    ·exact absurd hx (hc.xf f)
   ·simp only[G] at x1 x2 x3;subst x1;obtain⟨A2,_,_,_,hT2⟩:=id hT'
    cases pre with
    |nil=>
     refine (gone ?_ hT2).elim;rw[hpre] at x2;simp only[List.nil_append] at x2;rw[x2];simp
    |cons p ps=>
     rw[hpre] at x2;simp only[List.cons_append,List.cons.injEq] at x2;obtain⟨rfl,rfl⟩:=x2;refine⟨f2,_,A',B',es,hB',⟨⟨ps,rfl,fun x hx=>hpo x (List.mem_cons_of_mem _ hx),fun q qs e=>⟨?_,fun i x hi hlt=>(hpf p ps rfl).2 (i+1) x (by simpa using hi) (by simpa using hlt)⟩⟩,x3▸(hpo p List.mem_cons_self).finish v,hlk'⟩,hT',htp,hkp,hev,hD,by rw[←e1];exact hsz⟩;rw[x3,sK];exact (hpf p ps rfl).2 0 p rfl (by rw[e];simp)
   ·simp only[G] at x1 x2 x3 x4 x5
    rcases hmode with hmode|hmode
    ·rw[hmode] at x3;cases x3
    ·cases pre with
     |nil=>rw[x2,hpre] at hmode;simp at hmode
     |cons q qs=>exact absurd (hpf q qs rfl).1 (hc.zg _ (x4▸x5))
 rcases hT with hT|⟨_,fr',cs',h1,h2,h3,hT⟩|⟨_,hT⟩
 ·exact .inl hT
 ·have hs:=h1 { A with tape:=B.tape,drawn:=B.drawn };exact .inr (go { A with tape:=B.tape,drawn:=B.drawn } rfl rfl rfl rfl rfl fr' cs' _ _ hs h2 h3 (by simp) ⟨A,rfl,rfl,rfl,hT⟩ ⟨A,rfl,EnvD.nil A⟩)
 ·obtain⟨fr',cs',A',es,h1,h2,h3,h4,h5⟩:=hT _ (hc.gN A B.tape B.drawn);exact .inr (go { A with tape:=B.tape,drawn:=B.drawn } rfl rfl rfl rfl rfl fr' cs' A' es h1 h2 h3 (hfine _ _ h4) ⟨A',rfl,rfl,rfl,h5⟩ ⟨{ A with tape:=B.tape,drawn:=B.drawn },rfl,h4⟩)
end
end Go.Fc
