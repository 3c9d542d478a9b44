/- Lemmas. -/
import Derived.Test.YthpkmilhiganjaaGreatPMb
import Derived.Test.YthpkmilhiganjaaGreatPLa
import Derived.Conc.Beside
set_option linter.all false
set_option maxHeartbeats 32000000
set_option maxRecDepth 100000
namespace Go.Fc
open Go Go.Conc Go.Fi
open Go.ConcN (sumTo upd sumTo_upd upd_ne upd_same)
theorem Ft{P:Program}{m m1 m2:Machine}{t t2:Trace}{ops:Trace}{N:Nat}(h:stepT P m=(.next m1,ops))(k:runNT P N m1 (t++ops)=(.next m2,t2)):runNT P (N+1) m t=(.next m2,t2):=by
 simp only[runNT,h];exact k
theorem AD{P:Program}{Shun:Loc->Prop}{B0:Nat}{a:Goroutine}(h9:a.status=.running):∀(M:Nat)(gs:Array Goroutine)(w:World)(sl:Option (Nat×Nat))(t:Trace)(q:Nat->Nat),sumTo gs.size q<=M->gs[0]?=some a->Leavers P t gs q->Past Shun B0 t->∃(N:Nat)(h8:Array Goroutine)(w':World)(a4:Option (Nat×Nat))(t':Trace)(q':Nat->Nat)(d:Nat)(sl2:Option (Nat×Nat)),runNT P N (crowd gs w sl) t=(.next (crowd h8 w' a4),t')/\h8.size=gs.size/\h8[0]?=some a/\Leavers P t' h8 q'/\Past Shun B0 t'/\AtRel w (w'.at d)/\stepT P (crowd h8 w' a4)=runT P (crowd h8 (w'.at d) sl2) 0:=by
 intro M
 induction M with
 |zero=>
  intro gs w sl t q hM h0 hL hP
  have cq:∀g∈gs,awake g:=by
   intro g hg;obtain⟨i,hi,rfl⟩:=Array.mem_iff_getElem.1 hg
   rcases lR i with rfl|aa
   .have:gs[0]=a:=al
    rw[this];exact awake_of (.inl h9)
   .exact awake_of ((hL.old i _ aa (dE hi)).status.elim .inl λx=>.inr (.inr x))
  obtain⟨i,g,d,a4,hi,hg,ag⟩:=crowd_pick (P:=P) (w:=w) (sl:=sl) cq ⟨0,a,h0,h9⟩
  rcases lR i with rfl|aa
  .exact⟨0,gs,w,sl,t,q,d,a4,rfl,rfl,h0,hL,hP,⟨d,rfl⟩,ag⟩
  .exfalso;have hq:=hL.old i g aa hi;have a9:i<gs.size:=(cT.1 hi).1;have:=Go.ConcN.le_sumTo (f:=q) a9
   have b6:q i=0:=ab
   rw[b6] at hq;rw[hq.1] at hg;cases hg
 |succ M ih=>
  intro gs w sl t q hM h0 hL hP
  have cq:∀g∈gs,awake g:=by
   intro g hg;obtain⟨i,hi,rfl⟩:=Array.mem_iff_getElem.1 hg
   rcases lR i with rfl|aa
   .have:gs[0]=a:=al
    rw[this];exact awake_of (.inl h9)
   .exact awake_of ((hL.old i _ aa (dE hi)).status.elim .inl λx=>.inr (.inr x))
  obtain⟨i,g,d,a4,hi,hg,ag⟩:=crowd_pick (P:=P) (w:=w) (sl:=sl) cq ⟨0,a,h0,h9⟩
  rcases lR i with rfl|aa
  .exact⟨0,gs,w,sl,t,q,d,a4,rfl,rfl,h0,hL,hP,⟨d,rfl⟩,ag⟩
  .have hq:=hL.old i g aa hi
   have e9:(i==0)=false:=ar
   have a9:i<gs.size:=(cT.1 hi).1
   cases dm:q i with
   |zero=>rw[dm] at hq;rw[hq.1] at hg;cases hg
   |succ k=>
    rw[dm] at hq
    rcases hq with ⟨hf,_⟩|⟨_,g',es,hm,bi,ea⟩
    .rw[hf] at hg;cases hg
    have hrunT:=runT_crowd_go (P:=P) (sl:=a4) (i:=i) hi (by rw[e9];exact bi (w.at d))
    have bn:((gs.map (woken P g g' (w.at d))).setIfInBounds i g').size=gs.size:=ae
    have ec:sumTo gs.size (upd q i k)+(k+1)=sumTo gs.size q+k:=by
     have:=sumTo_upd q k id a9;simp_all
    obtain⟨N,h8,w',dg,t',q',d',sl2,hr,bf,b6,bj,bp,hat,de⟩:=ih ((gs.map (woken P g g' (w.at d))).setIfInBounds i g') (w.at d) a4 (t++MemOp.ofEvents i g.frame.fn g.frame.place es) (upd q i k) (by rw[bn];omega)
     (by
       have d6:i≠0:=ab
       rw[uU d6,yb,h0]
       simp[woken_run h9])
     ⟨λj x hj hx=>by
       by_cases c9:i=j
       .subst c9;rw[TO ak] at hx;obtain rfl:=fK hx;rw[upd_same,Deaf_own];exact ea
       .rw[uU c9,yb] at hx;obtain⟨y,hy,rfl⟩:=sS.1 hx;have dp:=hL.old j y hj hy;rw[woken_quitsD dp,upd_ne q k (gH c9),Deaf_other t c9 _ (λop bc=>by obtain⟨e,_,rfl⟩:=Go.Conc.mem_ofEvents bc;rfl)]
        exact dp,λj hj=>by
       rw[Deaf_other t (g':=i) ab _ (λop bc=>by obtain⟨e,_,rfl⟩:=Go.Conc.mem_ofEvents bc;rfl)]
       exact hL.above j ab⟩
     (hP.mute ab hm)
    exact⟨N+1,h8,w',dg,t',q',d',sl2,Ft (ag.trans hrunT) hr,bf.trans bn,b6,bj,bp,atRel_trans _ _ _ ⟨d,rfl⟩ hat,de⟩
variable[Xf][EnvD]
def nq(S:Sh):Loc->Prop:=λl=>∃a,l=.cell a/\S.dead a.block
omit [Xf] [EnvD] in
theorem Fu{S:Sh}{n:World}{e:Event}(h:EvT S n e):EvL (nq S) n.heap.size e:=by
 rcases h with ⟨a,wr,rfl,⟨c,ty,fr,h1⟩,h2⟩|⟨r,wr,sy,rfl,h1,h2⟩|rfl
 .exact evL_cell a wr (by rintro⟨b,hb,hd⟩;simp_all) (cT.1 h1).1
 .refine⟨λx hx hs=>?_,ae,ae,?_⟩
  .obtain⟨b,hb,_⟩:=hs
   cases wr<;>cases sy<;>simp[MemAct.ofEvent,MemAct.touch?] at hx<;>subst hx<;>simp at hb
  .cases wr<;>cases sy<;>simpa[MemAct.ofEvent,MemAct.low,Loc.low] using h1
 .exact⟨λx hx=>aE,ae,ae,trivial⟩
section
variable(P0 P:Program)
def Ce(base:List Frame)(fr:Frame)(cs:List Frame)(fr2:Frame):Prop:=
 (∃pre,cs=pre++base/\(∀x∈pre,dw P0 P x)/\Fok P0 P fr fr2)\/(fr2=fr/\∃(c:Frame)(v:Value),base=c::cs/\fr=c.finish v)
structure je where
 n0:Nat
 old:Nat->Obj->Prop
variable(K:je)
structure Sit(S:Sh)(base:List Frame)(fr:Frame)(cs:List Frame)(A:World)(gs:Array Goroutine)(B:World)(t:Trace)(q:Nat->Nat):Prop where
 st:∃fr2,gs[0]?=some (G fr2 cs)/\Ce P0 P base fr cs fr2
 lk:Lk (Cc P0 P) S A B
 whole:∀b i,¬S.part b i
 lH:∀b,S.dead b->K.n0<=b
 pn:S.old=K.old
 old:Leavers P t gs q
 oo:Past (nq S) B.heap.size t
 n0:K.n0<=B.heap.size
def rY:Prop:=∀(f:FuncId)(args:Array Value)(c:Frame)(cs:List Frame)(base:List Frame)(A:World)(S:Sh)(R:World->Value->World->Prop)(gs:Array Goroutine)(B:World)(sl:Option (Nat×Nat))(t:Trace)(q:Nat->Nat),
 Xf.xf f->(∀w1,EnvD.E A w1->EnvD.xt f args w1 (R w1))->Sit P0 P K S base (Frame.enter P0 f args .normal) (c::cs) A gs B t q->gs[0]?=some (G (Frame.enter P f args .normal) (c::cs)) ->
 ∃(N:Nat)(h8:Array Goroutine)(B':World)(a4:Option (Nat×Nat))(t':Trace)(q':Nat->Nat)(S':Sh)(A1 A':World)(v:Value),
  runNT P N (crowd gs B sl) t=(.next (crowd h8 B' a4),t')/\EnvD.E A A1/\R A1 v A'/\h8[0]?=some (G (c.finish v) cs)/\Lk (Cc P0 P) S' A' B'/\(∀b i,¬S'.part b i)/\(∀b,S'.dead b->K.n0<=b)/\S'.old=K.old/\Leavers P t' h8 q'/\Past (nq S') B'.heap.size t'/\B.heap.size<=B'.heap.size
structure qD(bad:Nat->Prop):Prop where
 kin:j7 P0 P (Cc P0 P) bad
 apart:∀f,bad f->¬Xf.xf f
 known:∀f args w R,EnvD.xt f args w R->Xf.xf f
 rZ:∀f,bad f\/Xf.xf f->∀args cs w g' w' es,stepG P0 true (G (Frame.enter P0 f args .normal) cs) w≠.go g' w' es
 own:∀f,Xf.xf f->¬(Cc P0 P).fn f
 tmps:∀f,Xf.xf f->(P0.funcs[f]?).map (·.ntmps)=(P.funcs[f]?).map (·.ntmps)
 kh:∀(w:World) t d,EnvD.E w { w with tape:=t,drawn:=d }
end
section
variable{P0 P:Program}{bad:Nat->Prop}{S:Sh}{K:je}
omit [Xf] [EnvD] in
theorem Lk.Cf{C:Cx}{A B:World}(h:Lk C S A B)(t u:Nat->Question->Nat)(d e:Nat):Lk C S { A with tape:=t,drawn:=d } { B with tape:=u,drawn:=e }:=⟨h.size,h.low,h.same,h.dead,h.os,h.output⟩
omit [EnvD] in
theorem M6{f:FuncId}{a b:Array Value}(hn:(P0.funcs[f]?).map (·.ntmps)=(P.funcs[f]?).map (·.ntmps))(h:Frame.enter P0 f a .normal=Frame.enter P0 f b .normal):Frame.enter P f a .normal=Frame.enter P f b .normal:=by
 simp only[Frame.enter,Frame.mk.injEq] at h ⊢;rw[hn] at h;trivial
theorem Ce.top{base:List Frame}{fr fr2:Frame}{cs:List Frame}(h:Ce P0 P base fr cs fr2)(hn:base.length<=cs.length):∃pre,cs=pre++base/\(∀x∈pre,dw P0 P x)/\Fok P0 P fr fr2:=by
 rcases h with h|⟨_,c,v,hb,_⟩
 .exact h
 grind
theorem Fv(hp:qD P0 P bad)(ou:rY P0 P K)(b9:∀f,¬Xf.bot f){base:List Frame}{Φ:Frame->List Frame->World->Prop}(hΦ:∀f args cs w,bad f->¬Φ (Frame.enter P0 f args .normal) cs w){fr:Frame}{cs:List Frame}{A:World}(hT:T P0 base.length Φ fr cs A):∀(S:Sh)(gs:Array Goroutine)(B:World)(sl:Option (Nat×Nat))(t:Trace)(q:Nat->Nat),Sit P0 P K S base fr cs A gs B t q->∃(N:Nat)(h8:Array Goroutine)(B':World)(a4:Option (Nat×Nat))(t':Trace)(q':Nat->Nat)(S':Sh)(fr':Frame)(cs':List Frame)(A':World),runNT P N (crowd gs B sl) t=(.next (crowd h8 B' a4),t')/\Sit P0 P K S' base fr' cs' A' h8 B' t' q'/\Φ fr' cs' A':=by
 have dead:∀{f:FuncId}{args:Array Value}{cs:List Frame}{w:World},bad f->T P0 base.length Φ (Frame.enter P0 f args .normal) cs w->False:=by
  intro f args cs w hb h;generalize b5:Frame.enter P0 f args .normal=fr at h
  cases h with
  |now h=>grind
  |quiet fr' cs' h1 h2 h3 hn=>subst b5;exact hp.rZ f (.inl hb) _ _ _ _ _ _ (h1 w)
  |step h1 h2 hn=>
   subst b5;obtain⟨_,_,_,_,e,_⟩:=h1 _ (hp.kh w w.tape w.drawn);exact hp.rZ f (.inl hb) _ _ _ _ _ _ e
  |ext R h1 h2 hn=>
   rename_i f' aq c cs';have:f=f':=congrArg Frame.fn b5;subst this;exact hp.apart f hb (hp.known _ _ _ _ (h1 _ (hp.kh w w.tape w.drawn)))
 have one:∀{fr:Frame}{cs:List Frame}{A:World}(S:Sh)(gs:Array Goroutine)(B:World)(sl:Option (Nat×Nat))(t:Trace)(q:Nat->Nat),Sit P0 P K S base fr cs A gs B t q->base.length<=cs.length ->
  (∀tp d,∃fr' cs' A' es,stepG P0 true (G fr cs) { A with tape:=tp,drawn:=d } = .go (G fr' cs') A' es/\iq fr'/\∃w0,T P0 base.length Φ fr' cs' w0) ->
  ∃(N:Nat)(h8:Array Goroutine)(B':World)(a4:Option (Nat×Nat))(t':Trace)(q':Nat->Nat)(tp:Nat->Question->Nat)(d:Nat)(fr':Frame)(cs':List Frame)(A':World)(es:Array Event),
   runNT P N (crowd gs B sl) t=(.next (crowd h8 B' a4),t')/\stepG P0 true (G fr cs) { A with tape:=tp,drawn:=d } = .go (G fr' cs') A' es/\Sit P0 P K S base fr' cs' A' h8 B' t' q':=by
  intro fr cs A S gs B sl t q ay hn ag;obtain⟨⟨fr2,h0,bg⟩,bv,co,cw,d7,hold,ax,eg⟩:=ay;obtain⟨pre,rfl,h',bh⟩:=bg.top hn;obtain⟨N,h8,w',a4,t',q',d,sl2,hr,bn,b6,bj,bp,⟨d2,hat⟩,bi⟩:=AD (P:=P) (a:=G fr2 (pre++base)) rfl _ gs B sl t q (bU _) h0 hold ax;obtain⟨fr',cs',A',es,hs,aw,w0,bq⟩:=ag (w'.at d).tape (w'.at d).drawn
  rcases bh with ⟨e0,hf⟩|⟨f,args,c7,rfl,rfl⟩
  .obtain rfl:fr=fr2:=e0.symm
   have bb:Lk (Cc P0 P) S { A with tape:=(w'.at d).tape,drawn:=(w'.at d).drawn } (w'.at d):=by
    rw[hat];exact bv.Cf _ B.tape _ d2
   rcases Fs hp.kin hf (.inl rfl) bb hs with ⟨f,args,cs2,hb,e1,e2⟩|(⟨ch,cu⟩|e6)|cp
   .simp only[G] at e1;rw[e1] at bq;simp_all
   .exact absurd cu (aw ch)
   .trivial
   .obtain⟨_,_,c6,_,_,_,hgo⟩:=cp λe he a _=>co _ _
    obtain⟨f2,B',ct,hB,a6,_,_,_,ao⟩:=hgo λj hj=>rfl
    have c8:stepG P true (G fr (pre++base)) (w'.at d)=.go (G f2 cs') B' es:=hB;have hrunT:=runT_crowd_go (P:=P) (sl:=sl2) (i:=0) b6 (show stepG P (0==0) (G fr (pre++base)) (w'.at d)=_ from c8);have a9:0<h8.size:=(cT.1 b6).1;refine⟨N+1,(h8.map (woken P (G fr (pre++base)) (G f2 cs') B')).setIfInBounds 0 (G f2 cs'),B',sl2,t'++MemOp.ofEvents 0 (G fr (pre++base)).frame.fn (G fr (pre++base)).frame.place es,q',_,_,fr',cs',A',es,?_,hs,⟨⟨f2,by simp[a9],?_⟩,a6,co,cw,d7,⟨λj x hj hx=>?_,λj hj=>?_⟩,?_,?_⟩⟩
    .rw[runNT_add,hr];show runNT P 1 _ _=_;simp only[runNT,bi,hrunT]
    .rcases ct with ⟨hc,bk⟩|⟨e1,c,v,e2,e3,_⟩|⟨_,_,_,hb,_⟩
     .rcases hc with ⟨hc,_⟩|⟨f1,d4,_,_,hc⟩
      .exact .inl ⟨pre,hc,h',bk⟩
      .exact .inl ⟨f1::pre,hc,λx hx=>(dU.1 hx).elim (λe=>e▸d4) (h' x),bk⟩
     .simp only[G] at e1 e2 e3
      cases pre with
      |nil=>exact .inr ⟨e1,c,v,e2,e3⟩
      |cons p ps=>
       simp only[lP,JA] at e2;obtain⟨rfl,rfl⟩:=e2;exact .inl ⟨ps,rfl,λx hx=>h' x (eY _ hx),.inl ⟨e1,e3▸(h' p iZ).finish v⟩⟩
     simp_all
    .have d6:0≠j:=ab
     rw[uU d6,yb] at hx;obtain⟨y,hy,rfl⟩:=sS.1 hx;have hq:=bj.old j y hj hy;rw[woken_quitsD hq,Deaf_other t' ab _ (λop bc=>by obtain⟨e,_,rfl⟩:=Go.Conc.mem_ofEvents bc;rfl)];exact hq
    .rw[Deaf_other t' (g':=0) ak _ (λop bc=>by obtain⟨e,_,rfl⟩:=Go.Conc.mem_ofEvents bc;rfl)];exact bj.above j ak
    .have hszB:B.heap.size<=B'.heap.size:=by
      rw[<-a6.size,<-bv.size];exact c6
     exact (bp.mono hszB).own λe he=>Fu (ao e he)
    .have hszB:B.heap.size<=B'.heap.size:=by
      rw[<-a6.size,<-bv.size];exact c6
     omega
  .exact absurd hs (hp.rZ f (.inr c7) _ _ _ _ _ _)
 induction hT with
 |now h=>exactλS gs B sl t q hs=>⟨0,gs,B,sl,t,q,S,_,_,_,rfl,hs,h⟩
 |quiet fr' cs' h1 h2 h3 hn ih=>
  rename_i fr cs w;intro S gs B sl t q hs
  obtain⟨N,h8,B',a4,t',q',tp,d,f2,c2,A2,es,hr,ag,bf⟩:=one S gs B sl t q hs hn λtp d=>⟨fr',cs',_,_,h1 _,h2,_,h3⟩
  .rw[h1 _] at ag
   injection ag with e1 e2 e3
   injection e1 with e4 e5
   subst e4;subst e5;subst e2;obtain⟨x1,x2,x3,x4,x5,x6,x7,x8⟩:=bf;obtain⟨N2,y⟩:=ih S h8 B' a4 t' q' ⟨x1,⟨x2.size,x2.low,x2.same,x2.dead,x2.os,x2.output⟩,x3,x4,x5,x6,x7,x8⟩;obtain⟨gs2,B2,sl2,t2,q2,S2,fr2,cs2,A2,c4,c5,hf⟩:=y;exact⟨N+N2,gs2,B2,sl2,t2,q2,S2,fr2,cs2,A2,by rw[runNT_add,hr];exact c4,c5,hf⟩
 |step h1 h2 hn ih=>
  rename_i fr cs w;intro S gs B sl t q hs
  obtain⟨N,h8,B',a4,t',q',tp,d,f2,c2,A2,es,hr,ag,bf⟩:=one S gs B sl t q hs hn λtp d=>by
   obtain⟨fr',cs',w',es,e1,e2,_⟩:=h1 _ (hp.kh w tp d);exact⟨fr',cs',w',es,e1,e2,_,h2 _ _ _ _ _ (hp.kh w tp d) e1⟩
  obtain⟨N2,gs2,B2,sl2,t2,q2,S2,fr2,cs2,A3,c4,c5,hf⟩:=ih _ _ _ _ _ (hp.kh w tp d) ag S h8 B' a4 t' q' bf;exact⟨N+N2,gs2,B2,sl2,t2,q2,S2,fr2,cs2,A3,by rw[runNT_add,hr];exact c4,c5,hf⟩
 |ext R h1 h2 hn ih=>
  rename_i f args c cs w;intro S gs B sl t q hs;have c7:Xf.xf f:=hp.known _ _ _ _ (h1 _ (hp.kh w w.tape w.drawn));obtain⟨fr2,h0,bg⟩:=hs.st;obtain⟨pre,cm,h',bh⟩:=bg.top hn
  have ba:fr2=Frame.enter P f args .normal:=by
   rcases bh with ⟨rfl,hf⟩|⟨f',aq,ee,e1,rfl⟩
   .exact absurd (hf.calm.resolve_right λh=>b9 _ h.1).2.2 (hp.own f c7)
   .have:f=f':=congrArg Frame.fn e1;subst this;exact (M6 (hp.tmps f c7) e1).symm
  subst ba;obtain⟨N,h8,B',a4,t',q',S',A1,A',v,hr,hE,hR,b6,a6,df,cx,d8,bj,bp,hszX⟩:=ou f args c cs base w S R gs B sl t q c7 h1 hs h0
  have ay:Sit P0 P K S' base (c.finish v) cs A' h8 B' t' q':=by
   refine⟨⟨_,b6,?_⟩,a6,df,cx,d8,bj,bp,dN hs.n0 hszX⟩
   cases pre with
   |nil=>exact .inr ⟨rfl,c,v,cm.symm,rfl⟩
   |cons p ps=>
    simp only[lP,JA] at cm;obtain⟨rfl,rfl⟩:=cm;exact .inl ⟨ps,rfl,λx hx=>h' x (eY _ hx),.inl ⟨rfl,(h' c iZ).finish v⟩⟩
  obtain⟨N2,gs2,B2,sl2,t2,q2,S2,fr2,cs2,A3,c4,c5,hf⟩:=ih A1 v A' hE hR S' h8 B' a4 t' q' ay;exact⟨N+N2,gs2,B2,sl2,t2,q2,S2,fr2,cs2,A3,by rw[runNT_add,hr];exact c4,c5,hf⟩
end
end Go.Fc
namespace Go.Fc
open Go Go.Conc Go.Fi
open Go.ConcN (sumTo)
noncomputable def iI(C:Cx)(W:World):World:={ W with heap:=W.heap.mapIdx λb o=>open Classical in if okO C o then o else jC b o }
def rootOf(W:World):je:=⟨W.heap.size,λb o=>W.heap[b]?=some o⟩
section
variable{C:Cx}{W:World}
theorem xQ:(iI C W).heap.size=W.heap.size:=by simp[iI]
theorem uR{b:Nat}{o:Obj}(h:W.heap[b]?=some o)(ho:okO C o):(iI C W).heap[b]?=some o:=by
 simp[iI,h,ho]
theorem By{b:Nat}{o:Obj}(h:W.heap[b]?=some o)(ho:¬okO C o):(iI C W).heap[b]?=some (jC b o):=by
 simp[iI,h,ho]
theorem HI(b:Nat)(o:Obj):¬okO C (jC b o):=by cases o<;>exact id
theorem Qt:Lk C ⟨λ_=>False,λ_ _=>False,λb o=>W.heap[b]?=some o⟩ (iI C W) W:=by
 refine⟨xQ,λb h=>h.elim,λb _=>?_,λb h=>h.elim,rfl,rfl⟩
 rcases hx:W.heap[b]? with _|o
 .have:(iI C W).heap[b]?=none:=by
   rw[TU,xQ];exact TU.1 hx
  simp_all
 .by_cases ho:okO C o
  .exact .inl ⟨by rw[uR hx ho],λo' e=>by rw[uR hx ho] at e;simp_all⟩
  .exact .inr (.inl ⟨o,rfl,ho,By hx ho,hx⟩)
theorem TD{S:Sh}{A B:World}(hl:Lk C S A B)(hd:∀b,S.dead b->(rootOf W).n0<=b)(ho:S.old=(rootOf W).old)(hw:∀b i,¬S.part b i)(hb:Bel W.heap.size (iI C W) A):Bel W.heap.size W B:=by
 refine⟨hl.os.symm.trans hb.os,hl.output.symm.trans hb.output,by rw[<-hl.size,<-xQ (C:=C)];exact hb.size,λb a9=>?_⟩;have hA:=hb.block b a9;obtain⟨o,hx⟩:∃o,W.heap[b]?=some o:=⟨_,dE a9⟩
 have eh:¬S.dead b:=λh=>by have:=hd b h;simp only[rootOf] at this;omega
 rcases hl.same b eh with ⟨e,hk⟩|⟨o',h1,h2,h3,h4⟩|⟨cA,cB,e,f,h1,h2,h3,h4⟩
 .rw[<-e,hA];by_cases b8:okO C o
  .rw[uR hx b8,hx]
  .rw[By hx b8] at hA;exact absurd (hk _ hA) (HI b o)
 .rw[ho] at h4;rw[h1];exact h4.symm
 .have hc:cA=cB:=Da (Db λi=>al);subst hc;rw[h2,<-h1,hA];by_cases b8:okO C o
  .rw[uR hx b8,hx]
  .rw[By hx b8] at hA;rw[h1] at hA;have:=HI (C:=C) b o;rw[<-fK hA] at this;exact absurd trivial this
end
section
variable[Xf][bE]{P0 P:Program}{bad:Nat->Prop}
theorem Qu(S:Loc->Prop)(n:Nat):Past S n #[]:=
 ⟨λsaid=>by rintro⟨i,j,_,⟨a,b,ha,_⟩,_⟩;trivial,λi a ha=>aE,λi g hg=>aE,rfl,ae⟩
theorem TE(hp:qD P0 P bad){W:World}(ou:rY P0 P (rootOf W))(b9:∀f,¬Xf.bot f){f:FuncId}{fn:Func}{c:Code}{args:Array Value}{t:Tmp}{R:Value->World->Prop}{iP:Value->World->Prop}(hf:P.funcs[f]?=some fn)(hb:fn.body=some c)(hc:Cd P0 c)(bl:(Cc P0 P).fn f)(ei:¬bad f)(bm:fn.results=#[.tmp t])(h:c.wpT none P0 (Go.Fi.bodyPost P0 fn λe w'=>∃v,e=.returned v/\R v w') { tmps:=args++Array.replicate (fn.ntmps-args.size) undef,defers:=[] } (iI (Cc P0 P) W))(c3:∀v A B S,R v A->Lk (Cc P0 P) S A B->(∀b,S.dead b->W.heap.size<=b)->S.old=(rootOf W).old->(∀b i,¬S.part b i)->iP v B):∃N last o w' t',runNT P (N+1) (solo (G (Frame.enter P f args .normal) []) W) #[]=(.ended o w',t')/\runN P N (solo (G (Frame.enter P f args .normal) []) W)=.next last/\step P last=.ended o w'/\Go.Conc.Good P iP last o w' t':=by
 let b:Frame:={ (default:Frame) with fn:=f,kind:=.normal,roundOf:=none }
 have hh:Frame.enter P f args .normal=b.atR { tmps:=args++Array.replicate (fn.ntmps-args.size) undef,defers:=[] } [.code c]:=by
  simp[Frame.enter,Frame.atR,hf,hb,b]
 have hT:=h b [] [] rfl (by simp[b])
 have hΦ:∀f' args cs w,bad f'->¬Arr b [] [] (Go.Fi.bodyPost P0 fn λe w'=>∃v,e=.returned v/\R v w') (Frame.enter P0 f' args .normal) cs w:=by
  rintro f' aq cs w dx ⟨_,e,a,_,he⟩
  cases e with
  |normal=>
   have:f'=f:=congrArg Frame.fn he;simp_all
  |exit id=>
   trivial
  |ret=>
   obtain⟨k1,he⟩:=he;have:f'=f:=congrArg Frame.fn he;simp_all
  |_=>exact he.elim
 have e8:dw P0 P (Frame.enter P f args .normal):=by
  rw[hh];refine⟨λit dk=>?_,by simp[Frame.atR,b],.inl ⟨rfl,λd hd=>aE,bl⟩,λch=>by simp[Frame.atR],bl.1.imp λfn h=>⟨fn,h.1,h.2.1,h.2.2,h.2.2⟩⟩;simp only[Frame.atR,sV] at dk;subst dk;exact hc
 have ay:Sit P0 P (rootOf W) ⟨λ_=>False,λ_ _=>False,λb o=>W.heap[b]?=some o⟩ [] (b.atR { tmps:=args++Array.replicate (fn.ntmps-args.size) undef,defers:=[] } [.code c]) [] (iI (Cc P0 P) W) #[G (Frame.enter P f args .normal) []] W #[] (λ_=>0):=by
  refine⟨⟨Frame.enter P f args .normal,rfl,.inl ⟨[],rfl,ae,.inl ⟨hh,by rw[<-hh];exact e8⟩⟩⟩,Qt,λ_ _=>id,λ_ h=>h.elim,rfl,leavers_one P _,Qu _ _,bU _⟩
 obtain⟨N,h8,B',a4,t',q',S',fr',cs',A',hr,bf,hArr⟩:=Fv hp ou b9 hΦ hT _ _ _ none _ _ ay;obtain⟨rfl,e,a,hq,he⟩:=hArr;obtain⟨⟨fr2,h0,ag⟩,bv,co,cw,d7,hold,ax,_⟩:=bf
 obtain⟨b5,db,hd⟩:fr'=b.atR a fr'.todo/\(∀w1,stepG P true (G fr' []) w1=.go (G { fr' with mode:=.returning } []) w1 #[])/\a.defers=[]/\∀w1,EnvD.E A' w1->∃v,(results fn a.tmps).run P0 w1=.ok v w1/\∃v',Ending.returned v=.returned v'/\R v' w1:=by
  cases e with
  |normal=>subst he;exact⟨rfl,λw1=>yr rfl,hq⟩
  |ret=>obtain⟨k1,rfl⟩:=he;exact⟨rfl,λw1=>yq rfl,hq⟩
  |_=>exact hq.elim
 obtain⟨cy,hR⟩:=hd
 have ba:fr2=fr':=by
  rcases ag with ⟨pre,cm,_,bk⟩|⟨_,c,v,dv,_⟩
  .rcases bk with ⟨e,_⟩|⟨f',aq,hx,e1,_⟩
   .exact e
   .have:f=f':=by rw[b5] at e1;exact congrArg Frame.fn e1
    exact absurd bl (hp.own f (this▸hx))
  .cases dv
 subst ba;obtain⟨v,h9,v',hv,hRv⟩:=hR _ (hp.kh A' A'.tape A'.drawn);cases hv
 have hv:v=a.tmps.getD t undef:=by
  rw[results_tmp bm _ P0 _] at h9
  grind
 have bu:P.inits.idxOf? f=none:=by rw[MW hp.kin.kin];exact bl.2
 have d3:Goes P true AtRel (λ_ _ es=>es=#[]) (AtEnd P (nq S') B'.heap.size iP) 1 (G fr2 []) B':=by
  refine Goes.step rfl λw1 h1=>?_
  rw[db w1];refine⟨rfl,λw2 h2=>?_⟩;obtain⟨d,hd⟩:=atRel_trans _ _ _ h1 h2;refine⟨rfl,v,#[],?_,ae,?_⟩
  .have ed:fr2.tmps=a.tmps:=by rw[b5];rfl
   have dy:fr2.defers=[]:=by rw[b5];exact cy
   have b':fr2.fn=f:=by rw[b5];rfl
   have e':fr2.kind=.normal:=by rw[b5];rfl
   have eb:(results fn fr2.tmps).run P w2=.ok v w2:=by rw[results_tmp bm _ P w2,ed,hv]
   have ao:(results fn fr2.tmps).events P w2 #[]=#[]:=events_results_tmp bm _ _;simp only[G,stepG,unwind,dy,b',hf,Sem.runT_eq,eb,ao,seen_none,doReturn,e',bu,ig,dB,cP,GStep.after];rfl
  .subst hd;exact c3 v _ _ S' hRv (bv.Cf A'.tape B'.tape A'.drawn d) cw d7 co
 obtain⟨N2,last,o,w',t2,e1,e2,e3,e4⟩:=beside_ends (D:=λ_ _ es=>es=#[]) (λw w' es ef e he=>ak) h0 hold ax d3 (sl:=a4);refine⟨N+N2,last,o,w',t2,?_,?_,e3,e4⟩
 .rw[pN,runNT_add];rw[solo_eq_crowd,hr];exact e1
 .rw[runN_add,<-runNT_fst P _ _ #[],solo_eq_crowd,hr];exact e2
end
end Go.Fc
namespace Go.Fi
open Go Go.RowKit
open Go.Conc (G)
section
variable[EnvD]
def TN(P:Program)(n m:Nat)(Φ:Frame->List Frame->World->Prop):Nat->Frame->List Frame->World->Prop
 |0,fr,cs,w=>Φ fr cs w
 |N+1,fr,cs,w=>Φ fr cs w \/
  (n<=cs.length/\∃fr' cs',(∀w1,stepG P true (G fr cs) w1=.go (G fr' cs') w1 #[])/\iq fr'/\(fr'.mode=.run\/m<cs'.length)/\TN P n m Φ N fr' cs' w) \/
  (n<=cs.length/\∀w1,EnvD.E w w1->∃fr' cs' w' es,stepG P true (G fr cs) w1=.go (G fr' cs') w' es/\iq fr'/\(fr'.mode=.run\/m<cs'.length)/\EnvD.D w1 es/\TN P n m Φ N fr' cs' w')
variable{P:Program}{n m:Nat}{Φ Ψ:Frame->List Frame->World->Prop}{fr:Frame}{cs:List Frame}{w:World}
theorem TN.now(h:Φ fr cs w):∀{N:Nat},TN P n m Φ N fr cs w
 |0=>h
 |_+1=>.inl h
theorem TN.quiet{N:Nat}(fr':Frame)(cs':List Frame)(h1:∀w1,stepG P true (G fr cs) w1=.go (G fr' cs') w1 #[])(h2:iq fr')(h3:fr'.mode=.run\/m<cs'.length)(h:TN P n m Φ N fr' cs' w)(hn:n<=cs.length:=by simp):TN P n m Φ (N+1) fr cs w:=
 .inr (.inl ⟨hn,fr',cs',h1,h2,h3,h⟩)
theorem TN.eD{N:Nat}(h:∀w1,EnvD.E w w1->∃fr' cs' w' es,stepG P true (G fr cs) w1=.go (G fr' cs') w' es/\iq fr'/\(fr'.mode=.run\/m<cs'.length)/\EnvD.D w1 es/\TN P n m Φ N fr' cs' w')(hn:n<=cs.length:=by simp):TN P n m Φ (N+1) fr cs w:=
 .inr (.inr ⟨hn,h⟩)
theorem TN.succ:∀{N:Nat}{fr:Frame}{cs:List Frame}{w:World},TN P n m Φ N fr cs w->TN P n m Φ (N+1) fr cs w
 |0,_,_,_,h=>.inl h
 |N+1,fr,cs,w,h=>by
  rcases h with h|⟨hn,fr',cs',h1,h2,h3,h⟩|⟨hn,h⟩
  .exact .inl h
  .exact .inr (.inl ⟨hn,fr',cs',h1,h2,h3,h.succ⟩)
  .exact .inr (.inr ⟨hn,λw1 e=>let ⟨a,b,c,d,e1,e2,e3,e4,e5⟩:=h w1 e;⟨a,b,c,d,e1,e2,e3,e4,e5.succ⟩⟩)
theorem TN.add{N:Nat}(h:TN P n m Φ N fr cs w):∀k,TN P n m Φ (N+k) fr cs w
 |0=>h
 |k+1=>(h.add k).succ
theorem TN.bind{M:Nat}:∀{N:Nat}{fr:Frame}{cs:List Frame}{w:World},TN P n m Φ N fr cs w->(∀fr cs w,Φ fr cs w->TN P n m Ψ M fr cs w)->TN P n m Ψ (M+N) fr cs w
 |0,_,_,_,h,hk=>hk _ _ _ h
 |N+1,fr,cs,w,h,hk=>by
  rcases h with h|⟨hn,fr',cs',h1,h2,h3,h⟩|⟨hn,h⟩
  .exact (hk _ _ _ h).add _
  .exact .inr (.inl ⟨hn,fr',cs',h1,h2,h3,h.bind hk⟩)
  .exact .inr (.inr ⟨hn,λw1 e=>let ⟨a,b,c,d,e1,e2,e3,e4,e5⟩:=h w1 e;⟨a,b,c,d,e1,e2,e3,e4,e5.bind hk⟩⟩)
theorem TN.mono{N:Nat}(h:TN P n m Φ N fr cs w)(hk:∀fr cs w,Φ fr cs w->Ψ fr cs w):TN P n m Ψ N fr cs w:=by
 have:=TN.bind (M:=0) h hk
 rwa [dJ] at this
theorem TN.more{N N':Nat}(h:TN P n m Φ N fr cs w)(hn:N<=N'):TN P n m Φ N' fr cs w:=by
 have:=TN.bind (M:=N'-N) (Ψ:=Φ) h λ_ _ _ h=>.now h
 rwa [show N'-N+N=N' by omega] at this
theorem TN.low{n' m':Nat}(hn:n'<=n)(hm:m'<=m):∀{N:Nat}{fr:Frame}{cs:List Frame}{w:World},TN P n m Φ N fr cs w->TN P n' m' Φ N fr cs w
 |0,_,_,_,h=>h
 |N+1,fr,cs,w,h=>by
  rcases h with h|⟨h0,fr',cs',h1,h2,h3,h⟩|⟨h0,h⟩
  .exact .inl h
  .exact .inr (.inl ⟨ab,fr',cs',h1,h2,h3.imp id λx=>ab,h.low hn hm⟩)
  .exact .inr (.inr ⟨ab,λw1 e=>let ⟨a,b,c,d,e1,e2,e3,e4,e5⟩:=h w1 e;⟨a,b,c,d,e1,e2,e3.imp id λx=>ab,e4,e5.low hn hm⟩⟩)
theorem TN.rely(tr:∀a b c,EnvD.E a b->EnvD.E b c->EnvD.E a c)(hΦ:∀fr cs w w1,Φ fr cs w->EnvD.E w w1->Φ fr cs w1):∀{N:Nat}{fr:Frame}{cs:List Frame}{w w1:World},TN P n m Φ N fr cs w->EnvD.E w w1->TN P n m Φ N fr cs w1
 |0,_,_,_,_,h,e=>hΦ _ _ _ _ h e
 |N+1,fr,cs,w,w1,h,e=>by
  rcases h with h|⟨h0,fr',cs',h1,h2,h3,h⟩|⟨h0,h⟩
  .exact .inl (hΦ _ _ _ _ h e)
  .exact .inr (.inl ⟨h0,fr',cs',h1,h2,h3,h.rely tr hΦ e⟩)
  .exact .inr (.inr ⟨h0,λw2 e2=>h w2 (tr _ _ _ e e2)⟩)
def _root_.Go.Code.wpN(r:Option Nat)(P:Program)(c:Code)(N:Nat)(Q:Exit->Act->World->Prop)(a:Act)(w:World):Prop:=
 ∀(b:Frame)(k:List Item)(cs:List Frame),b.roundOf=r->b.kind≠.early->TN P cs.length cs.length (Arr b k cs Q) N (b.atR a (.code c::k)) cs w
def du(r:Option Nat)(P:Program)(ops:Array Oper)(l:List Nat)(N:Nat)(Q:Exit->Act->World->Prop)(a:Act)(w:World):Prop:=
 ∀(b:Frame)(k:List Item)(cs:List Frame),b.roundOf=r->b.kind≠.early->TN P cs.length cs.length (Arr b k cs Q) N (b.atR a (.inRegion ops l::k)) cs w
def rJ(P:Program)(f:FuncId)(args:Array Value)(N:Nat)(w:World)(R:Value->World->Prop):Prop:=
 ∀(c:Frame)(cs:List Frame),c.mode=.run->TN P (cs.length+1) cs.length (λfr cs' w'=>cs'=cs/\∃v,R v w'/\fr=c.finish v) N (Frame.enter P f args .normal) (c::cs) w
theorem JU{b:Frame}{a:Act}{k:List Item}:(b.atR a k).mode=.run:=rfl
section rules
variable{r:Option Nat}{Q:Exit->Act->World->Prop}{a:Act}{w:World}
theorem u9{c:Code}{N N':Nat}(h:c.wpN r P N Q a w)(hn:N<=N'):c.wpN r P N' Q a w:=λb k cs hr hk=>(h b k cs hr hk).more hn
theorem oK{ops:Array Oper}{l:List Nat}{N N':Nat}(h:du r P ops l N Q a w)(hn:N<=N'):du r P ops l N' Q a w:=λb k cs hr hk=>(h b k cs hr hk).more hn
theorem Dq{f:FuncId}{args:Array Value}{N:Nat}{R R':Value->World->Prop}(h:rJ P f args N w R)(hr:∀v w,R v w->R' v w):rJ P f args N w R':=
 λc cs hc=>(h c cs hc).mono λ_ _ _ ⟨h1,v,h2,h3⟩=>⟨h1,v,hr _ _ h2,h3⟩
theorem yE(h:Q .normal a w):Code.skip.wpN r P 1 Q a w:=λb k cs _ _=>.quiet _ _ (λ_=>yh) dt (.inl rfl) (.now ⟨rfl,.normal,a,h,rfl⟩)
theorem Dr{id:Nat}(h:Q (.exit id) a w):(Code.exit id).wpN r P 0 Q a w:=λb k cs _ _=>.now ⟨rfl,.exit id,a,h,k,rfl,rfl⟩
theorem yG(h:Q .ret a w):Code.ret.wpN r P 0 Q a w:=λb k cs _ _=>.now ⟨rfl,.ret,a,h,k,rfl⟩
theorem ik{x y:Code}{N M:Nat}(h:x.wpN r P N (Exit.then (y.wpN r P M Q) Q) a w):(Code.seq x y).wpN r P (M+N+1) Q a w:=by
 intro b k cs hr hk;refine .quiet _ _ (λ_=>yj) dt (.inl rfl) ((h b (.code y::k) cs hr hk).bind ?_)
 rintro fr cs' w' ⟨rfl,e,a',hq,he⟩
 cases e with
 |normal=>subst he;exact hq b k _ hr hk
 |exit id=>
  obtain⟨k1,h1,rfl⟩:=he;exact .now ⟨rfl,.exit id,a',hq,k1,h1.trans (exitTo_plain rfl id k),rfl⟩
 |ret=>obtain⟨k1,rfl⟩:=he;exact .now ⟨rfl,.ret,a',hq,k1,rfl⟩
 |_=>exact he.elim
theorem yH{c:Operand}{x y:Code}{t:Bool}{N:Nat}(hc:a.eval c=.bool t)(h:(if t then x else y).wpN r P N Q a w):(Code.cond c x y).wpN r P (N+1) Q a w:=
 λb k cs hr hk=>.quiet _ _ (λ_=>yk hc) dt (.inl rfl) (h b k cs hr hk)
theorem va{id:Nat}{c:Code}{N:Nat}(h:c.wpN r P N (Exit.inBlock id Q) a w):(Code.block id c).wpN r P (N+2) Q a w:=by
 intro b k cs hr hk
 have e0:N+2=(1+N)+1:=ab
 rw[e0];refine .quiet _ _ (λ_=>ym) dt (.inl rfl) ((h b (.inBlock id::k) cs hr hk).bind ?_)
 rintro fr cs' w' ⟨rfl,e,a',hq,he⟩
 cases e with
 |normal=>subst he;exact .quiet _ _ (λ_=>yi) dt (.inl rfl) (.now (N:=0) ⟨rfl,.normal,a',hq,rfl⟩)
 |exit bo=>
  obtain⟨k1,h1,rfl⟩:=he;by_cases d5:bo=id
  .simp only[Exit.inBlock,d5,cz] at hq;subst d5
   have:exitTo bo k1=some k:=by rw[h1];simp[exitTo]
   exact .quiet _ _ (λ_=>yp this) dt (.inl rfl) (.now (N:=0) ⟨rfl,.normal,a',hq,rfl⟩)
  .simp only[Exit.inBlock,d5,cP] at hq
   have this:(id==bo)=false:=ak
   have hx:exitTo bo (.inBlock id::k)=exitTo bo k:=by simp[exitTo,this]
   exact .now ⟨rfl,.exit bo,a',hq,k1,h1.trans hx,rfl⟩
 |ret=>obtain⟨k1,rfl⟩:=he;exact .now ⟨rfl,.ret,a',hq,k1,rfl⟩
 |_=>exact he.elim
theorem Ds{c:Code}(I:Nat->Act->World->Prop)(n0 r0:Nat)(h0:I n0 a w)(round:∀k a w,I k a w->c.wpN r P r0 (Exit.then (λa' w'=>∃n',n'<k/\I n' a' w') Q) a w):(Code.loop c).wpN r P (n0*(r0+1)+r0+1) Q a w:=by
 intro b k cs hr hk;refine .quiet _ _ (λ_=>yn) dt (.inl rfl) ?_
 have key:∀n a w,I n a w->TN P cs.length cs.length (Arr b k cs Q) (n*(r0+1)+r0) (b.atR a (.code c::.inLoop c::k)) cs w:=by
  intro n
  induction n using Nat.strongRecOn with
  |_ n ih=>
   intro a w hI;refine (round n a w hI b (.inLoop c::k) cs hr hk).bind (M:=n*(r0+1)) ?_
   rintro fr cs' w' ⟨rfl,e,a',hq,he⟩
   cases e with
   |normal=>
    subst he;obtain⟨n',a9,dr⟩:=hq
    have hle:n'*(r0+1)+r0+1<=n*(r0+1):=by
     have h1:(n'+1)*(r0+1)<=n*(r0+1):=qT _ a9;rw[eU] at h1;omega
    exact TN.more (.quiet _ _ (λ_=>yo) dt (.inl rfl) (ih n' a9 a' w' dr)) hle
   |exit id=>
    obtain⟨k1,h1,rfl⟩:=he;exact .now ⟨rfl,.exit id,a',hq,k1,h1.trans (exitTo_plain rfl id k),rfl⟩
   |ret=>obtain⟨k1,rfl⟩:=he;exact .now ⟨rfl,.ret,a',hq,k1,rfl⟩
   |_=>exact he.elim
 simp_all
theorem iK{id:Nat}{ops:Array Oper}{N:Nat}(h:du r P ops (List.range ops.size) N Q a w):(Code.region id ops false).wpN r P (N+1) Q a w:=
 λb k cs hr hk=>.quiet _ _ (λ_=>yu) dt (.inl rfl) (h b k cs hr hk)
theorem JV{id:Nat}{ops:Array Oper}{N:Nat}(h:∀w1,EnvD.E w w1->∀t,du r P ops (Region.schedule (P.follows .mixedOrders) ops t) N Q a { w1 with drawn:=w1.drawn+1 }):(Code.region id ops true).wpN r P (N+1) Q a w:=
 λb k cs hr hk=>.eD λw1 e=>⟨_,_,_,_,Dk,dt,.inl rfl,EnvD.nil w1,h w1 e _ b k cs hr hk⟩
variable{ops:Array Oper}
theorem gX(h:Q .normal a w):du r P ops [] 1 Q a w:=λb k cs _ _=>.quiet _ _ (λ_=>uX) dt (.inl rfl) (.now ⟨rfl,.normal,a,h,rfl⟩)
theorem Dt{i:Nat}{rest:List Nat}{o:Oper}{N:Nat}(ho:ops[i]?=some o)(hw:Region.wanted o (yielded ops a.tmps)=false)(h:du r P ops rest N Q (a.put o.dst undef) w):du r P ops (i::rest) (N+1) Q a w:=by
 intro b k cs hr hk
 have hs:∀w1,stepG P true (G (b.atR a (.inRegion ops (i::rest)::k)) cs) w1=_:=λw1=>yw (P:=P) (b:=b) (a:=a) (k:=k) (cs:=cs) (w:=w1) (ops:=ops) (i:=i) (rest:=rest) (by simp[ho,hw])
 simp only[ho,jk] at hs;exact .quiet _ _ hs dt (.inl rfl) (h b k cs hr hk)
def _root_.Go.Oper.fq(o:Oper)(a:Act)(K:Act->World->Prop):Result Next->Prop
 |.ok (.value v) w'=>K (a.put o.dst v) w'
 |.ok .skip w'=>K (a.put o.dst undef) w'
 |_=>False
theorem dA{i:Nat}{rest:List Nat}{o:Oper}{N:Nat}(ho:ops[i]?=some o)(hw:Region.wanted o (yielded ops a.tmps)=true)(hd:∀c,o.op≠.defer c)(h:∀w1,EnvD.E w w1->(∀f,EnvD.D w1 (Go.Conc.listed P f a o w1))/\o.fq a (du r P ops rest N Q) ((execOp a.eval o).run P w1)):du r P ops (i::rest) (N+1) Q a w:=by
 intro b k cs hr hk
 refine .eD λw1 e=>?_
 obtain⟨ao,hu⟩:=h w1 e;have hg:=uY (P:=P) (b:=b) (k:=k) (cs:=cs) (w:=w1) (rest:=rest) ho hw hd
 have b4:∀v,(b.atR a (.inRegion ops (i::rest)::k)).finish v=b.atR (a.put o.dst v) (.inRegion ops rest::k):=by
  intro v;rw[Frame.finish_atR,ho];rfl
 have cf:((b.atR a (.inRegion ops (i::rest)::k)).kind==CallKind.early)=false:=by simpa[Frame.atR] using hk
 have cg:EnvD.D w1 (seen P (b.atR a (.inRegion ops (i::rest)::k)).fn ((execOp a.eval o).events P w1 #[])++#[]):=by rw[mN];exact ao _
 generalize h9:(execOp a.eval o).run P w1=R at hu
 cases R with
 |halt x w'=>exact hu.elim
 |ok x w'=>
  cases x<;>simp only[Oper.fq] at hu
  .rename_i v;exact⟨b.atR (a.put o.dst v) (.inRegion ops rest::k),cs,w',_,by rw[hg,<-b4];simp only[stepG.apply,cz,Sem.runT_eq,h9,cf,dB,cP,GStep.after];rfl,dt,.inl rfl,cg,hu b k cs hr hk⟩
  .exact⟨b.atR (a.put o.dst undef) (.inRegion ops rest::k),cs,w',_,by rw[hg,<-b4];simp only[stepG.apply,cz,Sem.runT_eq,h9,cf,dB,cP,GStep.after];rfl,dt,.inl rfl,cg,hu b k cs hr hk⟩
theorem Du{i:Nat}{rest:List Nat}{o:Oper}{N M:Nat}{f:FuncId}{args:Array Value}(ho:ops[i]?=some o)(hw:Region.wanted o (yielded ops a.tmps)=true)(hd:∀c,o.op≠.defer c)(h:∀w1,EnvD.E w w1->(∀f,EnvD.D w1 (Go.Conc.listed P f a o w1))/\(execOp a.eval o).run P w1=.ok (.enter f args) w1/\rJ P f args N w1 λv w'=>du r P ops rest M Q (a.put o.dst v) w'):du r P ops (i::rest) (M+N+1) Q a w:=by
 intro b k cs hr hk
 refine .eD λw1 e=>?_
 obtain⟨ao,h9,hu⟩:=h w1 e;have hg:=uY (P:=P) (b:=b) (k:=k) (cs:=cs) (w:=w1) (rest:=rest) ho hw hd
 have b4:∀v,(b.atR a (.inRegion ops (i::rest)::k)).finish v=b.atR (a.put o.dst v) (.inRegion ops rest::k):=by
  intro v;rw[Frame.finish_atR,ho];rfl
 have cf:((b.atR a (.inRegion ops (i::rest)::k)).kind==CallKind.early)=false:=by simpa[Frame.atR] using hk
 have cg:EnvD.D w1 (seen P (b.atR a (.inRegion ops (i::rest)::k)).fn ((execOp a.eval o).events P w1 #[])++#[]):=by rw[mN];exact ao _
 refine⟨Frame.enter P f args .normal,b.atR a (.inRegion ops (i::rest)::k)::cs,w1,_,by rw[hg];simp only[stepG.apply,cz,Sem.runT_eq,h9,cf,dB,cP,GStep.after];rfl,λch=>by simp[Frame.enter],.inl rfl,cg,?_⟩
 refine ((hu _ cs JU).low (Nat.le_succ _) (bU _)).bind λfr cs' ej ⟨h1,v,h2,h3⟩=>?_
 subst h1;subst h3;rw[b4];exact h2 b k _ hr hk
theorem Dv{f:FuncId}{fn:Func}{c:Code}{args:Array Value}{R:Value->World->Prop}{t:Tmp}{N:Nat}(hf:P.funcs[f]?=some fn)(hb:fn.body=some c)(bm:fn.results=#[.tmp t])(h:c.wpN none P N (λe a w=>(e=.normal\/e=.ret)/\a.defers=[]/\∀w1,EnvD.E w w1->R (a.tmps.getD t undef) w1) { tmps:=args++Array.replicate (fn.ntmps-args.size) undef,defers:=[] } w):rJ P f args (2+N) w R:=by
 intro cl cs b7
 let b:Frame:={ (default:Frame) with fn:=f,kind:=.normal,roundOf:=none }
 have hh:Frame.enter P f args .normal=b.atR { tmps:=args++Array.replicate (fn.ntmps-args.size) undef,defers:=[] } [.code c]:=by
  simp[Frame.enter,Frame.atR,hf,hb,b]
 have cv:iq cl:=λch=>by rw[b7];simp
 have bw:∀(fr:Frame)(w:World),fr.fn=f->fr.mode=.returning->fr.defers=[]->fr.kind=.normal->(∀w1,EnvD.E w w1->R (fr.tmps.getD t undef) w1) ->
  TN P (cs.length+1) cs.length (λfr cs' w'=>cs'=cs/\∃v,R v w'/\fr=cl.finish v) 1 fr (cl::cs) w:=by
  intro fr w hn hm hd hk hR
  refine .eD λw1 e=>?_
  rw[<-hn] at hf;have ao:((results fn fr.tmps).events P w1 #[])=#[]:=Go.Conc.events_results_tmp bm _ _;have h9:(results fn fr.tmps).run P w1=.ok (fr.tmps.getD t undef) w1:=results_tmp bm _ P w1;refine⟨cl.finish (fr.tmps.getD t undef),cs,w1,#[],?_,u5 cv _,.inl ?_,EnvD.nil w1,.now ⟨rfl,_,hR w1 e,rfl⟩⟩
  .simp only[G,stepG,unwind,hm,hd,hf,Sem.runT_eq,h9,ao,Go.Conc.seen_none,doReturn,hk,GStep.after];rfl
  .have:(cl.finish (fr.tmps.getD t undef)).mode=cl.mode:=by unfold Frame.finish;split<;>rfl
   rw[this,b7]
 rw[hh];refine ((h b [] (cl::cs) rfl (by simp[b])).low ae ae).bind ?_
 rintro fr cs' w' ⟨rfl,e,a',⟨e7,hd,hR⟩,he⟩
 cases e with
 |normal=>
  subst he;exact .quiet _ _ (λ_=>yr rfl) (λch=>ae) (.inr ae) (bw _ w' rfl rfl hd rfl hR)
 |ret=>
  obtain⟨k1,rfl⟩:=he;exact .quiet _ _ (λ_=>yq rfl) (λch=>ae) (.inr ae) (bw _ w' rfl rfl hd rfl hR)
 |_=>rcases e7 with h|h<;>cases h
end rules
end
end Go.Fi
namespace Go.Fc
open Go Go.Conc Go.Fi
theorem M9(P:Program)(main:Bool)(fr:Frame)(cs:List Frame)(h:main=true\/cs≠[])(w:World):stepG P main (G fr cs) w=stepG P true (G fr cs) w:=by
 cases main with
 |true=>rfl
 |false=>
  cases cs with
  |nil=>simp at h
  |cons c r=>rfl
variable[Xf][EnvD]
structure lI(P1 P:Program)(bad:Nat->Prop):Prop where
 kin:j7 P1 P (Cc P1 P) bad
 xf:∀f,¬Xf.xf f
 rZ:∀f,bad f->∀args cs w g' w' es,stepG P1 true (G (Frame.enter P1 f args .normal) cs) w≠.go g' w' es
 kh:∀(w:World) t d,EnvD.E w { w with tape:=t,drawn:=d }
 Cg:∀f,Xf.bot f->¬(Cc P1 P).fn f
structure dP(P1 P:Program)(S:Sh)(base:List Frame)(fr:Frame)(cs:List Frame)(A B:World):Prop where
 pre:∃pre,cs=pre++base/\(∀x∈pre,dw P1 P x)/\(∀p ps,pre=p::ps->(Cc P1 P).fn fr.fn/\∀i x,pre[i]?=some x->i+1<pre.length->(Cc P1 P).fn x.fn)
 ok:dw P1 P fr
 lk:Lk (Cc P1 P) S A B
section
variable{P1 P:Program}{bad:Nat->Prop}{S:Sh}{base:List Frame}{Φ:Frame->List Frame->World->Prop}
omit [EnvD] in
theorem dP.Cf{fr:Frame}{cs:List Frame}{A B:World}(h:dP P1 P S base fr cs A B)(t u:Nat->Question->Nat)(d e:Nat):dP P1 P S base fr cs { A with tape:=t,drawn:=d } { B with tape:=u,drawn:=e } :=
 ⟨h.pre,h.ok,⟨h.lk.size,h.lk.low,h.lk.same,h.lk.dead,h.lk.os,h.lk.output⟩⟩
theorem AE(hc:lI P1 P bad){main:Bool}(hm:main=true\/base≠[])(br:∀w es,EnvD.D w es->∀e∈es,S.fj e)(hΦ:∀f args cs w,bad f->¬Φ (Frame.enter P1 f args .normal) cs w)(hΦ2:∀fr cs w,cs.length<base.length->¬Φ fr cs w){fr:Frame}{cs:List Frame}{A B:World}{N:Nat}(h:dP P1 P S base fr cs A B)(hT:TN P1 base.length base.length Φ (N+1) fr cs A):Φ fr cs A\/∃fr' cs' A' B' es,stepG P main (G fr cs) B=.go (G fr' cs') B' es/\dP P1 P S base fr' cs' A' B'/\(∃A2,A2.heap=A'.heap/\A2.os=A'.os/\A2.output=A'.output/\TN P1 base.length base.length Φ N fr' cs' A2)/\B'.tape=B.tape/\Kept es B B'/\(∀e∈es,EvT S B' e)/\(∃A1,A1.heap=A.heap/\EnvD.D A1 es)/\A.heap.size<=A'.heap.size:=by
 have dead:∀{f:FuncId}{args:Array Value}{cs:List Frame}{w:World},bad f->∀{N},TN P1 base.length base.length Φ N (Frame.enter P1 f args .normal) cs w->False:=by
  intro f args cs w hb N h
  cases N with
  |zero=>exact hΦ _ _ _ _ hb h
  |succ N=>
   rcases h with h|⟨_,fr',cs',h1,_⟩|⟨_,h⟩
   .simp_all
   .exact hc.rZ f hb _ _ _ _ _ _ (h1 w)
   .obtain⟨_,_,_,_,e,_⟩:=h _ (hc.kh w w.tape w.drawn);exact hc.rZ f hb _ _ _ _ _ _ e
 have gone:∀{fr:Frame}{cs:List Frame}{w:World},cs.length<base.length->∀{N},TN P1 base.length base.length Φ N fr cs w->False:=by
  intro fr cs w a9 N h
  cases N with
  |zero=>exact hΦ2 _ _ _ a9 h
  |succ N=>
   rcases h with h|⟨hn,_⟩|⟨hn,_⟩
   .simp_all
   .omega
   .omega
 obtain⟨pre,h',da,d9⟩:=h.pre
 have go:∀(A1:World),A1.heap=A.heap->A1.os=A.os->A1.output=A.output->A1.tape=B.tape->A1.drawn=B.drawn->∀(fr':Frame)(cs':List Frame)(A':World)(es:Array Event),stepG P1 true (G fr cs) A1=.go (G fr' cs') A' es->iq fr' ->
  (fr'.mode=.run\/base.length<cs'.length)->(∀e∈es,S.fj e)->(∃A2,A2.heap=A'.heap/\A2.os=A'.os/\A2.output=A'.output/\TN P1 base.length base.length Φ N fr' cs' A2)->(∃A1,A1.heap=A.heap/\EnvD.D A1 es) ->
  ∃fr' cs' A' B' es,stepG P main (G fr cs) B=.go (G fr' cs') B' es/\dP P1 P S base fr' cs' A' B'/\(∃A2,A2.heap=A'.heap/\A2.os=A'.os/\A2.output=A'.output/\TN P1 base.length base.length Φ N fr' cs' A2)/\B'.tape=B.tape/\Kept es B B'/\(∀e∈es,EvT S B' e)/\(∃A1,A1.heap=A.heap/\EnvD.D A1 es)/\A.heap.size<=A'.heap.size:=by
  intro A1 e1 e2 e3 e4 e5 fr' cs' A' es hs aw a5 bl bq hD;have bb:Lk (Cc P1 P) S A1 B:=⟨by rw[e1];exact h.lk.size,by rw[e1];exact h.lk.low,by rw[e1];exact h.lk.same,by rw[e1];exact h.lk.dead,by rw[e2];exact h.lk.os,by rw[e3];exact h.lk.output⟩
  rcases Fs hc.kin h.ok (.inl rfl) bb hs with ⟨f,args,cs2,hb,x1,x2⟩|(⟨ch,cu⟩|e6)|cp
  .simp only[G] at x1;simp_all
  .exact absurd cu (aw ch)
  .trivial
  .obtain⟨_,_,bn,_,_,_,hgo⟩:=cp bl
   obtain⟨f2,B',ct,hB,a6,dq,_,dl,ao⟩:=hgo λj hj=>by rw[e4,e5]
   have c8:stepG P main (G fr cs) B=.go (G f2 cs') B' es:=by
    rw[M9 P main fr cs (hm.imp id λhb=>by rw[h'];simp[hb]) B];exact hB
   rcases ct with ⟨b7,bk⟩|⟨x1,c,v,x2,x3,_⟩|⟨x1,x2,x4,x5,x3,_⟩
   .rcases bk with ⟨x1,b8⟩|⟨f,_,hx,_⟩
    .simp only[G] at x1 b7 b8;subst x1;refine⟨f2,cs',A',B',es,c8,⟨?_,b8,a6⟩,bq,dq,dl,ao,hD,by rw[<-e1];exact bn⟩
     rcases b7 with ⟨b7,bt⟩|⟨f1,d4,bt,b',b7⟩
     .grind
     .refine⟨f1::pre,by rw[b7,h'];rfl,λx hx=>(dU.1 hx).elim (λe=>e▸d4) (da x),λp ps e=>⟨b'.resolve_right (hc.xf _),λi x hi a9=>?_⟩⟩
      cases i with
      |zero=>
       obtain rfl:f1=x:=by grind
       cases pre with
       |nil=>simp at a9
       |cons q qs=>rw[bt];simp_all
      |succ i=>
       cases pre with
       |nil=>simp at a9
       |cons q qs=>grind
    .exact absurd hx (hc.xf f)
   .simp only[G] at x1 x2 x3;subst x1;obtain⟨A2,_,_,_,hT2⟩:=id bq
    cases pre with
    |nil=>
     simp_all
    |cons p ps=>
     rw[h'] at x2;simp only[lP,JA] at x2;obtain⟨rfl,rfl⟩:=x2;refine⟨f2,_,A',B',es,c8,⟨⟨ps,rfl,λx hx=>da x (eY _ hx),λq qs e=>⟨?_,λi x hi a9=>(d9 p ps rfl).2 (i+1) x ak ak⟩⟩,x3▸(da p iZ).finish v,a6⟩,bq,dq,dl,ao,hD,by rw[<-e1];exact bn⟩;rw[x3,wB];exact (d9 p ps rfl).2 0 p rfl (by rw[e];simp)
   .simp only[G] at x1 x2 x3 x4 x5
    rcases a5 with a5|a5
    .rw[a5] at x3;cases x3
    .cases pre with
     |nil=>rw[x2,h'] at a5;simp at a5
     |cons q qs=>exact absurd (d9 q qs rfl).1 (hc.Cg _ (x4▸x5))
 rcases hT with hT|⟨_,fr',cs',h1,h2,h3,hT⟩|⟨_,hT⟩
 .exact .inl hT
 .have hs:=h1 { A with tape:=B.tape,drawn:=B.drawn };exact .inr (go { A with tape:=B.tape,drawn:=B.drawn } rfl rfl rfl rfl rfl fr' cs' _ _ hs h2 h3 ae ⟨A,rfl,rfl,rfl,hT⟩ ⟨A,rfl,EnvD.nil A⟩)
 .obtain⟨fr',cs',A',es,h1,h2,h3,h4,h5⟩:=hT _ (hc.kh A B.tape B.drawn);exact .inr (go { A with tape:=B.tape,drawn:=B.drawn } rfl rfl rfl rfl rfl fr' cs' A' es h1 h2 h3 (br _ _ h4) ⟨A',rfl,rfl,rfl,h5⟩ ⟨{ A with tape:=B.tape,drawn:=B.drawn },rfl,h4⟩)
end
end Go.Fc
