/- Lemmas. -/
import Derived.Test.YthpkmilhiganjaaGreatPMb
import Derived.Test.YthpkmilhiganjaaGreatPLa
import Derived.Conc.Beside
set_option linter.all false
set_option maxHeartbeats 32000000
set_option maxRecDepth 100000
namespace Go.Fc
open Go Go.Conc Go.Fi
open Go.ConcN (sumTo upd sumTo_upd upd_ne upd_same)
theorem EW{P:Program}{m m1 m2:Machine}{t t2:Trace}{ops:Trace}{N:Nat}(h:stepT P m=(.next m1,ops))(k:runNT P N m1 (t++ops)=(.next m2,t2)):runNT P (N+1) m t=(.next m2,t2):=by
 simp only[runNT,h];exact k
theorem zG{P:Program}{Shun:Loc->Prop}{B0:Nat}{a:Goroutine}(h9:a.status=.running):∀(M:Nat)(gs:Array Goroutine)(w:World)(sl:Option (Nat×Nat))(t:Trace)(q:Nat->Nat),sumTo gs.size q<=M->gs[0]?=some a->Leavers P t gs q->Past Shun B0 t->∃(N:Nat)(h8:Array Goroutine)(w':World)(a4:Option (Nat×Nat))(t':Trace)(q':Nat->Nat)(d:Nat)(sl2:Option (Nat×Nat)),runNT P N (crowd gs w sl) t=(.next (crowd h8 w' a4),t')/\h8.size=gs.size/\h8[0]?=some a/\Leavers P t' h8 q'/\Past Shun B0 t'/\AtRel w (w'.at d)/\stepT P (crowd h8 w' a4)=runT P (crowd h8 (w'.at d) sl2) 0:=by
 intro M
 induction M with
 |zero=>
  intro gs w sl t q hM h0 hL hP
  have ck:∀g∈gs,awake g:=by
   intro g hg;obtain⟨i,hi,rfl⟩:=Array.mem_iff_getElem.1 hg
   rcases ll i with rfl|aa
   .have:gs[0]=a:=al
    rw[this];exact awake_of (.inl h9)
   .exact awake_of ((hL.old i _ aa (du hi)).status.elim .inl λx=>.inr (.inr x))
  obtain⟨i,g,d,a4,hi,hg,ag⟩:=crowd_pick (P:=P) (w:=w) (sl:=sl) ck ⟨0,a,h0,h9⟩
  rcases ll i with rfl|aa
  .exact⟨0,gs,w,sl,t,q,d,a4,rfl,rfl,h0,hL,hP,⟨d,rfl⟩,ag⟩
  .exfalso;have hq:=hL.old i g aa hi;have a9:i<gs.size:=(cY.1 hi).1;have:=Go.ConcN.le_sumTo (f:=q) a9
   have b6:q i=0:=ab
   rw[b6] at hq;rw[hq.1] at hg;cases hg
 |succ M ih=>
  intro gs w sl t q hM h0 hL hP
  have ck:∀g∈gs,awake g:=by
   intro g hg;obtain⟨i,hi,rfl⟩:=Array.mem_iff_getElem.1 hg
   rcases ll i with rfl|aa
   .have:gs[0]=a:=al
    rw[this];exact awake_of (.inl h9)
   .exact awake_of ((hL.old i _ aa (du hi)).status.elim .inl λx=>.inr (.inr x))
  obtain⟨i,g,d,a4,hi,hg,ag⟩:=crowd_pick (P:=P) (w:=w) (sl:=sl) ck ⟨0,a,h0,h9⟩
  rcases ll i with rfl|aa
  .exact⟨0,gs,w,sl,t,q,d,a4,rfl,rfl,h0,hL,hP,⟨d,rfl⟩,ag⟩
  .have hq:=hL.old i g aa hi
   have e6:(i==0)=false:=ar
   have a9:i<gs.size:=(cY.1 hi).1
   cases di:q i with
   |zero=>rw[di] at hq;rw[hq.1] at hg;cases hg
   |succ k=>
    rw[di] at hq
    rcases hq with ⟨hf,_⟩|⟨_,g',es,hm,bg,e9⟩
    .rw[hf] at hg;cases hg
    have hrunT:=runT_crowd_go (P:=P) (sl:=a4) (i:=i) hi (by rw[e6];exact bg (w.at d))
    have bm:((gs.map (woken P g g' (w.at d))).setIfInBounds i g').size=gs.size:=ae
    have ea:sumTo gs.size (upd q i k)+(k+1)=sumTo gs.size q+k:=by
     have:=sumTo_upd q k id a9;simp_all
    obtain⟨N,h8,w',dc,t',q',d',sl2,hr,bd,b6,bi,bo,hat,d9⟩:=ih ((gs.map (woken P g g' (w.at d))).setIfInBounds i g') (w.at d) a4 (t++MemOp.ofEvents i g.frame.fn g.frame.place es) (upd q i k) (by rw[bm];omega)
     (by
       have d3:i≠0:=ab
       rw[tB d3,vm,h0]
       simp[woken_run h9])
     ⟨λj x hj hx=>by
       by_cases c7:i=j
       .subst c7;rw[TX ak] at hx;obtain rfl:=fL hx;rw[upd_same,Deaf_own];exact e9
       .rw[tB c7,vm] at hx;obtain⟨y,hy,rfl⟩:=tD.1 hx;have dk:=hL.old j y hj hy;rw[woken_quitsD dk,upd_ne q k (gO c7),Deaf_other t c7 _ (λop bc=>by obtain⟨e,_,rfl⟩:=Go.Conc.mem_ofEvents bc;rfl)]
        exact dk,λj hj=>by
       rw[Deaf_other t (g':=i) ab _ (λop bc=>by obtain⟨e,_,rfl⟩:=Go.Conc.mem_ofEvents bc;rfl)]
       exact hL.above j ab⟩
     (hP.mute ab hm)
    exact⟨N+1,h8,w',dc,t',q',d',sl2,EW (ag.trans hrunT) hr,bd.trans bm,b6,bi,bo,atRel_trans _ _ _ ⟨d,rfl⟩ hat,d9⟩
variable[Xf][EnvD]
def nC(S:Sh):Loc->Prop:=λl=>∃a,l=.cell a/\S.dead a.block
omit [Xf] [EnvD] in
theorem EY{S:Sh}{n:World}{e:Event}(h:EvT S n e):EvL (nC S) n.heap.size e:=by
 rcases h with ⟨a,wr,rfl,⟨c,ty,fr,h1⟩,h2⟩|⟨r,wr,sy,rfl,h1,h2⟩|rfl
 .exact evL_cell a wr (by rintro⟨b,hb,hd⟩;simp_all) (cY.1 h1).1
 .refine⟨λx hx hs=>?_,ae,ae,?_⟩
  .obtain⟨b,hb,_⟩:=hs
   cases wr<;>cases sy<;>simp[MemAct.ofEvent,MemAct.touch?] at hx<;>subst hx<;>simp at hb
  .cases wr<;>cases sy<;>simpa[MemAct.ofEvent,MemAct.low,Loc.low] using h1
 .exact⟨λx hx=>aE,ae,ae,trivial⟩
section
variable(P0 P:Program)
def Ci(base:List Frame)(fr:Frame)(cs:List Frame)(fr2:Frame):Prop:=
 (∃pre,cs=pre++base/\(∀x∈pre,dh P0 P x)/\Fok P0 P fr fr2)\/(fr2=fr/\∃(c:Frame)(v:Value),base=c::cs/\fr=c.finish v)
structure jz where
 n0:Nat
 old:Nat->Obj->Prop
variable(K:jz)
structure Sit(S:Sh)(base:List Frame)(fr:Frame)(cs:List Frame)(A:World)(gs:Array Goroutine)(B:World)(t:Trace)(q:Nat->Nat):Prop where
 st:∃fr2,gs[0]?=some (G fr2 cs)/\Ci P0 P base fr cs fr2
 lk:Lk (Cc P0 P) S A B
 whole:∀b i,¬S.part b i
 lK:∀b,S.dead b->K.n0<=b
 pB:S.old=K.old
 old:Leavers P t gs q
 oC:Past (nC S) B.heap.size t
 n0:K.n0<=B.heap.size
def r8:Prop:=∀(f:FuncId)(args:Array Value)(c:Frame)(cs:List Frame)(base:List Frame)(A:World)(S:Sh)(R:World->Value->World->Prop)(gs:Array Goroutine)(B:World)(sl:Option (Nat×Nat))(t:Trace)(q:Nat->Nat),
 Xf.xf f->(∀w1,EnvD.E A w1->EnvD.xt f args w1 (R w1))->Sit P0 P K S base (Frame.enter P0 f args .normal) (c::cs) A gs B t q->gs[0]?=some (G (Frame.enter P f args .normal) (c::cs)) ->
 ∃(N:Nat)(h8:Array Goroutine)(B':World)(a4:Option (Nat×Nat))(t':Trace)(q':Nat->Nat)(S':Sh)(A1 A':World)(v:Value),
  runNT P N (crowd gs B sl) t=(.next (crowd h8 B' a4),t')/\EnvD.E A A1/\R A1 v A'/\h8[0]?=some (G (c.finish v) cs)/\Lk (Cc P0 P) S' A' B'/\(∀b i,¬S'.part b i)/\(∀b,S'.dead b->K.n0<=b)/\S'.old=K.old/\Leavers P t' h8 q'/\Past (nC S') B'.heap.size t'/\B.heap.size<=B'.heap.size
structure qO(bad:Nat->Prop):Prop where
 kin:iv P0 P (Cc P0 P) bad
 apart:∀f,bad f->¬Xf.xf f
 known:∀f args w R,EnvD.xt f args w R->Xf.xf f
 r9:∀f,bad f\/Xf.xf f->∀args cs w g' w' es,stepG P0 true (G (Frame.enter P0 f args .normal) cs) w≠.go g' w' es
 own:∀f,Xf.xf f->¬(Cc P0 P).fn f
 tmps:∀f,Xf.xf f->(P0.funcs[f]?).map (·.ntmps)=(P.funcs[f]?).map (·.ntmps)
 kY:∀(w:World) t d,EnvD.E w { w with tape:=t,drawn:=d }
end
section
variable{P0 P:Program}{bad:Nat->Prop}{S:Sh}{K:jz}
omit [Xf] [EnvD] in
theorem Lk.Cj{C:Cx}{A B:World}(h:Lk C S A B)(t u:Nat->Question->Nat)(d e:Nat):Lk C S { A with tape:=t,drawn:=d } { B with tape:=u,drawn:=e }:=⟨h.size,h.low,h.same,h.dead,h.os,h.output⟩
omit [EnvD] in
theorem LJ{f:FuncId}{a b:Array Value}(hn:(P0.funcs[f]?).map (·.ntmps)=(P.funcs[f]?).map (·.ntmps))(h:Frame.enter P0 f a .normal=Frame.enter P0 f b .normal):Frame.enter P f a .normal=Frame.enter P f b .normal:=by
 simp only[Frame.enter,Frame.mk.injEq] at h ⊢;rw[hn] at h;trivial
theorem Ci.top{base:List Frame}{fr fr2:Frame}{cs:List Frame}(h:Ci P0 P base fr cs fr2)(hn:base.length<=cs.length):∃pre,cs=pre++base/\(∀x∈pre,dh P0 P x)/\Fok P0 P fr fr2:=by
 rcases h with h|⟨_,c,v,hb,_⟩
 .exact h
 grind
theorem EZ(hp:qO P0 P bad)(oD:r8 P0 P K)(b9:∀f,¬Xf.bot f){base:List Frame}{Φ:Frame->List Frame->World->Prop}(hΦ:∀f args cs w,bad f->¬Φ (Frame.enter P0 f args .normal) cs w){fr:Frame}{cs:List Frame}{A:World}(hT:T P0 base.length Φ fr cs A):∀(S:Sh)(gs:Array Goroutine)(B:World)(sl:Option (Nat×Nat))(t:Trace)(q:Nat->Nat),Sit P0 P K S base fr cs A gs B t q->∃(N:Nat)(h8:Array Goroutine)(B':World)(a4:Option (Nat×Nat))(t':Trace)(q':Nat->Nat)(S':Sh)(fr':Frame)(cs':List Frame)(A':World),runNT P N (crowd gs B sl) t=(.next (crowd h8 B' a4),t')/\Sit P0 P K S' base fr' cs' A' h8 B' t' q'/\Φ fr' cs' A':=by
 have dead:∀{f:FuncId}{args:Array Value}{cs:List Frame}{w:World},bad f->T P0 base.length Φ (Frame.enter P0 f args .normal) cs w->False:=by
  intro f args cs w hb h;generalize b5:Frame.enter P0 f args .normal=fr at h
  cases h with
  |now h=>grind
  |quiet fr' cs' h1 h2 h3 hn=>subst b5;exact hp.r9 f (.inl hb) _ _ _ _ _ _ (h1 w)
  |step h1 h2 hn=>
   subst b5;obtain⟨_,_,_,_,e,_⟩:=h1 _ (hp.kY w w.tape w.drawn);exact hp.r9 f (.inl hb) _ _ _ _ _ _ e
  |ext R h1 h2 hn=>
   rename_i f' aq c cs';have:f=f':=congrArg Frame.fn b5;subst this;exact hp.apart f hb (hp.known _ _ _ _ (h1 _ (hp.kY w w.tape w.drawn)))
 have one:∀{fr:Frame}{cs:List Frame}{A:World}(S:Sh)(gs:Array Goroutine)(B:World)(sl:Option (Nat×Nat))(t:Trace)(q:Nat->Nat),Sit P0 P K S base fr cs A gs B t q->base.length<=cs.length ->
  (∀tp d,∃fr' cs' A' es,stepG P0 true (G fr cs) { A with tape:=tp,drawn:=d } = .go (G fr' cs') A' es/\fY fr'/\∃w0,T P0 base.length Φ fr' cs' w0) ->
  ∃(N:Nat)(h8:Array Goroutine)(B':World)(a4:Option (Nat×Nat))(t':Trace)(q':Nat->Nat)(tp:Nat->Question->Nat)(d:Nat)(fr':Frame)(cs':List Frame)(A':World)(es:Array Event),
   runNT P N (crowd gs B sl) t=(.next (crowd h8 B' a4),t')/\stepG P0 true (G fr cs) { A with tape:=tp,drawn:=d } = .go (G fr' cs') A' es/\Sit P0 P K S base fr' cs' A' h8 B' t' q':=by
  intro fr cs A S gs B sl t q ay hn ag;obtain⟨⟨fr2,h0,bf⟩,bu,cg,cq,d4,hold,ax,ef⟩:=ay;obtain⟨pre,rfl,h',bh⟩:=bf.top hn;obtain⟨N,h8,w',a4,t',q',d,sl2,hr,bm,b6,bi,bo,⟨d2,hat⟩,bg⟩:=zG (P:=P) (a:=G fr2 (pre++base)) rfl _ gs B sl t q (bS _) h0 hold ax;obtain⟨fr',cs',A',es,hs,aw,w0,bp⟩:=ag (w'.at d).tape (w'.at d).drawn
  rcases bh with ⟨e0,hf⟩|⟨f,args,c5,rfl,rfl⟩
  .obtain rfl:fr=fr2:=e0.symm
   have bb:Lk (Cc P0 P) S { A with tape:=(w'.at d).tape,drawn:=(w'.at d).drawn } (w'.at d):=by
    rw[hat];exact bu.Cj _ B.tape _ d2
   rcases tR hp.kin hf (.inl rfl) bb hs with ⟨f,args,cs2,hb,e1,e2⟩|(⟨ch,co⟩|dw)|cj
   .simp only[G] at e1;rw[e1] at bp;simp_all
   .exact absurd co (aw ch)
   .trivial
   .obtain⟨_,_,c4,_,_,_,hgo⟩:=cj λe he a _=>cg _ _
    obtain⟨f2,B',cm,hB,a6,_,_,_,ao⟩:=hgo λj hj=>rfl
    have c6:stepG P true (G fr (pre++base)) (w'.at d)=.go (G f2 cs') B' es:=hB;have hrunT:=runT_crowd_go (P:=P) (sl:=sl2) (i:=0) b6 (show stepG P (0==0) (G fr (pre++base)) (w'.at d)=_ from c6);have a9:0<h8.size:=(cY.1 b6).1;refine⟨N+1,(h8.map (woken P (G fr (pre++base)) (G f2 cs') B')).setIfInBounds 0 (G f2 cs'),B',sl2,t'++MemOp.ofEvents 0 (G fr (pre++base)).frame.fn (G fr (pre++base)).frame.place es,q',_,_,fr',cs',A',es,?_,hs,⟨⟨f2,by simp[a9],?_⟩,a6,cg,cq,d4,⟨λj x hj hx=>?_,λj hj=>?_⟩,?_,?_⟩⟩
    .rw[runNT_add,hr];show runNT P 1 _ _=_;simp only[runNT,bg,hrunT]
    .rcases cm with ⟨hc,bj⟩|⟨e1,c,v,e2,e3,_⟩|⟨_,_,_,hb,_⟩
     .rcases hc with ⟨hc,_⟩|⟨f1,cx,_,_,hc⟩
      .exact .inl ⟨pre,hc,h',bj⟩
      .exact .inl ⟨f1::pre,hc,λx hx=>(dM.1 hx).elim (λe=>e▸cx) (h' x),bj⟩
     .simp only[G] at e1 e2 e3
      cases pre with
      |nil=>exact .inr ⟨e1,c,v,e2,e3⟩
      |cons p ps=>
       simp only[qm,DD] at e2;obtain⟨rfl,rfl⟩:=e2;exact .inl ⟨ps,rfl,λx hx=>h' x (eH _ hx),.inl ⟨e1,e3▸(h' p gF).finish v⟩⟩
     simp_all
    .have d3:0≠j:=ab
     rw[tB d3,vm] at hx;obtain⟨y,hy,rfl⟩:=tD.1 hx;have hq:=bi.old j y hj hy;rw[woken_quitsD hq,Deaf_other t' ab _ (λop bc=>by obtain⟨e,_,rfl⟩:=Go.Conc.mem_ofEvents bc;rfl)];exact hq
    .rw[Deaf_other t' (g':=0) ak _ (λop bc=>by obtain⟨e,_,rfl⟩:=Go.Conc.mem_ofEvents bc;rfl)];exact bi.above j ak
    .have hszB:B.heap.size<=B'.heap.size:=by
      rw[<-a6.size,<-bu.size];exact c4
     exact (bo.mono hszB).own λe he=>EY (ao e he)
    .have hszB:B.heap.size<=B'.heap.size:=by
      rw[<-a6.size,<-bu.size];exact c4
     omega
  .exact absurd hs (hp.r9 f (.inr c5) _ _ _ _ _ _)
 induction hT with
 |now h=>exactλS gs B sl t q hs=>⟨0,gs,B,sl,t,q,S,_,_,_,rfl,hs,h⟩
 |quiet fr' cs' h1 h2 h3 hn ih=>
  rename_i fr cs w;intro S gs B sl t q hs
  obtain⟨N,h8,B',a4,t',q',tp,d,f2,c2,A2,es,hr,ag,bd⟩:=one S gs B sl t q hs hn λtp d=>⟨fr',cs',_,_,h1 _,h2,_,h3⟩
  .rw[h1 _] at ag
   injection ag with e1 e2 e3
   injection e1 with e4 e5
   subst e4;subst e5;subst e2;obtain⟨x1,x2,x3,x4,x5,x6,x7,x8⟩:=bd;obtain⟨N2,y⟩:=ih S h8 B' a4 t' q' ⟨x1,⟨x2.size,x2.low,x2.same,x2.dead,x2.os,x2.output⟩,x3,x4,x5,x6,x7,x8⟩;obtain⟨gs2,B2,sl2,t2,q2,S2,fr2,cs2,A2,bz,c3,hf⟩:=y;exact⟨N+N2,gs2,B2,sl2,t2,q2,S2,fr2,cs2,A2,by rw[runNT_add,hr];exact bz,c3,hf⟩
 |step h1 h2 hn ih=>
  rename_i fr cs w;intro S gs B sl t q hs
  obtain⟨N,h8,B',a4,t',q',tp,d,f2,c2,A2,es,hr,ag,bd⟩:=one S gs B sl t q hs hn λtp d=>by
   obtain⟨fr',cs',w',es,e1,e2,_⟩:=h1 _ (hp.kY w tp d);exact⟨fr',cs',w',es,e1,e2,_,h2 _ _ _ _ _ (hp.kY w tp d) e1⟩
  obtain⟨N2,gs2,B2,sl2,t2,q2,S2,fr2,cs2,A3,bz,c3,hf⟩:=ih _ _ _ _ _ (hp.kY w tp d) ag S h8 B' a4 t' q' bd;exact⟨N+N2,gs2,B2,sl2,t2,q2,S2,fr2,cs2,A3,by rw[runNT_add,hr];exact bz,c3,hf⟩
 |ext R h1 h2 hn ih=>
  rename_i f args c cs w;intro S gs B sl t q hs;have c5:Xf.xf f:=hp.known _ _ _ _ (h1 _ (hp.kY w w.tape w.drawn));obtain⟨fr2,h0,bf⟩:=hs.st;obtain⟨pre,cf,h',bh⟩:=bf.top hn
  have ba:fr2=Frame.enter P f args .normal:=by
   rcases bh with ⟨rfl,hf⟩|⟨f',aq,ec,e1,rfl⟩
   .exact absurd (hf.calm.resolve_right λh=>b9 _ h.1).2.2 (hp.own f c5)
   .have:f=f':=congrArg Frame.fn e1;subst this;exact (LJ (hp.tmps f c5) e1).symm
  subst ba;obtain⟨N,h8,B',a4,t',q',S',A1,A',v,hr,hE,hR,b6,a6,da,cu,d5,bi,bo,hszX⟩:=oD f args c cs base w S R gs B sl t q c5 h1 hs h0
  have ay:Sit P0 P K S' base (c.finish v) cs A' h8 B' t' q':=by
   refine⟨⟨_,b6,?_⟩,a6,da,cu,d5,bi,bo,dJ hs.n0 hszX⟩
   cases pre with
   |nil=>exact .inr ⟨rfl,c,v,cf.symm,rfl⟩
   |cons p ps=>
    simp only[qm,DD] at cf;obtain⟨rfl,rfl⟩:=cf;exact .inl ⟨ps,rfl,λx hx=>h' x (eH _ hx),.inl ⟨rfl,(h' c gF).finish v⟩⟩
  obtain⟨N2,gs2,B2,sl2,t2,q2,S2,fr2,cs2,A3,bz,c3,hf⟩:=ih A1 v A' hE hR S' h8 B' a4 t' q' ay;exact⟨N+N2,gs2,B2,sl2,t2,q2,S2,fr2,cs2,A3,by rw[runNT_add,hr];exact bz,c3,hf⟩
end
end Go.Fc
namespace Go.Fc
open Go Go.Conc Go.Fi
open Go.ConcN (sumTo)
noncomputable def iT(C:Cx)(W:World):World:={ W with heap:=W.heap.mapIdx λb o=>open Classical in if okO C o then o else gH b o }
def rootOf(W:World):jz:=⟨W.heap.size,λb o=>W.heap[b]?=some o⟩
section
variable{C:Cx}{W:World}
theorem yq:(iT C W).heap.size=W.heap.size:=by simp[iT]
theorem vk{b:Nat}{o:Obj}(h:W.heap[b]?=some o)(ho:okO C o):(iT C W).heap[b]?=some o:=by
 simp[iT,h,ho]
theorem Ca{b:Nat}{o:Obj}(h:W.heap[b]?=some o)(ho:¬okO C o):(iT C W).heap[b]?=some (gH b o):=by
 simp[iT,h,ho]
theorem H9(b:Nat)(o:Obj):¬okO C (gH b o):=by cases o<;>exact id
theorem QG:Lk C ⟨λ_=>False,λ_ _=>False,λb o=>W.heap[b]?=some o⟩ (iT C W) W:=by
 refine⟨yq,λb h=>h.elim,λb _=>?_,λb h=>h.elim,rfl,rfl⟩
 rcases hx:W.heap[b]? with _|o
 .have:(iT C W).heap[b]?=none:=by
   rw[T6,yq];exact T6.1 hx
  simp_all
 .by_cases ho:okO C o
  .exact .inl ⟨by rw[vk hx ho],λo' e=>by rw[vk hx ho] at e;simp_all⟩
  .exact .inr (.inl ⟨o,rfl,ho,Ca hx ho,hx⟩)
theorem TO{S:Sh}{A B:World}(hl:Lk C S A B)(hd:∀b,S.dead b->(rootOf W).n0<=b)(ho:S.old=(rootOf W).old)(hw:∀b i,¬S.part b i)(hb:Bel W.heap.size (iT C W) A):Bel W.heap.size W B:=by
 refine⟨hl.os.symm.trans hb.os,hl.output.symm.trans hb.output,by rw[<-hl.size,<-yq (C:=C)];exact hb.size,λb a9=>?_⟩;have hA:=hb.block b a9;obtain⟨o,hx⟩:∃o,W.heap[b]?=some o:=⟨_,du a9⟩
 have e8:¬S.dead b:=λh=>by have:=hd b h;simp only[rootOf] at this;omega
 rcases hl.same b e8 with ⟨e,hk⟩|⟨o',h1,h2,h3,h4⟩|⟨cA,cB,e,f,h1,h2,h3,h4⟩
 .rw[<-e,hA];by_cases b8:okO C o
  .rw[vk hx b8,hx]
  .rw[Ca hx b8] at hA;exact absurd (hk _ hA) (H9 b o)
 .rw[ho] at h4;rw[h1];exact h4.symm
 .have hc:cA=cB:=DS (vr λi=>al);subst hc;rw[h2,<-h1,hA];by_cases b8:okO C o
  .rw[vk hx b8,hx]
  .rw[Ca hx b8] at hA;rw[h1] at hA;have:=H9 (C:=C) b o;rw[<-fL hA] at this;exact absurd trivial this
end
section
variable[Xf][bI]{P0 P:Program}{bad:Nat->Prop}
theorem QH(S:Loc->Prop)(n:Nat):Past S n #[]:=
 ⟨λsaid=>by rintro⟨i,j,_,⟨a,b,ha,_⟩,_⟩;trivial,λi a ha=>aE,λi g hg=>aE,rfl,ae⟩
theorem TP(hp:qO P0 P bad){W:World}(oD:r8 P0 P (rootOf W))(b9:∀f,¬Xf.bot f){f:FuncId}{fn:Func}{c:Code}{args:Array Value}{t:Tmp}{R:Value->World->Prop}{jg:Value->World->Prop}(hf:P.funcs[f]?=some fn)(hb:fn.body=some c)(hc:Cd P0 c)(bk:(Cc P0 P).fn f)(eg:¬bad f)(bl:fn.results=#[.tmp t])(h:c.wpT none P0 (Go.Fi.bodyPost P0 fn λe w'=>∃v,e=.returned v/\R v w') { tmps:=args++Array.replicate (fn.ntmps-args.size) undef,defers:=[] } (iT (Cc P0 P) W))(bw:∀v A B S,R v A->Lk (Cc P0 P) S A B->(∀b,S.dead b->W.heap.size<=b)->S.old=(rootOf W).old->(∀b i,¬S.part b i)->jg v B):∃N last o w' t',runNT P (N+1) (solo (G (Frame.enter P f args .normal) []) W) #[]=(.ended o w',t')/\runN P N (solo (G (Frame.enter P f args .normal) []) W)=.next last/\step P last=.ended o w'/\Go.Conc.Good P jg last o w' t':=by
 let b:Frame:={ (default:Frame) with fn:=f,kind:=.normal,roundOf:=none }
 have hh:Frame.enter P f args .normal=b.atR { tmps:=args++Array.replicate (fn.ntmps-args.size) undef,defers:=[] } [.code c]:=by
  simp[Frame.enter,Frame.atR,hf,hb,b]
 have hT:=h b [] [] rfl (by simp[b])
 have hΦ:∀f' args cs w,bad f'->¬Arr b [] [] (Go.Fi.bodyPost P0 fn λe w'=>∃v,e=.returned v/\R v w') (Frame.enter P0 f' args .normal) cs w:=by
  rintro f' aq cs w dt ⟨_,e,a,_,he⟩
  cases e with
  |normal=>
   have:f'=f:=congrArg Frame.fn he;simp_all
  |exit id=>
   trivial
  |ret=>
   obtain⟨k1,he⟩:=he;have:f'=f:=congrArg Frame.fn he;simp_all
  |_=>exact he.elim
 have dy:dh P0 P (Frame.enter P f args .normal):=by
  rw[hh];refine⟨λit df=>?_,by simp[Frame.atR,b],.inl ⟨rfl,λd hd=>aE,bk⟩,λch=>by simp[Frame.atR],bk.1.imp λfn h=>⟨fn,h.1,h.2.1,h.2.2,h.2.2⟩⟩;simp only[Frame.atR,oS] at df;subst df;exact hc
 have ay:Sit P0 P (rootOf W) ⟨λ_=>False,λ_ _=>False,λb o=>W.heap[b]?=some o⟩ [] (b.atR { tmps:=args++Array.replicate (fn.ntmps-args.size) undef,defers:=[] } [.code c]) [] (iT (Cc P0 P) W) #[G (Frame.enter P f args .normal) []] W #[] (λ_=>0):=by
  refine⟨⟨Frame.enter P f args .normal,rfl,.inl ⟨[],rfl,ae,.inl ⟨hh,by rw[<-hh];exact dy⟩⟩⟩,QG,λ_ _=>id,λ_ h=>h.elim,rfl,leavers_one P _,QH _ _,bS _⟩
 obtain⟨N,h8,B',a4,t',q',S',fr',cs',A',hr,bd,hArr⟩:=EZ hp oD b9 hΦ hT _ _ _ none _ _ ay;obtain⟨rfl,e,a,hq,he⟩:=hArr;obtain⟨⟨fr2,h0,ag⟩,bu,cg,cq,d4,hold,ax,_⟩:=bd
 obtain⟨b5,d8,hd⟩:fr'=b.atR a fr'.todo/\(∀w1,stepG P true (G fr' []) w1=.go (G { fr' with mode:=.returning } []) w1 #[])/\a.defers=[]/\∀w1,EnvD.E A' w1->∃v,(results fn a.tmps).run P0 w1=.ok v w1/\∃v',Ending.returned v=.returned v'/\R v' w1:=by
  cases e with
  |normal=>subst he;exact⟨rfl,λw1=>zv rfl,hq⟩
  |ret=>obtain⟨k1,rfl⟩:=he;exact⟨rfl,λw1=>zu rfl,hq⟩
  |_=>exact hq.elim
 obtain⟨cv,hR⟩:=hd
 have ba:fr2=fr':=by
  rcases ag with ⟨pre,cf,_,bj⟩|⟨_,c,v,dr,_⟩
  .rcases bj with ⟨e,_⟩|⟨f',aq,hx,e1,_⟩
   .exact e
   .have:f=f':=by rw[b5] at e1;exact congrArg Frame.fn e1
    exact absurd bk (hp.own f (this▸hx))
  .cases dr
 subst ba;obtain⟨v,h9,v',hv,hRv⟩:=hR _ (hp.kY A' A'.tape A'.drawn);cases hv
 have hv:v=a.tmps.getD t undef:=by
  rw[results_tmp bl _ P0 _] at h9
  grind
 have bt:P.inits.idxOf? f=none:=by rw[Lt hp.kin.kin];exact bk.2
 have cw:Goes P true AtRel (λ_ _ es=>es=#[]) (AtEnd P (nC S') B'.heap.size jg) 1 (G fr2 []) B':=by
  refine Goes.step rfl λw1 h1=>?_
  rw[d8 w1];refine⟨rfl,λw2 h2=>?_⟩;obtain⟨d,hd⟩:=atRel_trans _ _ _ h1 h2;refine⟨rfl,v,#[],?_,ae,?_⟩
  .have eb:fr2.tmps=a.tmps:=by rw[b5];rfl
   have dv:fr2.defers=[]:=by rw[b5];exact cv
   have b':fr2.fn=f:=by rw[b5];rfl
   have e7:fr2.kind=.normal:=by rw[b5];rfl
   have e':(results fn fr2.tmps).run P w2=.ok v w2:=by rw[results_tmp bl _ P w2,eb,hv]
   have ao:(results fn fr2.tmps).events P w2 #[]=#[]:=events_results_tmp bl _ _;simp only[G,stepG,unwind,dv,b',hf,Sem.runT_eq,e',ao,seen_none,doReturn,e7,bt,ik,dz,cT,GStep.after];rfl
  .subst hd;exact bw v _ _ S' hRv (bu.Cj A'.tape B'.tape A'.drawn d) cq d4 cg
 obtain⟨N2,last,o,w',t2,e1,e2,e3,e4⟩:=beside_ends (D:=λ_ _ es=>es=#[]) (λw w' es ee e he=>ak) h0 hold ax cw (sl:=a4);refine⟨N+N2,last,o,w',t2,?_,?_,e3,e4⟩
 .rw[qh,runNT_add];rw[solo_eq_crowd,hr];exact e1
 .rw[runN_add,<-runNT_fst P _ _ #[],solo_eq_crowd,hr];exact e2
end
end Go.Fc
namespace Go.Fi
open Go Go.RowKit
open Go.Conc (G)
section
variable[EnvD]
def TN(P:Program)(n m:Nat)(Φ:Frame->List Frame->World->Prop):Nat->Frame->List Frame->World->Prop
 |0,fr,cs,w=>Φ fr cs w
 |N+1,fr,cs,w=>Φ fr cs w \/
  (n<=cs.length/\∃fr' cs',(∀w1,stepG P true (G fr cs) w1=.go (G fr' cs') w1 #[])/\fY fr'/\(fr'.mode=.run\/m<cs'.length)/\TN P n m Φ N fr' cs' w) \/
  (n<=cs.length/\∀w1,EnvD.E w w1->∃fr' cs' w' es,stepG P true (G fr cs) w1=.go (G fr' cs') w' es/\fY fr'/\(fr'.mode=.run\/m<cs'.length)/\EnvD.D w1 es/\TN P n m Φ N fr' cs' w')
variable{P:Program}{n m:Nat}{Φ Ψ:Frame->List Frame->World->Prop}{fr:Frame}{cs:List Frame}{w:World}
theorem TN.now(h:Φ fr cs w):∀{N:Nat},TN P n m Φ N fr cs w
 |0=>h
 |_+1=>.inl h
theorem TN.quiet{N:Nat}(fr':Frame)(cs':List Frame)(h1:∀w1,stepG P true (G fr cs) w1=.go (G fr' cs') w1 #[])(h2:fY fr')(h3:fr'.mode=.run\/m<cs'.length)(h:TN P n m Φ N fr' cs' w)(hn:n<=cs.length:=by simp):TN P n m Φ (N+1) fr cs w:=
 .inr (.inl ⟨hn,fr',cs',h1,h2,h3,h⟩)
theorem TN.eo{N:Nat}(h:∀w1,EnvD.E w w1->∃fr' cs' w' es,stepG P true (G fr cs) w1=.go (G fr' cs') w' es/\fY fr'/\(fr'.mode=.run\/m<cs'.length)/\EnvD.D w1 es/\TN P n m Φ N fr' cs' w')(hn:n<=cs.length:=by simp):TN P n m Φ (N+1) fr cs w:=
 .inr (.inr ⟨hn,h⟩)
theorem TN.succ:∀{N:Nat}{fr:Frame}{cs:List Frame}{w:World},TN P n m Φ N fr cs w->TN P n m Φ (N+1) fr cs w
 |0,_,_,_,h=>.inl h
 |N+1,fr,cs,w,h=>by
  rcases h with h|⟨hn,fr',cs',h1,h2,h3,h⟩|⟨hn,h⟩
  .exact .inl h
  .exact .inr (.inl ⟨hn,fr',cs',h1,h2,h3,h.succ⟩)
  .exact .inr (.inr ⟨hn,λw1 e=>let ⟨a,b,c,d,e1,e2,e3,e4,e5⟩:=h w1 e;⟨a,b,c,d,e1,e2,e3,e4,e5.succ⟩⟩)
theorem TN.add{N:Nat}(h:TN P n m Φ N fr cs w):∀k,TN P n m Φ (N+k) fr cs w
 |0=>h
 |k+1=>(h.add k).succ
theorem TN.bind{M:Nat}:∀{N:Nat}{fr:Frame}{cs:List Frame}{w:World},TN P n m Φ N fr cs w->(∀fr cs w,Φ fr cs w->TN P n m Ψ M fr cs w)->TN P n m Ψ (M+N) fr cs w
 |0,_,_,_,h,hk=>hk _ _ _ h
 |N+1,fr,cs,w,h,hk=>by
  rcases h with h|⟨hn,fr',cs',h1,h2,h3,h⟩|⟨hn,h⟩
  .exact (hk _ _ _ h).add _
  .exact .inr (.inl ⟨hn,fr',cs',h1,h2,h3,h.bind hk⟩)
  .exact .inr (.inr ⟨hn,λw1 e=>let ⟨a,b,c,d,e1,e2,e3,e4,e5⟩:=h w1 e;⟨a,b,c,d,e1,e2,e3,e4,e5.bind hk⟩⟩)
theorem TN.mono{N:Nat}(h:TN P n m Φ N fr cs w)(hk:∀fr cs w,Φ fr cs w->Ψ fr cs w):TN P n m Ψ N fr cs w:=by
 have:=TN.bind (M:=0) h hk
 rwa [eI] at this
theorem TN.more{N N':Nat}(h:TN P n m Φ N fr cs w)(hn:N<=N'):TN P n m Φ N' fr cs w:=by
 have:=TN.bind (M:=N'-N) (Ψ:=Φ) h λ_ _ _ h=>.now h
 rwa [show N'-N+N=N' by omega] at this
theorem TN.low{n' m':Nat}(hn:n'<=n)(hm:m'<=m):∀{N:Nat}{fr:Frame}{cs:List Frame}{w:World},TN P n m Φ N fr cs w->TN P n' m' Φ N fr cs w
 |0,_,_,_,h=>h
 |N+1,fr,cs,w,h=>by
  rcases h with h|⟨h0,fr',cs',h1,h2,h3,h⟩|⟨h0,h⟩
  .exact .inl h
  .exact .inr (.inl ⟨ab,fr',cs',h1,h2,h3.imp id λx=>ab,h.low hn hm⟩)
  .exact .inr (.inr ⟨ab,λw1 e=>let ⟨a,b,c,d,e1,e2,e3,e4,e5⟩:=h w1 e;⟨a,b,c,d,e1,e2,e3.imp id λx=>ab,e4,e5.low hn hm⟩⟩)
theorem TN.rely(tr:∀a b c,EnvD.E a b->EnvD.E b c->EnvD.E a c)(hΦ:∀fr cs w w1,Φ fr cs w->EnvD.E w w1->Φ fr cs w1):∀{N:Nat}{fr:Frame}{cs:List Frame}{w w1:World},TN P n m Φ N fr cs w->EnvD.E w w1->TN P n m Φ N fr cs w1
 |0,_,_,_,_,h,e=>hΦ _ _ _ _ h e
 |N+1,fr,cs,w,w1,h,e=>by
  rcases h with h|⟨h0,fr',cs',h1,h2,h3,h⟩|⟨h0,h⟩
  .exact .inl (hΦ _ _ _ _ h e)
  .exact .inr (.inl ⟨h0,fr',cs',h1,h2,h3,h.rely tr hΦ e⟩)
  .exact .inr (.inr ⟨h0,λw2 e2=>h w2 (tr _ _ _ e e2)⟩)
def _root_.Go.Code.wpN(r:Option Nat)(P:Program)(c:Code)(N:Nat)(Q:Exit->Act->World->Prop)(a:Act)(w:World):Prop:=
 ∀(b:Frame)(k:List Item)(cs:List Frame),b.roundOf=r->b.kind≠.early->TN P cs.length cs.length (Arr b k cs Q) N (b.atR a (.code c::k)) cs w
def dB(r:Option Nat)(P:Program)(ops:Array Oper)(l:List Nat)(N:Nat)(Q:Exit->Act->World->Prop)(a:Act)(w:World):Prop:=
 ∀(b:Frame)(k:List Item)(cs:List Frame),b.roundOf=r->b.kind≠.early->TN P cs.length cs.length (Arr b k cs Q) N (b.atR a (.inRegion ops l::k)) cs w
def sa(P:Program)(f:FuncId)(args:Array Value)(N:Nat)(w:World)(R:Value->World->Prop):Prop:=
 ∀(c:Frame)(cs:List Frame),c.mode=.run->TN P (cs.length+1) cs.length (λfr cs' w'=>cs'=cs/\∃v,R v w'/\fr=c.finish v) N (Frame.enter P f args .normal) (c::cs) w
theorem L3{b:Frame}{a:Act}{k:List Item}:(b.atR a k).mode=.run:=rfl
section rules
variable{r:Option Nat}{Q:Exit->Act->World->Prop}{a:Act}{w:World}
theorem vV{c:Code}{N N':Nat}(h:c.wpN r P N Q a w)(hn:N<=N'):c.wpN r P N' Q a w:=λb k cs hr hk=>(h b k cs hr hk).more hn
theorem oZ{ops:Array Oper}{l:List Nat}{N N':Nat}(h:dB r P ops l N Q a w)(hn:N<=N'):dB r P ops l N' Q a w:=λb k cs hr hk=>(h b k cs hr hk).more hn
theorem E7{f:FuncId}{args:Array Value}{N:Nat}{R R':Value->World->Prop}(h:sa P f args N w R)(hr:∀v w,R v w->R' v w):sa P f args N w R':=
 λc cs hc=>(h c cs hc).mono λ_ _ _ ⟨h1,v,h2,h3⟩=>⟨h1,v,hr _ _ h2,h3⟩
theorem zI(h:Q .normal a w):Code.skip.wpN r P 1 Q a w:=λb k cs _ _=>.quiet _ _ (λ_=>zk) dA (.inl rfl) (.now ⟨rfl,.normal,a,h,rfl⟩)
theorem E8{id:Nat}(h:Q (.exit id) a w):(Code.exit id).wpN r P 0 Q a w:=λb k cs _ _=>.now ⟨rfl,.exit id,a,h,k,rfl,rfl⟩
theorem zJ(h:Q .ret a w):Code.ret.wpN r P 0 Q a w:=λb k cs _ _=>.now ⟨rfl,.ret,a,h,k,rfl⟩
theorem iK{x y:Code}{N M:Nat}(h:x.wpN r P N (Exit.then (y.wpN r P M Q) Q) a w):(Code.seq x y).wpN r P (M+N+1) Q a w:=by
 intro b k cs hr hk;refine .quiet _ _ (λ_=>zm) dA (.inl rfl) ((h b (.code y::k) cs hr hk).bind ?_)
 rintro fr cs' w' ⟨rfl,e,a',hq,he⟩
 cases e with
 |normal=>subst he;exact hq b k _ hr hk
 |exit id=>
  obtain⟨k1,h1,rfl⟩:=he;exact .now ⟨rfl,.exit id,a',hq,k1,h1.trans (exitTo_plain rfl id k),rfl⟩
 |ret=>obtain⟨k1,rfl⟩:=he;exact .now ⟨rfl,.ret,a',hq,k1,rfl⟩
 |_=>exact he.elim
theorem zK{c:Operand}{x y:Code}{t:Bool}{N:Nat}(hc:a.eval c=.bool t)(h:(if t then x else y).wpN r P N Q a w):(Code.cond c x y).wpN r P (N+1) Q a w:=
 λb k cs hr hk=>.quiet _ _ (λ_=>zn hc) dA (.inl rfl) (h b k cs hr hk)
theorem vW{id:Nat}{c:Code}{N:Nat}(h:c.wpN r P N (Exit.inBlock id Q) a w):(Code.block id c).wpN r P (N+2) Q a w:=by
 intro b k cs hr hk
 have e0:N+2=(1+N)+1:=ab
 rw[e0];refine .quiet _ _ (λ_=>zo) dA (.inl rfl) ((h b (.inBlock id::k) cs hr hk).bind ?_)
 rintro fr cs' w' ⟨rfl,e,a',hq,he⟩
 cases e with
 |normal=>subst he;exact .quiet _ _ (λ_=>zl) dA (.inl rfl) (.now (N:=0) ⟨rfl,.normal,a',hq,rfl⟩)
 |exit bn=>
  obtain⟨k1,h1,rfl⟩:=he;by_cases cy:bn=id
  .simp only[Exit.inBlock,cy,cz] at hq;subst cy
   have:exitTo bn k1=some k:=by rw[h1];simp[exitTo]
   exact .quiet _ _ (λ_=>zt this) dA (.inl rfl) (.now (N:=0) ⟨rfl,.normal,a',hq,rfl⟩)
  .simp only[Exit.inBlock,cy,cT] at hq
   have this:(id==bn)=false:=ak
   have hx:exitTo bn (.inBlock id::k)=exitTo bn k:=by simp[exitTo,this]
   exact .now ⟨rfl,.exit bn,a',hq,k1,h1.trans hx,rfl⟩
 |ret=>obtain⟨k1,rfl⟩:=he;exact .now ⟨rfl,.ret,a',hq,k1,rfl⟩
 |_=>exact he.elim
theorem E9{c:Code}(I:Nat->Act->World->Prop)(n0 r0:Nat)(h0:I n0 a w)(round:∀k a w,I k a w->c.wpN r P r0 (Exit.then (λa' w'=>∃n',n'<k/\I n' a' w') Q) a w):(Code.loop c).wpN r P (n0*(r0+1)+r0+1) Q a w:=by
 intro b k cs hr hk;refine .quiet _ _ (λ_=>zp) dA (.inl rfl) ?_
 have key:∀n a w,I n a w->TN P cs.length cs.length (Arr b k cs Q) (n*(r0+1)+r0) (b.atR a (.code c::.inLoop c::k)) cs w:=by
  intro n
  induction n using Nat.strongRecOn with
  |_ n ih=>
   intro a w hI;refine (round n a w hI b (.inLoop c::k) cs hr hk).bind (M:=n*(r0+1)) ?_
   rintro fr cs' w' ⟨rfl,e,a',hq,he⟩
   cases e with
   |normal=>
    subst he;obtain⟨n',a9,dp⟩:=hq
    have hle:n'*(r0+1)+r0+1<=n*(r0+1):=by
     have h1:(n'+1)*(r0+1)<=n*(r0+1):=tF _ a9;rw[iY] at h1;omega
    exact TN.more (.quiet _ _ (λ_=>zq) dA (.inl rfl) (ih n' a9 a' w' dp)) hle
   |exit id=>
    obtain⟨k1,h1,rfl⟩:=he;exact .now ⟨rfl,.exit id,a',hq,k1,h1.trans (exitTo_plain rfl id k),rfl⟩
   |ret=>obtain⟨k1,rfl⟩:=he;exact .now ⟨rfl,.ret,a',hq,k1,rfl⟩
   |_=>exact he.elim
 simp_all
theorem jd{id:Nat}{ops:Array Oper}{N:Nat}(h:dB r P ops (List.range ops.size) N Q a w):(Code.region id ops false).wpN r P (N+1) Q a w:=
 λb k cs hr hk=>.quiet _ _ (λ_=>zw) dA (.inl rfl) (h b k cs hr hk)
theorem L4{id:Nat}{ops:Array Oper}{N:Nat}(h:∀w1,EnvD.E w w1->∀t,dB r P ops (Region.schedule (P.follows .mixedOrders) ops t) N Q a { w1 with drawn:=w1.drawn+1 }):(Code.region id ops true).wpN r P (N+1) Q a w:=
 λb k cs hr hk=>.eo λw1 e=>⟨_,_,_,_,ER,dA,.inl rfl,EnvD.nil w1,h w1 e _ b k cs hr hk⟩
variable{ops:Array Oper}
theorem iq(h:Q .normal a w):dB r P ops [] 1 Q a w:=λb k cs _ _=>.quiet _ _ (λ_=>vO) dA (.inl rfl) (.now ⟨rfl,.normal,a,h,rfl⟩)
theorem Fa{i:Nat}{rest:List Nat}{o:Oper}{N:Nat}(ho:ops[i]?=some o)(hw:Region.wanted o (yielded ops a.tmps)=false)(h:dB r P ops rest N Q (a.put o.dst undef) w):dB r P ops (i::rest) (N+1) Q a w:=by
 intro b k cs hr hk
 have hs:∀w1,stepG P true (G (b.atR a (.inRegion ops (i::rest)::k)) cs) w1=_:=λw1=>zy (P:=P) (b:=b) (a:=a) (k:=k) (cs:=cs) (w:=w1) (ops:=ops) (i:=i) (rest:=rest) (by simp[ho,hw])
 simp only[ho,lj] at hs;exact .quiet _ _ hs dA (.inl rfl) (h b k cs hr hk)
def _root_.Go.Oper.fC(o:Oper)(a:Act)(K:Act->World->Prop):Result Next->Prop
 |.ok (.value v) w'=>K (a.put o.dst v) w'
 |.ok .skip w'=>K (a.put o.dst undef) w'
 |_=>False
theorem dD{i:Nat}{rest:List Nat}{o:Oper}{N:Nat}(ho:ops[i]?=some o)(hw:Region.wanted o (yielded ops a.tmps)=true)(hd:∀c,o.op≠.defer c)(h:∀w1,EnvD.E w w1->(∀f,EnvD.D w1 (Go.Conc.listed P f a o w1))/\o.fC a (dB r P ops rest N Q) ((execOp a.eval o).run P w1)):dB r P ops (i::rest) (N+1) Q a w:=by
 intro b k cs hr hk
 refine .eo λw1 e=>?_
 obtain⟨ao,hu⟩:=h w1 e;have hg:=vP (P:=P) (b:=b) (k:=k) (cs:=cs) (w:=w1) (rest:=rest) ho hw hd
 have b4:∀v,(b.atR a (.inRegion ops (i::rest)::k)).finish v=b.atR (a.put o.dst v) (.inRegion ops rest::k):=by
  intro v;rw[Frame.finish_atR,ho];rfl
 have c8:((b.atR a (.inRegion ops (i::rest)::k)).kind==CallKind.early)=false:=by simpa[Frame.atR] using hk
 have c9:EnvD.D w1 (seen P (b.atR a (.inRegion ops (i::rest)::k)).fn ((execOp a.eval o).events P w1 #[])++#[]):=by rw[m7];exact ao _
 generalize h9:(execOp a.eval o).run P w1=R at hu
 cases R with
 |halt x w'=>exact hu.elim
 |ok x w'=>
  cases x<;>simp only[Oper.fC] at hu
  .rename_i v;exact⟨b.atR (a.put o.dst v) (.inRegion ops rest::k),cs,w',_,by rw[hg,<-b4];simp only[stepG.apply,cz,Sem.runT_eq,h9,c8,dz,cT,GStep.after];rfl,dA,.inl rfl,c9,hu b k cs hr hk⟩
  .exact⟨b.atR (a.put o.dst undef) (.inRegion ops rest::k),cs,w',_,by rw[hg,<-b4];simp only[stepG.apply,cz,Sem.runT_eq,h9,c8,dz,cT,GStep.after];rfl,dA,.inl rfl,c9,hu b k cs hr hk⟩
theorem Fb{i:Nat}{rest:List Nat}{o:Oper}{N M:Nat}{f:FuncId}{args:Array Value}(ho:ops[i]?=some o)(hw:Region.wanted o (yielded ops a.tmps)=true)(hd:∀c,o.op≠.defer c)(h:∀w1,EnvD.E w w1->(∀f,EnvD.D w1 (Go.Conc.listed P f a o w1))/\(execOp a.eval o).run P w1=.ok (.enter f args) w1/\sa P f args N w1 λv w'=>dB r P ops rest M Q (a.put o.dst v) w'):dB r P ops (i::rest) (M+N+1) Q a w:=by
 intro b k cs hr hk
 refine .eo λw1 e=>?_
 obtain⟨ao,h9,hu⟩:=h w1 e;have hg:=vP (P:=P) (b:=b) (k:=k) (cs:=cs) (w:=w1) (rest:=rest) ho hw hd
 have b4:∀v,(b.atR a (.inRegion ops (i::rest)::k)).finish v=b.atR (a.put o.dst v) (.inRegion ops rest::k):=by
  intro v;rw[Frame.finish_atR,ho];rfl
 have c8:((b.atR a (.inRegion ops (i::rest)::k)).kind==CallKind.early)=false:=by simpa[Frame.atR] using hk
 have c9:EnvD.D w1 (seen P (b.atR a (.inRegion ops (i::rest)::k)).fn ((execOp a.eval o).events P w1 #[])++#[]):=by rw[m7];exact ao _
 refine⟨Frame.enter P f args .normal,b.atR a (.inRegion ops (i::rest)::k)::cs,w1,_,by rw[hg];simp only[stepG.apply,cz,Sem.runT_eq,h9,c8,dz,cT,GStep.after];rfl,λch=>by simp[Frame.enter],.inl rfl,c9,?_⟩
 refine ((hu _ cs L3).low (Nat.le_succ _) (bS _)).bind λfr cs' ei ⟨h1,v,h2,h3⟩=>?_
 subst h1;subst h3;rw[b4];exact h2 b k _ hr hk
theorem Fe{f:FuncId}{fn:Func}{c:Code}{args:Array Value}{R:Value->World->Prop}{t:Tmp}{N:Nat}(hf:P.funcs[f]?=some fn)(hb:fn.body=some c)(bl:fn.results=#[.tmp t])(h:c.wpN none P N (λe a w=>(e=.normal\/e=.ret)/\a.defers=[]/\∀w1,EnvD.E w w1->R (a.tmps.getD t undef) w1) { tmps:=args++Array.replicate (fn.ntmps-args.size) undef,defers:=[] } w):sa P f args (2+N) w R:=by
 intro cl cs b7
 let b:Frame:={ (default:Frame) with fn:=f,kind:=.normal,roundOf:=none }
 have hh:Frame.enter P f args .normal=b.atR { tmps:=args++Array.replicate (fn.ntmps-args.size) undef,defers:=[] } [.code c]:=by
  simp[Frame.enter,Frame.atR,hf,hb,b]
 have cp:fY cl:=λch=>by rw[b7];simp
 have bv:∀(fr:Frame)(w:World),fr.fn=f->fr.mode=.returning->fr.defers=[]->fr.kind=.normal->(∀w1,EnvD.E w w1->R (fr.tmps.getD t undef) w1) ->
  TN P (cs.length+1) cs.length (λfr cs' w'=>cs'=cs/\∃v,R v w'/\fr=cl.finish v) 1 fr (cl::cs) w:=by
  intro fr w hn hm hd hk hR
  refine .eo λw1 e=>?_
  rw[<-hn] at hf;have ao:((results fn fr.tmps).events P w1 #[])=#[]:=Go.Conc.events_results_tmp bl _ _;have h9:(results fn fr.tmps).run P w1=.ok (fr.tmps.getD t undef) w1:=results_tmp bl _ P w1;refine⟨cl.finish (fr.tmps.getD t undef),cs,w1,#[],?_,n9 cp _,.inl ?_,EnvD.nil w1,.now ⟨rfl,_,hR w1 e,rfl⟩⟩
  .simp only[G,stepG,unwind,hm,hd,hf,Sem.runT_eq,h9,ao,Go.Conc.seen_none,doReturn,hk,GStep.after];rfl
  .have:(cl.finish (fr.tmps.getD t undef)).mode=cl.mode:=by unfold Frame.finish;split<;>rfl
   rw[this,b7]
 rw[hh];refine ((h b [] (cl::cs) rfl (by simp[b])).low ae ae).bind ?_
 rintro fr cs' w' ⟨rfl,e,a',⟨dx,hd,hR⟩,he⟩
 cases e with
 |normal=>
  subst he;exact .quiet _ _ (λ_=>zv rfl) (λch=>ae) (.inr ae) (bv _ w' rfl rfl hd rfl hR)
 |ret=>
  obtain⟨k1,rfl⟩:=he;exact .quiet _ _ (λ_=>zu rfl) (λch=>ae) (.inr ae) (bv _ w' rfl rfl hd rfl hR)
 |_=>rcases dx with h|h<;>cases h
end rules
end
end Go.Fi
namespace Go.Fc
open Go Go.Conc Go.Fi
theorem NB(P:Program)(main:Bool)(fr:Frame)(cs:List Frame)(h:main=true\/cs≠[])(w:World):stepG P main (G fr cs) w=stepG P true (G fr cs) w:=by
 cases main with
 |true=>rfl
 |false=>
  cases cs with
  |nil=>simp at h
  |cons c r=>rfl
variable[Xf][EnvD]
structure lR(P1 P:Program)(bad:Nat->Prop):Prop where
 kin:iv P1 P (Cc P1 P) bad
 xf:∀f,¬Xf.xf f
 r9:∀f,bad f->∀args cs w g' w' es,stepG P1 true (G (Frame.enter P1 f args .normal) cs) w≠.go g' w' es
 kY:∀(w:World) t d,EnvD.E w { w with tape:=t,drawn:=d }
 CM:∀f,Xf.bot f->¬(Cc P1 P).fn f
structure dR(P1 P:Program)(S:Sh)(base:List Frame)(fr:Frame)(cs:List Frame)(A B:World):Prop where
 pre:∃pre,cs=pre++base/\(∀x∈pre,dh P1 P x)/\(∀p ps,pre=p::ps->(Cc P1 P).fn fr.fn/\∀i x,pre[i]?=some x->i+1<pre.length->(Cc P1 P).fn x.fn)
 ok:dh P1 P fr
 lk:Lk (Cc P1 P) S A B
section
variable{P1 P:Program}{bad:Nat->Prop}{S:Sh}{base:List Frame}{Φ:Frame->List Frame->World->Prop}
omit [EnvD] in
theorem dR.Cj{fr:Frame}{cs:List Frame}{A B:World}(h:dR P1 P S base fr cs A B)(t u:Nat->Question->Nat)(d e:Nat):dR P1 P S base fr cs { A with tape:=t,drawn:=d } { B with tape:=u,drawn:=e } :=
 ⟨h.pre,h.ok,⟨h.lk.size,h.lk.low,h.lk.same,h.lk.dead,h.lk.os,h.lk.output⟩⟩
theorem Bj(hc:lR P1 P bad){main:Bool}(hm:main=true\/base≠[])(bq:∀w es,EnvD.D w es->∀e∈es,S.fS e)(hΦ:∀f args cs w,bad f->¬Φ (Frame.enter P1 f args .normal) cs w)(hΦ2:∀fr cs w,cs.length<base.length->¬Φ fr cs w){fr:Frame}{cs:List Frame}{A B:World}{N:Nat}(h:dR P1 P S base fr cs A B)(hT:TN P1 base.length base.length Φ (N+1) fr cs A):Φ fr cs A\/∃fr' cs' A' B' es,stepG P main (G fr cs) B=.go (G fr' cs') B' es/\dR P1 P S base fr' cs' A' B'/\(∃A2,A2.heap=A'.heap/\A2.os=A'.os/\A2.output=A'.output/\TN P1 base.length base.length Φ N fr' cs' A2)/\B'.tape=B.tape/\Kept es B B'/\(∀e∈es,EvT S B' e)/\(∃A1,A1.heap=A.heap/\EnvD.D A1 es)/\A.heap.size<=A'.heap.size:=by
 have dead:∀{f:FuncId}{args:Array Value}{cs:List Frame}{w:World},bad f->∀{N},TN P1 base.length base.length Φ N (Frame.enter P1 f args .normal) cs w->False:=by
  intro f args cs w hb N h
  cases N with
  |zero=>exact hΦ _ _ _ _ hb h
  |succ N=>
   rcases h with h|⟨_,fr',cs',h1,_⟩|⟨_,h⟩
   .simp_all
   .exact hc.r9 f hb _ _ _ _ _ _ (h1 w)
   .obtain⟨_,_,_,_,e,_⟩:=h _ (hc.kY w w.tape w.drawn);exact hc.r9 f hb _ _ _ _ _ _ e
 have gone:∀{fr:Frame}{cs:List Frame}{w:World},cs.length<base.length->∀{N},TN P1 base.length base.length Φ N fr cs w->False:=by
  intro fr cs w a9 N h
  cases N with
  |zero=>exact hΦ2 _ _ _ a9 h
  |succ N=>
   rcases h with h|⟨hn,_⟩|⟨hn,_⟩
   .simp_all
   .omega
   .omega
 obtain⟨pre,h',d7,d6⟩:=h.pre
 have go:∀(A1:World),A1.heap=A.heap->A1.os=A.os->A1.output=A.output->A1.tape=B.tape->A1.drawn=B.drawn->∀(fr':Frame)(cs':List Frame)(A':World)(es:Array Event),stepG P1 true (G fr cs) A1=.go (G fr' cs') A' es->fY fr' ->
  (fr'.mode=.run\/base.length<cs'.length)->(∀e∈es,S.fS e)->(∃A2,A2.heap=A'.heap/\A2.os=A'.os/\A2.output=A'.output/\TN P1 base.length base.length Φ N fr' cs' A2)->(∃A1,A1.heap=A.heap/\EnvD.D A1 es) ->
  ∃fr' cs' A' B' es,stepG P main (G fr cs) B=.go (G fr' cs') B' es/\dR P1 P S base fr' cs' A' B'/\(∃A2,A2.heap=A'.heap/\A2.os=A'.os/\A2.output=A'.output/\TN P1 base.length base.length Φ N fr' cs' A2)/\B'.tape=B.tape/\Kept es B B'/\(∀e∈es,EvT S B' e)/\(∃A1,A1.heap=A.heap/\EnvD.D A1 es)/\A.heap.size<=A'.heap.size:=by
  intro A1 e1 e2 e3 e4 e5 fr' cs' A' es hs aw a5 bk bp hD;have bb:Lk (Cc P1 P) S A1 B:=⟨by rw[e1];exact h.lk.size,by rw[e1];exact h.lk.low,by rw[e1];exact h.lk.same,by rw[e1];exact h.lk.dead,by rw[e2];exact h.lk.os,by rw[e3];exact h.lk.output⟩
  rcases tR hc.kin h.ok (.inl rfl) bb hs with ⟨f,args,cs2,hb,x1,x2⟩|(⟨ch,co⟩|dw)|cj
  .simp only[G] at x1;simp_all
  .exact absurd co (aw ch)
  .trivial
  .obtain⟨_,_,bm,_,_,_,hgo⟩:=cj bk
   obtain⟨f2,B',cm,hB,a6,dl,_,dg,ao⟩:=hgo λj hj=>by rw[e4,e5]
   have c6:stepG P main (G fr cs) B=.go (G f2 cs') B' es:=by
    rw[NB P main fr cs (hm.imp id λhb=>by rw[h'];simp[hb]) B];exact hB
   rcases cm with ⟨b7,bj⟩|⟨x1,c,v,x2,x3,_⟩|⟨x1,x2,x4,x5,x3,_⟩
   .rcases bj with ⟨x1,b8⟩|⟨f,_,hx,_⟩
    .simp only[G] at x1 b7 b8;subst x1;refine⟨f2,cs',A',B',es,c6,⟨?_,b8,a6⟩,bp,dl,dg,ao,hD,by rw[<-e1];exact bm⟩
     rcases b7 with ⟨b7,br⟩|⟨f1,cx,br,b',b7⟩
     .grind
     .refine⟨f1::pre,by rw[b7,h'];rfl,λx hx=>(dM.1 hx).elim (λe=>e▸cx) (d7 x),λp ps e=>⟨b'.resolve_right (hc.xf _),λi x hi a9=>?_⟩⟩
      cases i with
      |zero=>
       obtain rfl:f1=x:=by grind
       cases pre with
       |nil=>simp at a9
       |cons q qs=>rw[br];simp_all
      |succ i=>
       cases pre with
       |nil=>simp at a9
       |cons q qs=>grind
    .exact absurd hx (hc.xf f)
   .simp only[G] at x1 x2 x3;subst x1;obtain⟨A2,_,_,_,hT2⟩:=id bp
    cases pre with
    |nil=>
     simp_all
    |cons p ps=>
     rw[h'] at x2;simp only[qm,DD] at x2;obtain⟨rfl,rfl⟩:=x2;refine⟨f2,_,A',B',es,c6,⟨⟨ps,rfl,λx hx=>d7 x (eH _ hx),λq qs e=>⟨?_,λi x hi a9=>(d6 p ps rfl).2 (i+1) x ak ak⟩⟩,x3▸(d7 p gF).finish v,a6⟩,bp,dl,dg,ao,hD,by rw[<-e1];exact bm⟩;rw[x3,tQ];exact (d6 p ps rfl).2 0 p rfl (by rw[e];simp)
   .simp only[G] at x1 x2 x3 x4 x5
    rcases a5 with a5|a5
    .rw[a5] at x3;cases x3
    .cases pre with
     |nil=>rw[x2,h'] at a5;simp at a5
     |cons q qs=>exact absurd (d6 q qs rfl).1 (hc.CM _ (x4▸x5))
 rcases hT with hT|⟨_,fr',cs',h1,h2,h3,hT⟩|⟨_,hT⟩
 .exact .inl hT
 .have hs:=h1 { A with tape:=B.tape,drawn:=B.drawn };exact .inr (go { A with tape:=B.tape,drawn:=B.drawn } rfl rfl rfl rfl rfl fr' cs' _ _ hs h2 h3 ae ⟨A,rfl,rfl,rfl,hT⟩ ⟨A,rfl,EnvD.nil A⟩)
 .obtain⟨fr',cs',A',es,h1,h2,h3,h4,h5⟩:=hT _ (hc.kY A B.tape B.drawn);exact .inr (go { A with tape:=B.tape,drawn:=B.drawn } rfl rfl rfl rfl rfl fr' cs' A' es h1 h2 h3 (bq _ _ h4) ⟨A',rfl,rfl,rfl,h5⟩ ⟨{ A with tape:=B.tape,drawn:=B.drawn },rfl,h4⟩)
end
end Go.Fc
