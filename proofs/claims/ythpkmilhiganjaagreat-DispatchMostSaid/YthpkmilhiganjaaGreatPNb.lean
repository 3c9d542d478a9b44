/- Lemmas. -/
import Derived.Test.YthpkmilhiganjaaGreatPNa
set_option linter.all false
set_option maxHeartbeats 32000000
set_option maxRecDepth 100000
namespace Go.Fc
open Go Go.Conc Go.Fi
open Go.ConcN (PayAt Has RW WgLive AtR0 WSit CTag WD upd upd_ne upd_same RelBy phi Vc Ssum Fsum cnt sumTo sumTo_upd ShN Vc_upd Vc_le others_uncounted isW3 pend OpenSt le_sumTo)
open Go.ConcR (KK WgAt stA smA rd wr mk Payload DC0 g_of_ofEvents Bk)
section
variable[Payload][Xf]{P P1:Program}{d:PhD}{s:Script}{t0:Trace}{B0:World}{gs:Array Goroutine}{B B':World}{sl:Option (Nat×Nat)}{j:Nat}{D:Nat->WD}{tag:CTag}{f0 d0:Nat}{a:Goroutine}{q:Nat->Nat}{own lo:Nat->Nat}{S:Nat->Sh}{A:Nat->World}{st sm:Int}{t:Trace}{bad:Nat->Prop}
omit [Payload] [Xf] in
theorem Gl{r:Rts}{p n:Nat}{m:Mark}(hl:(MemAct.mark m).low n)(ht:(MemAct.mark m).touch?=none)(hr:m≠.release (stA d.Wg)):EvS d r p n (mk m):=
 ⟨λx hx=>(by rw[show MemAct.ofEvent (mk m)=.mark m from rfl,ht] at hx;cases hx),hl,λe=>hr (by simpa[mk] using e)⟩
omit [Payload] [Xf] in
theorem xh{r:Rts}{p n:Nat}{e:Event}(h:Bk d.Wg e)(hn:d.Wg<n):EvS d r p n e:=by
 rcases h with h|h|⟨a,w,rfl,hb⟩
 .obtain⟨l,w,s⟩:=e;simp only at h;subst h;exact⟨λx hx=>aE,trivial,ae⟩
 .obtain⟨l,w,s⟩:=e;simp only at h;subst h;exact⟨λx hx=>aE,trivial,ae⟩
 .refine⟨λx hx=>.inl ?_,by rw[ofEvent_cell0];show a.block<n;omega,ae⟩;simp only[ofEvent_cell0,MemAct.touch?,db] at hx;subst hx;exact⟨⟨a,rfl,hb⟩,ae,ae⟩
theorem PI.IS(hs:gb P P1 d s)(hd:fF d)(h:PI P P1 d s t0 B0 gs B j D tag f0 d0 a q own lo S A st sm t){i:Nat}(hi:i<j){g g':Goroutine}{es:Array Event}(hg:gs[d.e0+i]?=some g)(hgo:stepG P false g B=.go g' B' es){s' m' dd':Nat}{st' b':Int}(hB:B'=B\/∃c v,c.block=d.Wg/\B'=B.setCell c v)(b5:∀S' A',Lk (Cc P1 P) S' A' B'->S'.part=(S (i+1)).part->Bel (A (i+1)).heap.size (A (i+1)) A'->(A'=A (i+1)/\S'=S (i+1)\/True)->WkS P P1 d s i (lo (i+1)) s' m' dd' g' S' A' B')(bu:∀e∈es,EvS d (rts d own lo j) (i+1) B'.heap.size e)(bm:deafBehind (D i).deaf es=dd')(bw:s'<=6->∃r,RelBy (stA d.Wg) (t++MemOp.ofEvents (d.e0+i) g.frame.fn g.frame.place es) (d.e0+i) r)(a5:WgAt d.ty d.Wg B' st' b')(a9:∀tag',(tag'=tag\/(tag=.blk/\tag'=.w3))->(mayWake P g=true->g'.status=.running->tag'≠.blk)->ConcN.Mode j (upd D i ⟨s',m',dd'⟩) tag' st' b')(ag:tag=.ret->nO d j (t++MemOp.ofEvents (d.e0+i) g.frame.fn g.frame.place es))(aw:(s'<(D i).stage/\cnt ⟨s',m',dd'⟩<=cnt (D i))\/(s'=(D i).stage/\m'+1<=(D i).fuel)):∃m₁ ops hh,runT P (crowd gs B sl) (d.e0+i)=(.next m₁,ops)/\Lt2 hh (muP d j D tag f0 q)/\dW P P1 d s t0 B0 hh m₁ (t++ops):=by
 rcases hB with rfl|⟨c,v,hc,rfl⟩
 .exact h.stepW hs hd hi hg hgo h.mem (λp _ _=>⟨Bel.refl _ _,rfl⟩) id (λ_ _ _=>ConcN.RW.refl _) (b5 _ _ (h.mem.lk _ ab) rfl (Bel.refl _ _) (.inl ⟨rfl,rfl⟩)) (bS _) (λb=>.inl rfl) bu bm bw a5 h.dead a9 ag aw
 .have k:=Kept.setCell B c v true
  have b9:(B.setCell c v).heap.size=B.heap.size:=ae
  have hM:=h.mem.lib hd h.jn (p:=0) (cG _) k b9 (λe he hw=>al);have hAs:=aside_setCell B c v;rw[hc] at hAs;exact h.stepW hs hd hi hg hgo hM (λp _ _=>⟨rV,rfl⟩) (λ_=>⟨_,_,a5⟩) (λ_ _ _=>ConcN.RW.of_wg hAs ⟨_,_,a5⟩ hd.ne) (b5 _ _ (hM.lk _ ab) rfl rV (.inr trivial)) (by rw[b9];simp) (λb=>.inl rfl) bu bm bw a5 (h.xV k) a9 ag aw
omit [Payload] [Xf] in
theorem Bn{g:Nat}{fn:FuncId}{pos:String}:MemOp.ofEvents g fn pos #[]=#[]:=by rw[ofEvents_eq];simp
theorem PI.CV(hs:gb P P1 d s)(hd:fF d)(h:PI P P1 d s t0 B0 gs B j D tag f0 d0 a q own lo S A st sm t){i:Nat}(hi:i<j){g g':Goroutine}(hg:gs[d.e0+i]?=some g)(hgo:stepG P false g B=.go g' B #[]){m':Nat}(b5:WkS P P1 d s i (lo (i+1)) (D i).stage m' (D i).deaf g' (S (i+1)) (A (i+1)) B)(aw:m'+1<=(D i).fuel):∃m₁ ops hh,runT P (crowd gs B sl) (d.e0+i)=(.next m₁,ops)/\Lt2 hh (muP d j D tag f0 q)/\dW P P1 d s t0 B0 hh m₁ (t++ops):=by
 refine h.stepW hs hd hi hg hgo h.mem (λp _ _=>⟨Bel.refl _ _,rfl⟩) id (λ_ _ _=>ConcN.RW.refl _) b5 (bS _) (λb=>.inl rfl) ae rfl ?_ h.wg h.dead (λtag' ht _=>(h.mode.same m' (D i).deaf).retag ht) ?_ (.inr ⟨rfl,aw⟩)
 .rw[Bn,m7];exact h.trc.rel i hi
 .rw[Bn,m7];exact h.acq
theorem PI.IT(h:PI P P1 d s t0 B0 gs B j D tag f0 d0 a q own lo S A st sm t){i m':Nat}(hi:i<j){g:Goroutine}(hg:gs[d.e0+i]?=some g)(hw:WkS P P1 d s i (lo (i+1)) (D i).stage m' (D i).deaf g (S (i+1)) (A (i+1)) B):PI P P1 d s t0 B0 gs B j (upd D i ⟨(D i).stage,m',(D i).deaf⟩) tag f0 d0 a q own lo S A st sm t:=by
 refine⟨h.size,h.zero,h.start,h.eld,λk hk=>?_,h.mem,⟨h.trc.pre,h.trc.tr,h.trc.ph,h.trc.norel,h.trc.low,h.trc.deaf0,λk hk=>?_,h.trc.above,λk hk hs=>?_⟩,h.wg,h.mode.same m' _,h.acq,h.jn,h.dead⟩
 .by_cases e:k=i
  .subst e;rw[upd_same];simp_all
  .rw[upd_ne D _ e];exact h.wk k hk
 .by_cases e:k=i
  .subst e;rw[upd_same];exact h.trc.deafW k hk
  .rw[upd_ne D _ e];exact h.trc.deafW k hk
 .by_cases e:k=i
  .subst e;rw[upd_same] at hs;exact h.trc.rel k hk hs
  .rw[upd_ne D _ e] at hs;exact h.trc.rel k hk hs
omit [Payload] [Xf] in
theorem Gm{i m':Nat}(hi:i<j)(hm:m'<=(D i).fuel){μ:Nat×Nat}(h:Lt2 μ (muP d j (upd D i ⟨(D i).stage,m',(D i).deaf⟩) tag f0 q)):Lt2 μ (muP d j D tag f0 q):=by
 have c1:=sumTo_upd D (⟨(D i).stage,m',(D i).deaf⟩:WD) cnt hi;have c2:=sumTo_upd D (⟨(D i).stage,m',(D i).deaf⟩:WD) WD.stage hi;have c3:=sumTo_upd D (⟨(D i).stage,m',(D i).deaf⟩:WD) WD.fuel hi
 have e1:Vc j (upd D i ⟨(D i).stage,m',(D i).deaf⟩)=Vc j D:=by simp only[Vc];simp only[cnt] at c1 ⊢;omega
 have e2:Ssum j (upd D i ⟨(D i).stage,m',(D i).deaf⟩)=Ssum j D:=by simp only[Ssum];simp only at c2;omega
 have e3:Fsum j (upd D i ⟨(D i).stage,m',(D i).deaf⟩)<=Fsum j D:=by simp only[Fsum];simp only at c3;omega
 obtain⟨x,y⟩:=μ;simp only[muP,e1,e2] at h ⊢;omega
end
end Go.Fc
namespace Go.Fc
open Go Go.Conc Go.Fi
open Go.ConcN (PayAt Has RW WgLive AtR0 WSit CTag WD upd upd_ne upd_same RelBy phi Vc Ssum Fsum cnt sumTo sumTo_upd ShN Vc_upd Vc_le others_uncounted isW3 pend OpenSt le_sumTo bk_cell)
open Go.ConcR (KK WgAt stA smA rd wr mk Payload DC0 g_of_ofEvents Bk bk_of_mute ofEvent_loc_mark)
theorem Kept.Sj{es:Array Event}{B B':World}(k:Kept es B B'){b:Nat}(hb:b<B.heap.size)(h:∀e∈es,e.write=true->∃a,e.loc=.cell a/\a.block≠b):B'.heap[b]?=B.heap[b]?:=by
 refine k.obj b hb (.inr λe he hw a ha=>?_) λe he hw ho=>?_
 .obtain⟨a',bq,b4⟩:=h e he hw;rw[ha] at bq;cases bq;exact b4
 grind
section
variable[Payload][Xf]{P P1:Program}{d:PhD}{s:Script}{t0:Trace}{B0:World}{gs:Array Goroutine}{B B':World}{sl:Option (Nat×Nat)}{j:Nat}{D:Nat->WD}{tag:CTag}{f0 d0:Nat}{a:Goroutine}{q:Nat->Nat}{own lo:Nat->Nat}{S:Nat->Sh}{A:Nat->World}{st sm:Int}{t:Trace}{bad:Nat->Prop}
theorem IU{es:Array Event}{p:Nat}(hM:Mem (Cc P1 P) d j own lo S A B B0)(hd:fF d)(hj:j<=d.n)(hp:p<=j)(a5:WgAt d.ty d.Wg B st sm)(k:Kept es B B')(bb:∀e∈es,EvT (S p) B' e)(hw:sP d own lo j p B es)(d':PayAt d.F d.n B'):WgAt d.ty d.Wg B' st sm/\∀i,i<j->i+1≠p->RW d.ty d.Wg d.F d.n 0 i B B':=by
 have hWs:B'.heap[d.Wg]?=B.heap[d.Wg]?:=by
  refine k.Sj (cY.1 a5).1 λe he bd=>?_
  rcases bb e he with ⟨a,wr,rfl,_,e8⟩|⟨r,wr,sy,rfl,_⟩|rfl
  .exact⟨a,rfl,λx=>e8 (hM.lS p hp _ (.inr x))⟩
  .obtain⟨a,ha,_⟩:=hw _ he bd;cases ha
  .cases bd
 have b6:WgAt d.ty d.Wg B' st sm:=by unfold WgAt;rw[hWs];exact a5
 refine⟨b6,λi hi b4=>⟨λb hb=>ab,λ_=>⟨_,_,b6⟩,λ_=>d',?_⟩⟩;obtain⟨cF,hF,hn⟩:=hM.pay;obtain⟨c',h1,h2,h3⟩:=k.cell _ _ _ _ hF;unfold World.cell?;rw[hF,h1]
 refine h3 i λe he bd a ha da cm=>?_
 obtain⟨a',bq,hc⟩:=hw e he bd;rw[ha] at bq;cases bq
 rcases hc with hc|⟨_,ho⟩|⟨hl,_⟩
 .exact hd.ne (da▸hc)
 .unfold slot at ho;split at ho<;>omega
 .have:=hd.f;omega
theorem PI.worker(hs:gb P P1 d s)(hd:fF d)(hc:∀l k,@lR _ (cQ l d.F k) P1 P bad){i:Nat}{g:Goroutine}:∀(D:Nat->WD),PI P P1 d s t0 B0 gs B j D tag f0 d0 a q own lo S A st sm t->i<j->gs[d.e0+i]?=some g->g.status=.running->∃m₁ ops hh,runT P (crowd gs B sl) (d.e0+i)=(.next m₁,ops)/\Lt2 hh (muP d j D tag f0 q)/\dW P P1 d s t0 B0 hh m₁ (t++ops):=by
 have cf:=hd.e0
 have cB2:∀(D:Nat->WD),PI P P1 d s t0 B0 gs B j D tag f0 d0 a q own lo S A st sm t->i<j->gs[d.e0+i]?=some g->(D i).stage=7->(D i).deaf=0->∀{v:Value},Lk (Cc P1 P) (S (i+1)) (A (i+1)) B->¬(S (i+1)).part d.F i->s.Fin i (A (i+1))->(D i).fuel<=s.K7 ->
  Goes P false (RW d.ty d.Wg d.F d.n 0 i) DC0 (AtR0 P d.ty d.Wg d.F d.n 0 (i+1) v) (D i).fuel g B->∃m₁ ops hh,runT P (crowd gs B sl) (d.e0+i)=(.next m₁,ops)/\Lt2 hh (muP d j D tag f0 q)/\dW P P1 d s t0 B0 hh m₁ (t++ops):=by
  intro D h hi hg h7 h0 v h1 h2 h3 h5 h6;generalize cg:(D i).fuel=m at h6 h5
  rcases Goes.cases h6 with h9|⟨m',rfl,h8⟩
  .obtain⟨_,dw,g',hgo,m2,hk⟩:=h9 B (ConcN.RW.refl B);refine h.IS hs hd hi hg hgo (s':=6) (m':=m2) (dd':=0) (.inl rfl) (λS' A' hl hp hA _=>.b3 hl (by rw[hp];exact h2) (hs.stF _ _ _ h3 hA) ab (.k1 (v:=v) hk))
    (λe he=>?_) (by rw[h0];rfl) (λ_=>⟨t.size,RelBy.new (by rw[h.trc.deafW i hi,h0]) _ _⟩) h.wg (λtag' ht _=>(h.mode.counted hi ab (.inl rfl) _ _).retag ht) (λe=>absurd e (h.mode.not_ret hi ab)) (.inl ⟨ab,by simp[cnt,h7]⟩)
   simp at he;subst he;exact Gl (by show d.Wg<_;have:=h.mem.size;have:=hd.wg;omega) rfl ae
  .obtain⟨g',w',es,hgo,⟨rfl,rfl⟩,a6⟩:=h8 B (ConcN.RW.refl B);exact h.CV hs hd hi hg hgo (m':=m') (by rw[h7,h0];exact .b2 h1 h2 h3 ab a6) ab
 have cB1:∀(D:Nat->WD),PI P P1 d s t0 B0 gs B j D tag f0 d0 a q own lo S A st sm t->i<j->gs[d.e0+i]?=some g->(D i).stage=7->(D i).deaf=0->∀{N:Nat}{fr:Frame}{cs:List Frame},g=G fr cs->(D i).fuel=N+s.K7+1->dR P1 P (S (i+1)) s.csW fr cs (A (i+1)) B->¬(S (i+1)).part d.F i ->
  @TN (cQ (lo (i+1)) d.F i) P1 s.csW.length s.csW.length (s.WE i) N fr cs (A (i+1))->∃m₁ ops hh,runT P (crowd gs B sl) (d.e0+i)=(.next m₁,ops)/\Lt2 hh (muP d j D tag f0 q)/\dW P P1 d s t0 B0 hh m₁ (t++ops):=by
  intro D h hi hg h7 h0 N fr cs hgG cg h2 h3 h4
  have bt:s.WE i fr cs (A (i+1))->∃m₁ ops hh,runT P (crowd gs B sl) (d.e0+i)=(.next m₁,ops)/\Lt2 hh (muP d j D tag f0 q)/\dW P P1 d s t0 B0 hh m₁ (t++ops):=by
   intro hw;obtain⟨rfl,hF,v,hv,hgo⟩:=hs.hwe i fr cs _ hw;have hB:B.cell? ⟨d.F,i,none⟩=some v:=h2.lk.IE hv h3;have hG:=hgo B ⟨⟨_,_,h.wg⟩,hB⟩;rw[<-hgG] at hG;have h':=h.IT hi hg (m':=s.K7) (by rw[h7,h0];exact .b2 h2.lk h3 hF (bS _) hG);obtain⟨m₁,ops,hh,x1,x2,x3⟩:=cB2 _ h' hi hg (by rw[upd_same];exact h7) (by rw[upd_same];exact h0) h2.lk h3 hF a7 (by rw[upd_same];exact hG);exact⟨m₁,ops,hh,x1,Gm hi ab x2,x3⟩
  cases N with
  |zero=>exact bt h4
  |succ N=>
   have bh:∀w es,@EnvD.D (cQ (lo (i+1)) d.F i) w es->∀e∈es,(S (i+1)).fS e:=by
    intro w es hD e he x hx hp;have d5:EvD (lo (i+1)) d.F i e:=hD e he;have hbF:=h.mem.nN (i+1) ab _ _ hp
    rcases d5 with ⟨a',hl,hf,_⟩|⟨m,hl⟩
    .rw[hx] at hl;cases hl;rw[hbF,hf hbF] at hp;exact h3 hp
    simp_all
   have hΦ2:∀fr cs w,cs.length<s.csW.length->¬s.WE i fr cs w:=λfr cs w aw hw=>by
    rw[(hs.hwe _ _ _ _ hw).1] at aw;omega
   rcases @Bj _ (cQ (lo (i+1)) d.F i) P1 P bad (S (i+1)) s.csW (s.WE i) (hc _ _) false (.inr hs.csN) bh (λf args cs w _ hw=>hs.IQ _ _ _ _ _ _ hw rfl) hΦ2 fr cs (A (i+1)) B N h2 h4 with hw|⟨fr',cs',A',B',es,hgo,a4,⟨A2,e1,e2,e3,bg⟩,ec,hk,bb,⟨A1,e4,hD⟩,b9⟩
   .exact bt hw
   .rw[hgG] at hg
    have cv:slot d (i+1)=i:=by simp[slot]
    have hDs:∀e∈es,EvD (lo (i+1)) d.F (slot d (i+1)) e:=λe he=>by rw[cv];exact hD e he
    have bd:=II (B':=B') h.mem hd (p:=i+1) ab (l:=lo (i+1)) (λ_=>rfl) (λx=>ab) bb hDs;have hM:=h.mem.IG hd h.jn (p:=i+1) ab hk bd a4.lk rfl rfl rfl;obtain⟨b6,hRW⟩:=IU h.mem hd h.jn (p:=i+1) ab h.wg hk bb bd hM.pay
    have bl:∀e∈es,EvT ((λq=>if q=i+1 then S (i+1) else (S q).grown B B') (i+1)) B' e:=λe he=>by simp_all
    have hT2:@TN (cQ (lo (i+1)) d.F i) P1 s.csW.length s.csW.length (s.WE i) N fr' cs' A':=
     @TN.rely (cQ _ d.F i) _ _ _ _ pd (λfr cs w w1 x e=>hs.stW i fr cs w w1 x e) _ _ _ _ _ bg ⟨e2.symm,e3.symm,by rw[e1];simp,λb _=>by rw[e1]⟩
    refine h.stepW hs hd hi hg hgo (s':=7) (m':=N+s.K7+1) (dd':=0) hM (λp hp b4=>?_) (λ_=>⟨_,_,b6⟩) (λi' d7 b4=>hRW i' d7 ab) ?_ hk.size (λb=>?_) (λe he=>IH hM hd h.jn (p:=i+1) ab (l:=lo (i+1)) (λ_=>rfl) (λx=>ab) (bl e he) (hDs e he)) ?_ (λx=>ab) b6 (h.xV hk) (λtag' ht _=>?_) (λe=>absurd e (h.mode.not_ret hi ab)) (.inr ⟨h7.symm,ab⟩)
    .try dsimp only
     rw[bP b4,bP b4];exact⟨rV,rfl⟩
    .simp only[cz];exact .b1 a4 h3 hT2
    .grind
    .rw[h0];refine ConcN.deafBehind_idle (λe he=>?_) 0
     rcases bb e he with ⟨a,wr,rfl,_⟩|⟨r,wr,sy,rfl,_⟩|rfl<;>simp
    .have:=(h.mode.same (i:=i) (N+s.K7+1) 0).retag ht
     rwa [h7] at this
 intro D h hi hg aa;obtain⟨g1,dv,hw⟩:=h.wk i hi
 obtain rfl:g=g1:=by rw[hg] at dv;simp_all
 generalize ay:(D i).stage=s0 at hw;generalize cg:(D i).fuel=m at hw;generalize bn:(D i).deaf=dd at hw
 have d6:Deaf t (d.e0+i)=dd:=by rw[h.trc.deafW i hi,bn]
 have hVj:=Vc_le j D;have bo:=h.jn;have hn:=hd.n
 have hWlt:d.Wg<B.heap.size:=by have:=h.mem.size;have:=hd.wg;omega
 cases hw with
 |b0 h1 h2 h3 h4=>
  rename_i m N fr
  rcases Goes.cases h1 with h9|⟨m',rfl,h8⟩
  .have hgG:g=G fr s.csW:=h9 B trivial;have h':=h.IT hi hg (m':=N+s.K7+1) (by rw[ay,bn,hgG];exact .b1 h2 h3 h4);obtain⟨m₁,ops,hh,x1,x2,x3⟩:=cB1 _ h' hi hg (by rw[upd_same];exact ay) (by rw[upd_same];exact bn) hgG (by rw[upd_same]) h2 h3 h4;exact⟨m₁,ops,hh,x1,Gm hi ab x2,x3⟩
  .obtain⟨g',w',es,hgo,⟨rfl,rfl⟩,a6⟩:=h8 B trivial;exact h.CV hs hd hi hg hgo (m':=m'+N+s.K7+2) (by rw[ay,bn];exact .b0 a6 h2 h3 h4) ab
 |b1 h2 h3 h4=>grind
 |b2 h1 h2 h3 h5 h6=>grind
 |b3 h1 h2 h3 h4 h5=>
  rename_i v
  have nr:s0≠1->tag≠.ret:=λx=>h.mode.not_ret hi ab
  have wk:∀{st' m' dd':Nat}{g':Goroutine}{w:World},st'<=6->WSit P d.ty d.Wg d.F d.n noL noL 0 (i+1) v st' m' dd' g' w->∀S' A',Lk (Cc P1 P) S' A' w->S'.part=(S (i+1)).part->Bel (A (i+1)).heap.size (A (i+1)) A'->(A'=A (i+1)/\S'=S (i+1)\/True)->WkS P P1 d s i (lo (i+1)) st' m' dd' g' S' A' w:=
   λhle hw S' A' hl hp hA _=>.b3 hl (by rw[hp];exact h2) (hs.stF _ _ _ h3 hA) hle hw
  have book:∀{g':Goroutine}{w':World}{es:Array Event}{s' m' dd':Nat}{st' b':Int},stepG P false g B=.go g' w' es->(w'=B\/∃c v,c.block=d.Wg/\w'=B.setCell c v)->WgAt d.ty d.Wg w' st' b'->(∀e∈es,Bk d.Wg e) ->
   (∀jx e,es[jx]?=some e->(MemAct.ofEvent e).touch?=none\/0<deafBehind dd (es.extract 0 jx))->WSit P d.ty d.Wg d.F d.n noL noL 0 (i+1) v s' m' dd' g' w'->deafBehind dd es=dd'->s'<=6 ->
   (∀tag',(tag'=tag\/(tag=.blk/\tag'=.w3))->(mayWake P g=true->g'.status=.running->tag'≠.blk)->ConcN.Mode j (upd D i ⟨s',m',dd'⟩) tag' st' b')->(tag=.ret->nO d j (t++MemOp.ofEvents (d.e0+i) g.frame.fn g.frame.place es))->((s'<s0/\cnt ⟨s',m',dd'⟩<=cnt (D i))\/(s'=s0/\m'+1=m)) ->
   ∃m₁ ops hh,runT P (crowd gs B sl) (d.e0+i)=(.next m₁,ops)/\Lt2 hh (muP d j D tag f0 q)/\dW P P1 d s t0 B0 hh m₁ (t++ops):=by
   intro g' w' es s' m' dd' st' b' hgo hB a5 bj bp hw bm hle a9 ag aw
   have b9:w'.heap.size=B.heap.size:=by rcases hB with rfl|⟨c,v,_,rfl⟩<;>simp[World.setCell]
   exact h.IS hs hd hi hg hgo hB (wk hle hw) (λe he=>xh (bj e he) (by rw[b9];exact hWlt)) (by rw[bn];exact bm) (λ_=>let ⟨r,hr⟩:=h.trc.rel i hi ab;⟨r,hr.book d6 _ _ bj bp⟩) a5 a9 ag (by rw[ay,cg];omega)
  have bookM:∀{g':Goroutine}{w':World}{es:Array Event}{s' m' dd':Nat}{st' b':Int},stepG P false g B=.go g' w' es->(w'=B\/∃c v,c.block=d.Wg/\w'=B.setCell c v)->WgAt d.ty d.Wg w' st' b'->(∀e∈es,Bk d.Wg e) ->
   (∀jx e,es[jx]?=some e->(MemAct.ofEvent e).touch?=none\/0<deafBehind dd (es.extract 0 jx))->WSit P d.ty d.Wg d.F d.n noL noL 0 (i+1) v s' m' dd' g' w'->deafBehind dd es=dd'->s'<=6 ->
   ConcN.Mode j (upd D i ⟨s',m',dd'⟩) tag st' b'->(tag=.ret->nO d j (t++MemOp.ofEvents (d.e0+i) g.frame.fn g.frame.place es))->((s'<s0/\cnt ⟨s',m',dd'⟩<=cnt (D i))\/(s'=s0/\m'+1=m)) ->
   ∃m₁ ops hh,runT P (crowd gs B sl) (d.e0+i)=(.next m₁,ops)/\Lt2 hh (muP d j D tag f0 q)/\dW P P1 d s t0 B0 hh m₁ (t++ops):=
   λhgo hB a5 bj bp hw bm hle a9 ag aw=>book hgo hB a5 bj bp hw bm hle (λ_ ht _=>a9.retag ht) ag aw
  have idle:∀{g':Goroutine}{m':Nat},stepG P false g B=.go g' B #[]->WSit P d.ty d.Wg d.F d.n noL noL 0 (i+1) v s0 m' dd g' B->m'+1=m ->
   ∃m₁ ops hh,runT P (crowd gs B sl) (d.e0+i)=(.next m₁,ops)/\Lt2 hh (muP d j D tag f0 q)/\dW P P1 d s t0 B0 hh m₁ (t++ops):=by
   intro g' m' hgo hw hm;exact h.CV hs hd hi hg hgo (m':=m') (by rw[ay,bn];exact .b3 h1 h2 h3 h4 hw) ab
  have bc:=ConcN.RW.refl (ty:=d.ty) (Wg:=d.Wg) (C:=d.F) (n:=d.n) (Low:=0) (i:=i) B
  cases h5 with
  |r0 _=>omega
  |k1 hG=>
   rcases Goes.cases hG with h9|⟨m',rfl,h8⟩
   .obtain⟨_,g',hgo,m2,hk⟩:=h9 B bc;exact bookM hgo (.inl rfl) h.wg (by intro e he;simp at he;subst he;exact .inl rfl) (by intro jx e he;exact .inl (by have:=DQ he;simp at this;subst this;rfl)) (.d1 hk) rfl ab
     (h.mode.counted hi ab (.inr rfl) _ _) (λe=>absurd e (nr ab)) (.inl ⟨ab,by simp[cnt,ay]⟩)
   .obtain⟨g',w',es,hgo,⟨rfl,rfl⟩,a6⟩:=h8 B bc;exact idle hgo (.k1 a6) rfl
  |d1 hG=>
   rcases Goes.cases hG with h9|⟨m',rfl,h8⟩
   .obtain⟨_,aq⟩:=h9 B bc
    have dk:cnt (D i)=1:=by simp[cnt,ay]
    have hV1:1<=Vc j D:=by have:=le_sumTo (f:=λx=>cnt (D x)) hi;simp only[Vc];omega
    have bk2:∀e∈#[rd (stA d.Wg),wr (stA d.Wg)],Bk d.Wg e:=by intro e he;simp at he;rcases he with rfl|rfl<;>exact bk_cell _ _ rfl
    have df2:∀jx e,(#[rd (stA d.Wg),wr (stA d.Wg)]:Array Event)[jx]?=some e->(MemAct.ofEvent e).touch?=none\/0<deafBehind 1 ((#[rd (stA d.Wg),wr (stA d.Wg)]:Array Event).extract 0 jx):=by
     intro jx e he
     match jx,he with
     |0,_=>exact .inr (by simp[deafBehind])
     |1,_=>exact .inr (by simp[deafBehind,rd])
     |jx+2,he=>simp at he
    have d9:∀x,cnt (⟨1,x,1⟩:WD)=0:=λ_=>rfl
    have opq:∀x,OpenSt j D->OpenSt j (upd D i ⟨1,x,1⟩):=λx h a ha=>by
     by_cases e:a=i
     .subst e;rw[upd_same];simp
     .rw[upd_ne D _ e];exact h a ha
    have a9:=h.mode;have a5:=h.wg;have d8:j+pend tag<=d.n:=h.start.bound
    cases a9 with
    |opn y1 y2 y3=>
     obtain⟨v',hv⟩:∃v,Vc j D+pend tag=v+1:=⟨Vc j D+pend tag-1,ab⟩;rw[hv] at a5
     have cx:WgAt d.ty d.Wg B (((v':Nat)+1)*KK+((0:Nat):Int)) 0:=ak
     obtain⟨g',hgo,_,hq⟩:=aq v' 0 ab ab cx;obtain⟨x,hq⟩:=hq ab
     have cw:Vc j (upd D i ⟨1,x,1⟩)+pend tag=v':=by have:=Vc_upd D (⟨1,x,1⟩:WD) hi;have:=d9 x;omega
     refine bookM hgo (.inr ⟨stA d.Wg,_,rfl,rfl⟩) (a5.setSt _) bk2 df2 (.quit hq) rfl ab ?_ (λe=>absurd e (nr ab)) (.inl ⟨ab,by simp[cnt]⟩)
     have e:((v':Nat):Int)*KK+((0:Nat):Int)=((Vc j (upd D i ⟨1,x,1⟩)+pend tag:Nat):Int)*KK:=by rw[cw];simp
     rw[e];exact .opn y1 (opq x y2) (λvs ev=>by have:=y3 vs ev;omega)
    |reg y1 y2 y3=>
     obtain⟨v',hv⟩:∃v,Vc j D=v+1:=⟨Vc j D-1,ab⟩;rw[hv] at a5
     have cx:WgAt d.ty d.Wg B (((v':Nat)+1)*KK+((1:Nat):Int)) 0:=aE
     obtain⟨g',hgo,hl,hq⟩:=aq v' 1 ab ab cx;by_cases ee:v'=0
     .subst ee;obtain⟨m2,hk⟩:=hl ⟨rfl,rfl⟩;refine bookM hgo (.inr ⟨stA d.Wg,_,rfl,rfl⟩) (a5.setSt _) bk2 df2 (.d2 hk) rfl ab ?_ (λe=>absurd e (nr ab)) (.inl ⟨ab,by simp[cnt]⟩)
      have b7:∀a,a<j->a≠i->(D a).stage=1:=λa ha e=>by
       have c0:=others_uncounted hi hv dk a ha e;have:=y2 a ha;simp only[cnt] at c0
       split at c0<;>omega
      have:=ConcN.Mode.last (j:=j) (D:=upd D i ⟨4,m2,1⟩) (tag:=tag) i y1 hi a7 (λa ha e=>by rw[upd_ne D _ e];exact b7 a ha e);rw[upd_same] at this;trivial
     .obtain⟨x,hq⟩:=hq ab
      have cw:Vc j (upd D i ⟨1,x,1⟩)=v':=by have:=Vc_upd D (⟨1,x,1⟩:WD) hi;have:=d9 x;omega
      refine bookM hgo (.inr ⟨stA d.Wg,_,rfl,rfl⟩) (a5.setSt _) bk2 df2 (.quit hq) rfl ab ?_ (λe=>absurd e (nr ab)) (.inl ⟨ab,by simp[cnt]⟩)
      have e:((v':Nat):Int)*KK+((1:Nat):Int)=((Vc j (upd D i ⟨1,x,1⟩):Nat):Int)*KK+1:=by rw[cw];simp
      rw[e];exact .reg y1 (opq x y2) ab
    |last L _ y2 y3 y4=>
     grind
    |sema y2=>have:=y2 i hi;omega
    |fin _ y2=>have:=y2 i hi;omega
   .obtain⟨g',w',es,hgo,⟨rfl,rfl⟩,a6⟩:=h8 B bc;exact idle hgo (.d1 a6) rfl
  |d2 hG=>
   rcases Goes.cases hG with h9|⟨m',rfl,h8⟩
   .obtain⟨_,hx⟩:=h9 B bc;obtain⟨hW3,b7,z1,z2⟩:=h.mode.isLast hi ab;have a5:=h.wg;rw[z1,z2,ay] at a5;obtain⟨g',hgo,m2,hk⟩:=hx (by simpa using a5);refine bookM hgo (.inl rfl) a5 (by intro e he;simp at he;subst he;exact bk_cell _ _ rfl) aN (.d3 hk) rfl ab ?_ (λe=>absurd e (nr ab)) (.inl ⟨ab,by simp[cnt]⟩);have:=ConcN.Mode.last (j:=j) (D:=upd D i ⟨3,m2,1⟩) (tag:=tag) i hW3 hi a7 (λa ha e=>by rw[upd_ne D _ e];exact b7 a ha e);rw[upd_same] at this;trivial
   .obtain⟨g',w',es,hgo,⟨rfl,rfl⟩,a6⟩:=h8 B bc;exact idle hgo (.d2 a6) rfl
  |d3 hG=>
   rcases Goes.cases hG with h9|⟨m',rfl,h8⟩
   .obtain⟨_,hx⟩:=h9 B bc;obtain⟨hW3,b7,z1,z2⟩:=h.mode.isLast hi ab;have a5:=h.wg;rw[z1,z2,ay] at a5;obtain⟨g',hgo,m2,hk⟩:=hx (by simpa using a5);refine bookM hgo (.inr ⟨stA d.Wg,_,rfl,rfl⟩) (a5.setSt 0) (by intro e he;simp at he;subst he;exact bk_cell _ _ rfl) aN (.d4 hk) rfl ab ?_ (λe=>absurd e (nr ab)) (.inl ⟨ab,by simp[cnt]⟩);have:=ConcN.Mode.last (j:=j) (D:=upd D i ⟨2,m2,1⟩) (tag:=tag) i hW3 hi a7 (λa ha e=>by rw[upd_ne D _ e];exact b7 a ha e);rw[upd_same] at this;trivial
   .obtain⟨g',w',es,hgo,⟨rfl,rfl⟩,a6⟩:=h8 B bc;exact idle hgo (.d3 a6) rfl
  |d4 hG=>
   rcases Goes.cases hG with h9|⟨m',rfl,h8⟩
   .obtain⟨_,e7,hx⟩:=h9 B bc;obtain⟨hW3,b7,z1,z2⟩:=h.mode.isLast hi ab;have a5:=h.wg;rw[z1,z2,ay] at a5;obtain⟨g',hgo,x,hq⟩:=hx aE
    have bz:g'.status=.running:=by
     cases x with
     |zero=>exact absurd hq.2 af
     |succ x=>exact hq.elim (λx=>absurd x.2 af) (λx=>x.1)
    refine book hgo (.inr ⟨smA d.Wg,_,rfl,rfl⟩) (a5.setSm 1) (es:=semEvents (smA d.Wg)) ?_ ?_ (.quit hq) (by rfl) ab ?_ (λe=>absurd e (nr ab)) (.inl ⟨ab,by simp[cnt]⟩)
    .intro e he;simp[semEvents] at he
     rcases he with rfl|rfl|rfl|rfl
     .exact .inl rfl
     .exact bk_cell _ _ rfl
     .exact bk_cell _ _ rfl
     .exact .inr (.inl rfl)
    .intro jx e he
     match jx,he with
     |0,he=>simp[semEvents] at he;subst he;exact .inl rfl
     |1,_=>exact .inr (by simp[deafBehind,semEvents])
     |2,_=>exact .inr (by simp[deafBehind,semEvents])
     |3,he=>simp[semEvents] at he;subst he;exact .inl rfl
     |jx+4,he=>trivial
    .intro tag' ht hw;have ei:=hw e7 bz
     have e3:tag'=.w3:=by
      rcases ht with rfl|⟨_,rfl⟩
      .cases tag'<;>first|rfl|exact hW3.elim|trivial
      .rfl
     subst e3;simp only[cz]
     exact .sema λa ha=>by
      by_cases e:a=i
      .subst e;rw[upd_same]
      .rw[upd_ne D _ e];grind
   .obtain⟨g',w',es,hgo,⟨rfl,rfl⟩,a6⟩:=h8 B bc;exact idle hgo (.d4 a6) rfl
  |quit hQ=>
   cases m with
   |zero=>rw[hQ.1] at aa;cases aa
   |succ x=>
    rcases hQ with ⟨hf,_⟩|⟨_,g',es,bi,h8,hq⟩
    .rw[hf] at aa;cases aa
    .have bj:∀e∈es,Bk d.Wg e:=λe he=>bk_of_mute (bi e he)
     have bp:∀jx e,es[jx]?=some e->(MemAct.ofEvent e).touch?=none\/0<deafBehind dd (es.extract 0 jx):=λjx e he=>.inl (touch_mute (bi e (DQ he)))
     refine bookM (h8 B) (.inl rfl) h.wg bj bp (.quit hq) rfl ab (by have:=h.mode.same (i:=i) x (deafBehind dd es);rwa [ay] at this) (λe=>(h.acq e).app λi' r d7 hr=>?_) (.inr ⟨rfl,rfl⟩);by_cases e':i'=i
     .subst e';exact hr.book d6 _ _ bj bp
     .exact hr.appOther g_of_ofEvents ab
end
end Go.Fc
namespace Go.Fc
open Go Go.Conc Go.Fi
open Go.ConcN (PayAt Has RW WgLive WSit CTag WD upd upd_ne upd_same RelBy phi Vc Ssum Fsum cnt sumTo sumTo_upd sumTo_upd_out ShN Vc_upd Vc_le isW3 isOpen isFin pend OpenSt AllQuit le_sumTo bk_cell bk_dis bk_en bk_rd bk_rw bk_sem allQuit_of lt2_trans)
open Go.ConcR (KK WgAt stA smA rd wr mk Payload DC0 g_of_ofEvents Bk ofEvent_mk)
section
variable[Payload][Xf]{P P1:Program}{d:PhD}{s:Script}{t0:Trace}{B0:World}{gs:Array Goroutine}{B B':World}{sl:Option (Nat×Nat)}{j:Nat}{D:Nat->WD}{tag tag':CTag}{f0 f' d0:Nat}{a a':Goroutine}{q:Nat->Nat}{own lo:Nat->Nat}{S:Nat->Sh}{A:Nat->World}{st sm st' b':Int}{t:Trace}{bad:Nat->Prop}{es:Array Event}
theorem PI.bookC(hs:gb P P1 d s)(hd:fF d)(h:PI P P1 d s t0 B0 gs B j D tag f0 d0 a q own lo S A st sm t)(hgo:stepG P true a B=.go a' B' es)(hB:B'=B\/∃c v,c.block=d.Wg/\B'=B.setCell c v)(b5:∀S' A',Lk (Cc P1 P) S' A' B'->S'.part=(S 0).part->Bel (A 0).heap.size (A 0) A'->StS P P1 d s lo tag' j f' (deafBehind d0 es) a' S' A' B')(bu:∀e∈es,EvS d (rts d own lo j) 0 B'.heap.size e)(a5:WgAt d.ty d.Wg B' st' b')(a9:ConcN.Mode j D tag' st' b')(ag:tag'=.ret->nO d j (t++MemOp.ofEvents 0 a.frame.fn a.frame.place es))(aw:phi d.n (Vc j D) tag'<phi d.n (Vc j D) tag\/(phi d.n (Vc j D) tag'=phi d.n (Vc j D) tag/\f'<f0)):∃m₁ ops hh,runT P (crowd gs B sl) 0=(.next m₁,ops)/\Lt2 hh (muP d j D tag f0 q)/\dW P P1 d s t0 B0 hh m₁ (t++ops):=by
 rcases hB with rfl|⟨c,v,hc,rfl⟩
 .exact h.step0 hs hd hgo h.mem (λp _ _=>⟨Bel.refl _ _,rfl⟩) (λ_ _=>ConcN.RW.refl _) (b5 _ _ (h.mem.lk 0 (cG _)) rfl (Bel.refl _ _)) (bS _) (λb=>.inl rfl) bu a5 h.dead a9 ag aw
 .have k:=Kept.setCell B c v true
  have b9:(B.setCell c v).heap.size=B.heap.size:=ae
  have hM:=h.mem.lib hd h.jn (p:=0) (cG _) k b9 (λe he hw=>al);have hAs:=aside_setCell B c v;rw[hc] at hAs;exact h.step0 hs hd hgo hM (λp _ _=>⟨rV,rfl⟩) (λ_ _=>ConcN.RW.of_wg hAs ⟨_,_,a5⟩ hd.ne) (b5 _ _ (hM.lk 0 (cG _)) rfl rV) (by rw[b9];simp) (λb=>.inl rfl) bu a5 (h.xV k) a9 ag aw
omit [Payload] [Xf] in
theorem NH{r:Rts}{n:Nat}{w w':World}(hD:DL d.Wg w w' es)(hn:d.Wg<n):∀e∈es,EvS d r 0 n e:=by
 intro e he
 rcases hD.2 e he with rfl|rfl
 .refine⟨λx hx=>.inl ?_,hn,by simp[mk]⟩;simp only[mk,MemAct.ofEvent,MemAct.touch?,db] at hx;subst hx;exact⟨⟨smA d.Wg,rfl,rfl⟩,ae,λ_=>rfl⟩
 .refine⟨λx hx=>.inl ?_,hn,by simp[mk]⟩;simp only[mk,MemAct.ofEvent,MemAct.touch?,db] at hx;subst hx;exact⟨⟨smA d.Wg,rfl,rfl⟩,ae,λ_=>rfl⟩
omit [Payload] [Xf] in
theorem NI{w w':World}(hD:DL d.Wg w w' es)(n:Nat):deafBehind n es=n:=
 ConcN.deafBehind_idle (λe he=>by rcases hD.2 e he with rfl|rfl<;>simp[mk]) n
theorem PI.idleC(hs:gb P P1 d s)(hd:fF d)(h:PI P P1 d s t0 B0 gs B j D tag f0 d0 a q own lo S A st sm t){B':World}(hgo:stepG P true a B=.go a' B' es)(hD:DL d.Wg B B' es)(b5:StS P P1 d s lo tag j f' d0 a' (S 0) (A 0) B)(hf:f'<f0):∃m₁ ops hh,runT P (crowd gs B sl) 0=(.next m₁,ops)/\Lt2 hh (muP d j D tag f0 q)/\dW P P1 d s t0 B0 hh m₁ (t++ops):=by
 have c9:=NI hD d0
 have hW:d.Wg<B.heap.size:=by have:=h.mem.size;have:=hd.wg;omega
 obtain⟨rfl,_⟩:=id hD;exact h.step0 hs hd hgo h.mem (λp _ _=>⟨Bel.refl _ _,rfl⟩) (λ_ _=>ConcN.RW.refl _) (by rw[c9];exact b5) (bS _) (λb=>.inl rfl) (NH hD hW) h.wg h.dead h.mode
  (λe=>(h.acq e).app λi r _ hr=>hr.appOther g_of_ofEvents (by have:=hd.e0;omega)) (.inr ⟨rfl,hf⟩)
theorem PI.IV(h:PI P P1 d s t0 B0 gs B j D tag f0 d0 a q own lo S A st sm t)(hw:StS P P1 d s lo tag' j f' d0 a (S 0) (A 0) B)(hm:ConcN.Mode j D tag' st sm)(b4:tag'≠.ret):PI P P1 d s t0 B0 gs B j D tag' f' d0 a q own lo S A st sm t:=
 ⟨h.size,h.zero,hw,h.eld,h.wk,h.mem,h.trc,h.wg,hm,λe=>absurd e b4,h.jn,h.dead⟩
omit [Payload] [Xf] in
theorem Gn(aw:phi d.n (Vc j D) tag'<phi d.n (Vc j D) tag\/(phi d.n (Vc j D) tag'=phi d.n (Vc j D) tag/\f'<=f0)){μ:Nat×Nat}(h:Lt2 μ (muP d j D tag' f' q)):Lt2 μ (muP d j D tag f0 q):=by
 obtain⟨x,y⟩:=μ;simp only[muP] at h ⊢;omega
theorem PI.tn0(hs:gb P P1 d s)(hd:fF d)(hc:∀l k,@lR _ (cQ l d.F k) P1 P bad)(h:PI P P1 d s t0 B0 gs B j D tag f0 0 a q own lo S A st sm t){Φ:Frame->List Frame->World->Prop}(hb:∀f args cs w,¬Φ (Frame.enter P1 f args .normal) cs w)(dl:∀fr cs w,Φ fr cs w->cs=s.base)(ay:∀fr cs w w1,Φ fr cs w->Bel w.heap.size w w1->Φ fr cs w1){N l:Nat}{fr:Frame}{cs:List Frame}(ha:a=G fr cs)(a4:dR P1 P (S 0) s.base fr cs (A 0) B)(ba:d.lo0<=l)(ao:∀x,1<=x->x<=j->lo x<=l)(hT:@TN (cQ l d.F d.n) P1 s.base.length s.base.length Φ N fr cs (A 0))(cu:tag≠.ret)(e6:∀N' fr' cs' S' A' B',N=N'+1->dR P1 P S' s.base fr' cs' A' B'->@TN (cQ l d.F d.n) P1 s.base.length s.base.length Φ N' fr' cs' A'->∃f',f'<f0/\StS P P1 d s lo tag j f' 0 (G fr' cs') S' A' B'):Φ fr cs (A 0)\/∃m₁ ops hh,runT P (crowd gs B sl) 0=(.next m₁,ops)/\Lt2 hh (muP d j D tag f0 q)/\dW P P1 d s t0 B0 hh m₁ (t++ops):=by
 cases N with
 |zero=>exact .inl hT
 |succ N=>
  have bh:∀w es,@EnvD.D (cQ l d.F d.n) w es->∀e∈es,(S 0).fS e:=by
   intro w es hD e he x hx hp;have d5:EvD l d.F d.n e:=hD e he;have hbF:=h.mem.nN 0 (cG _) _ _ hp
   rcases d5 with ⟨a',hl,hf,_⟩|⟨m,hl⟩
   .rw[hx] at hl;cases hl;rw[hbF,hf hbF] at hp;exact h.mem.sN hp
   simp_all
  rcases @Bj _ (cQ l d.F d.n) P1 P bad (S 0) s.base Φ (hc _ _) true (.inl rfl) bh (λf args cs w _ hw=>hb _ _ _ _ hw) (λfr cs w aw hw=>by rw[dl _ _ _ hw] at aw;omega) fr cs (A 0) B N a4 hT with hw|⟨fr',cs',A',B',es,hgo,ax,⟨A2,e1,e2,e3,bg⟩,ec,hk,bb,⟨A1,e4,hD⟩,b9⟩
  .exact .inl hw
  .right
   have cv:slot d 0=d.n:=by simp[slot]
   have hDs:∀e∈es,EvD l d.F (slot d 0) e:=λe he=>by rw[cv];exact hD e he
   have bd:=II (B':=B') h.mem hd (p:=0) (cG _) (l:=l) (λx=>absurd rfl x) (λ_=>⟨ba,ao⟩) bb hDs;have hM:=h.mem.IG hd h.jn (p:=0) (cG _) hk bd ax.lk rfl rfl rfl;obtain⟨b6,hRW⟩:=IU h.mem hd h.jn (p:=0) (cG _) h.wg hk bb bd hM.pay
   have bl:∀e∈es,EvT ((λq=>if q=0 then S 0 else (S q).grown B B') 0) B' e:=λe he=>by simpa using bb e he
   have hT2:@TN (cQ l d.F d.n) P1 s.base.length s.base.length Φ N fr' cs' A':=
    @TN.rely (cQ l d.F d.n) _ _ _ _ pd ay _ _ _ _ _ bg ⟨e2.symm,e3.symm,by rw[e1];exact bS _,λb _=>by rw[e1]⟩
   obtain⟨f',dt,hSt⟩:=e6 N fr' cs' (S 0) A' B' rfl ax hT2;have c9:deafBehind 0 es=0:=ConcN.deafBehind_idle (λe he=>by rcases bb e he with ⟨a,wr,rfl,_⟩|⟨r,wr,sy,rfl,_⟩|rfl<;>simp) 0;refine h.step0 hs hd (by rw[ha];exact hgo) hM (λp hp b4=>?_) (λi hi=>hRW i hi ab) ?_ hk.size (λb=>?_) (λe he=>IH hM hd h.jn (p:=0) (cG _) (l:=l) (λx=>absurd rfl x) (λ_=>ao) (bl e he) (hDs e he)) b6 (h.xV hk) h.mode (λe=>absurd e cu) (.inr ⟨rfl,dt⟩)
   .try dsimp only
    rw[bP b4,bP b4];exact⟨rV,rfl⟩
   .simp only[cz,c9];exact hSt
   grind
theorem PI.spawn(hs:gb P P1 d s)(hd:fF d){r:Nat}(hr:r<d.n){fr:Frame}(h:PI P P1 d s t0 B0 gs B (d.n-(r+1)) D (.sp r 1) f0 0 (G fr s.base) q own lo S A st sm t)(a4:dR P1 P (S 0) s.base fr s.base (A 0) B)(hI:s.I2 (d.n-(r+1)) fr (A 0)):∃m₁ ops hh,runT P (crowd gs B sl) 0=(.next m₁,ops)/\Lt2 hh (muP d (d.n-(r+1)) D (.sp r 1) f0 q)/\dW P P1 d s t0 B0 hh m₁ (t++ops):=by
 generalize hj:d.n-(r+1)=j at *
 have bo:j<d.n:=ab
 have cf:=hd.e0;have aa:=runT_crowd_spawn (P:=P) (sl:=sl) (i:=0) h.zero (by simpa using hs.go j fr _ hI B);rw[h.size] at aa
 have cp:∀b,own b<=j:=λb=>by
  by_cases e:own b=0
  .omega
  .exact (h.mem.qV b e).2.2
 have hF0:=CQ h.mem hd
 have br:∀b,d.dead b\/b=d.Wg->dK B b:=λb hb=>hb.elim (h.dead b) λe=>e▸⟨_,_,_,h.wg⟩
 have hFd:¬(d.dead d.F\/d.F=d.Wg\/(own d.F≠0/\dK B d.F)):=by
  rintro (x|x|⟨x,_⟩)
  .exact (hd.dead _ x).2.1 rfl
  .exact hd.ne x
  omega
 obtain⟨cF,hcF,hnF⟩:=h.mem.pay;have hszA:(A 0).heap.size=B.heap.size:=(h.mem.lk 0 (cG _)).size;obtain⟨Nw,hTw⟩:=hs.work j fr _ hI (mkA (Cc P1 P) (λb=>d.dead b\/b=d.Wg\/(own b≠0/\dK B b)) B) (λa v hb hc=>h.mem.toChild hb hc) (by rw[eT,hszA]) ⟨cF,qE hFd hcF,hnF⟩ (xg (a:=⟨d.F,j,none⟩) hFd (h.mem.init j (bS _) bo));rw[eT] at hTw;obtain⟨mb,c7⟩:=hs.beg j fr _ hI B;obtain⟨Nn,hTn⟩:=hs.next j fr _ hI bo B.heap.size h.mem.size (by rw[hszA];simp);have hF:=Trc.fork (sz:=B.heap.size) (m:=mb+Nw+s.K7+2) (by have:=h.trc;rw[h.size] at this;exact this) hd cp hF0 (x:={ g:=0,fn:=fr.fn,pos:=fr.place,act:=.go (d.e0+j)}) (y:={ g:=d.e0+j,fn:=(s.child j fr).frame.fn,pos:=fr.place,act:=.start }) ⟨rfl,rfl⟩ ⟨rfl,rfl⟩
 obtain⟨bf,S',A',hM,hF,hold,ck,hSp,hlkW⟩:∃(bf:Nat->Nat)(S':Nat->Sh)(A':Nat->World),Mem (Cc P1 P) d (j+1) own bf S' A' B B0 /\
  Trc d (j+1) own bf (d.e0+(j+1)) t0 (t++#[{ g:=0,fn:=fr.fn,pos:=fr.place,act:=.go (d.e0+j)},{ g:=d.e0+j,fn:=(s.child j fr).frame.fn,pos:=fr.place,act:=.start }]) B.heap.size (upd D j ⟨7,mb+Nw+s.K7+2,0⟩) 0 /\
  (∀x,x≠j+1->bf x=lo x/\S' x=S x/\A' x=A x)/\bf (j+1)=B.heap.size/\¬(S' (j+1)).part d.F j/\A' (j+1)=mkA (Cc P1 P) (λb=>d.dead b\/b=d.Wg\/(own b≠0/\dK B b)) B:=
  ⟨_,_,_,h.mem.spawn hd bo br,hF,λx hx=>by simp[hx],ae,ae,ae⟩
 rw[<-hlkW,<-ck] at hTw;have e5:=hM.lk (j+1) (bS _);clear hlkW;obtain⟨ho,ay,eb,_⟩:=h.mode.open_inv trivial
 have eV:Vc (j+1) (upd D j ⟨7,mb+Nw+s.K7+2,0⟩)=Vc j D+1:=by
  simp only[Vc,sumTo,upd_same];rw[sumTo_upd_out D _ cnt (bS _)];rfl
 have eS:Ssum (j+1) (upd D j ⟨7,mb+Nw+s.K7+2,0⟩)=Ssum j D+7:=by
  simp only[Ssum,sumTo,upd_same];rw[sumTo_upd_out D _ WD.stage (bS _)]
 have e9:OpenSt (j+1) (upd D j ⟨7,mb+Nw+s.K7+2,0⟩):=λi hi=>by
  by_cases e:i=j
  .subst e;rw[upd_same];simp
  .rw[upd_ne D _ e];exact ho i ab
 have b9:((gs.setIfInBounds 0 (G (fr.finish undef) s.base)).push (s.child j fr)).size=d.e0+(j+1):=by simp[h.size];omega
 have ops:(((MemOp.ofEvents 0 (G fr s.base).frame.fn (G fr s.base).frame.place #[]).push { g:=0,fn:=(G fr s.base).frame.fn,pos:=(G fr s.base).frame.place,act:=.go (d.e0+j)}).push { g:=d.e0+j,fn:=(s.child j fr).frame.fn,pos:=(G fr s.base).frame.place,act:=.start })=#[{ g:=0,fn:=fr.fn,pos:=fr.place,act:=.go (d.e0+j)},{ g:=d.e0+j,fn:=(s.child j fr).frame.fn,pos:=fr.place,act:=.start }]:=by
  rw[Bn];rfl
 rw[ops] at aa;obtain⟨l0,s0,a0⟩:=hold 0 ab
 have ax:dR P1 P (S' 0) s.base (fr.finish undef) s.base (A' 0) B:=by
  rw[s0,a0];exact⟨⟨[],rfl,ae,ae⟩,a4.ok.finish undef,a4.lk⟩
 rw[<-a0] at hTn
 have ao:∀x,1<=x->x<=j+1->bf x<=B.heap.size:=λx h1 h2=>(hM.oK x h1 h2).2
 have key:∀(tag':CTag)(f':Nat),isOpen tag'->pend tag'=0->(∀vs,tag'≠.w2 vs)->phi d.n (Vc (j+1) (upd D j ⟨7,mb+Nw+s.K7+2,0⟩)) tag'+Ssum (j+1) (upd D j ⟨7,mb+Nw+s.K7+2,0⟩)<phi d.n (Vc j D) (.sp r 1)+Ssum j D ->
  StS P P1 d s bf tag' (j+1) f' 0 (G (fr.finish undef) s.base) (S' 0) (A' 0) B ->
  ∃m₁ ops hh,runT P (crowd gs B sl) 0=(.next m₁,ops)/\Lt2 hh (muP d j D (.sp r 1) f0 q)/\dW P P1 d s t0 B0 hh m₁ (t++ops):=by
  intro tag' f' co ea cy cq hStS;refine⟨_,_,muP d (j+1) (upd D j ⟨7,mb+Nw+s.K7+2,0⟩) tag' f' q,aa,Prod.Lex.left _ _ cq,_,B,sl,j+1,_,tag',f',0,_,q,own,bf,S',A',st,sm,rfl,⟨b9,?_,hStS,λk dy hk=>?_,λi hi=>?_,hM,by rw[b9];exact hF,h.wg,?_,λe=>?_,bo,h.dead⟩,rfl⟩
  .rw[vq ak,<-du,TX (by rw[h.size];omega)]
  .obtain⟨x,hx,hq⟩:=h.eld k dy hk;refine⟨x,?_,?_⟩
   .rw[vq ak,<-du,tB ab];exact hx
   .rw[ConcN.Deaf_still t k _ (λop co=>ak)];exact hq
  .rcases fo i j with aw|eg
   .obtain⟨x,hx,ej⟩:=h.wk i aw;refine⟨x,?_,?_⟩
    .rw[vq ak,<-du,tB ab];exact hx
    .rw[upd_ne D _ ab]
     grind
   .obtain rfl:i=j:=by omega
    refine⟨s.child i fr,?_,?_⟩
    .rw[show d.e0+i=(gs.setIfInBounds 0 (G (fr.finish undef) s.base)).size by simp[h.size],Array.getElem?_push_size]
    .rw[upd_same];exact .b0 c7 ⟨⟨[],rfl,ae,ae⟩,hs.wok i fr _ hI,e5⟩ hSp hTw
  .rw[ay,eb,show Vc j D+pend (.sp r 1)=Vc (j+1) (upd D j ⟨7,mb+Nw+s.K7+2,0⟩)+pend tag' by rw[eV,ea];simp[pend]];exact .opn co e9 (λvs e=>absurd e (cy vs))
  .subst e;exact co.elim
 cases r with
 |zero=>
  have e1:j+1=d.n:=ab
  refine key .kd (Nn+s.NK+1) trivial rfl ae (by rw[eS];simp only[phi];omega) ?_
  have hn:¬(j+1<d.n):=ab
  simp only[bP hn] at hTn;have:=StS.pk (lo:=bf) ax h.mem.size (λx h1 h2=>ao x h1 ab) hTn;rw[<-e1] at this;exact this
 |succ r=>
  have e1:d.n-(r+1)=j+1:=ab
  refine key (.sp r 6) Nn trivial rfl ae (by rw[eS];simp only[phi];omega) ?_
  have hn:(j+1<d.n):=ab
  simp only[b8 hn] at hTn;have:=StS.p6 (r:=r) (lo:=bf) (s:=s) (d:=d) ab ax h.mem.size (λx h1 h2=>ao x h1 ab) (by rw[e1];exact hTn);rw[e1] at this;exact this
end
end Go.Fc
namespace Go.Fc
open Go Go.Conc Go.Fi
open Go.ConcN (PayAt Has RW WgLive WSit CTag WD upd upd_ne upd_same RelBy phi Vc Ssum Fsum cnt sumTo ShN Vc_le isW3 isOpen isFin pend OpenSt AllQuit bk_cell bk_dis bk_en bk_rd bk_rw bk_sem allQuit_of lt2_trans exists_counted)
open Go.ConcR (KK WgAt stA smA rd wr mk Payload DC0 g_of_ofEvents Bk ofEvent_mk)
section
variable[Payload][Xf]{P P1:Program}{d:PhD}{s:Script}{t0:Trace}{B0:World}{gs:Array Goroutine}{B:World}{sl:Option (Nat×Nat)}{q:Nat->Nat}{own lo:Nat->Nat}{S:Nat->Sh}{A:Nat->World}{st sm:Int}{t:Trace}{bad:Nat->Prop}
def CX(P P1:Program)(d:PhD)(s:Script)(t0:Trace)(B0:World)(m:Machine)(t:Trace):Prop:=
 ∃gs B sl D f0 fr q own lo S A st sm,m=crowd gs B sl/\PI P P1 d s t0 B0 gs B d.n D .ret f0 0 (gI s fr) q own lo S A st sm t/\s.I3 fr (A 0)/\dh P1 P fr
theorem PI.starter(hs:gb P P1 d s)(hd:fF d)(hc:∀l k,@lR _ (cQ l d.F k) P1 P bad){j:Nat}{D:Nat->WD}{tag:CTag}{f0 d0:Nat}{a:Goroutine}(h:PI P P1 d s t0 B0 gs B j D tag f0 d0 a q own lo S A st sm t)(aa:a.status=.running):CX P P1 d s t0 B0 (crowd gs B sl) t\/∃m₁ ops hh,runT P (crowd gs B sl) 0=(.next m₁,ops)/\Lt2 hh (muP d j D tag f0 q)/\dW P P1 d s t0 B0 hh m₁ (t++ops):=by
 have hVj:=Vc_le j D;have hn:=hd.n
 have hWlt:d.Wg<B.heap.size:=by have:=h.mem.size;have:=hd.wg;omega
 have bo:=h.jn;have cf:=hd.e0
 have df:∀j f args cs w,¬(cs=s.base/\s.I1 j (Frame.enter P1 f args .normal) w):=λj f args cs w x=>hs.IM _ _ _ _ _ x.2 rfl
 have dg:∀j f args cs w,¬(cs=s.base/\s.I2 j (Frame.enter P1 f args .normal) w):=λj f args cs w x=>hs.IN _ _ _ _ _ x.2 rfl
 have di:∀f args cs w,¬(cs=s.base/\s.I3 (Frame.enter P1 f args .normal) w):=λf args cs w x=>hs.IP _ _ _ _ x.2 rfl
 have bk:∀{es:Array Event}{n:Nat},d.Wg<n->(∀e∈es,Bk d.Wg e)->∀e∈es,EvS d (rts d own lo j) 0 n e:=λhn hb e he=>xh (hb e he) hn
 have hszC:∀(c:Addr)(v:Value),(B.setCell c v).heap.size=B.heap.size:=λc v=>by simp
 have cP1:∀{r N l f1:Nat}{fr:Frame}{cs:List Frame},r<d.n->PI P P1 d s t0 B0 gs B (d.n-(r+1)) D (.sp r 1) f1 0 (G fr cs) q own lo S A st sm t->N=f1->dR P1 P (S 0) s.base fr cs (A 0) B->d.lo0<=l->(∀x,1<=x->x<=d.n-(r+1)->lo x<=l) ->
  @TN (cQ l d.F d.n) P1 s.base.length s.base.length (λfr' cs' A'=>cs'=s.base/\s.I2 (d.n-(r+1)) fr' A') N fr cs (A 0)->∃m₁ ops hh,runT P (crowd gs B sl) 0=(.next m₁,ops)/\Lt2 hh (muP d (d.n-(r+1)) D (.sp r 1) f1 q)/\dW P P1 d s t0 B0 hh m₁ (t++ops):=by
  intro r N l f1 fr cs hr h hN a4 ba ao hT
  rcases h.tn0 hs hd hc (sl:=sl) (dg _) (λ_ _ _ x=>x.1) (λ_ _ _ _ x e=>⟨x.1,hs.st2 _ _ _ _ x.2 e⟩) rfl a4 ba ao hT ae (λN' fr' cs' S' A' B' e b5 bg=>⟨N',ab,.p1 hr b5 ba ao bg⟩) with ⟨rfl,hI⟩|x
  .exact h.spawn hs hd hr a4 hI
  .exact x
 have cW1:∀{f1:Nat}{fr:Frame}{g:Goroutine},PI P P1 d s t0 B0 gs B d.n D .w1 f1 1 g q own lo S A st sm t->dR P1 P (S 0) s.base fr s.base (A 0) B->s.I3 fr (A 0)->GL P d.ty d.Wg (Wt1 P d.ty d.Wg (gI s fr) (s.jj fr)) f1 g B ->
  ∃m₁ ops hh,runT P (crowd gs B sl) 0=(.next m₁,ops)/\Lt2 hh (muP d d.n D .w1 f1 q)/\dW P P1 d s t0 B0 hh m₁ (t++ops):=by
  intro f1 fr g h a4 hI hG;have hVn:=Vc_le d.n D
  rcases Goes.cases hG with h9|⟨m',rfl,h8⟩
  .obtain⟨_,aq⟩:=h9 B (RL.refl B);obtain⟨ho,e1,e2,_⟩:=h.mode.open_inv trivial;have a5:=h.wg;rw[e1,e2] at a5;obtain⟨a',hgo,h0,b4⟩:=aq (Vc d.n D) ab aE;by_cases hv:Vc d.n D=0
   .obtain⟨m2,hk⟩:=h0 hv;refine h.bookC hs hd hgo (.inl rfl) (tag':=.ke) (f':=m2) (λS' A' hl _ hA=>.ke (a4.eu hl) (hs.st3 _ _ _ hI hA) hk) (λe he=>xh (bk_rd e he) hWlt) a5 ?_ ae (.inl aC)
    have e:((Vc d.n D+pend .w1:Nat):Int)*KK=0:=by rw[hv];simp[pend]
    rw[e];exact .fin trivial (allQuit_of ho hv)
   .obtain⟨m2,hk⟩:=b4 hv;exact h.bookC hs hd hgo (.inl rfl) (tag':=.w2 (Vc d.n D)) (f':=m2) (λS' A' hl _ hA=>.w2 (a4.eu hl) (hs.st3 _ _ _ hI hA) hk) (λe he=>xh (bk_rd e he) hWlt) h.wg (h.mode.reopen trivial trivial rfl (λvs e=>ak)) ae (.inl aC)
  .obtain⟨g',w',es,hgo,hD,a6⟩:=h8 B (RL.refl B);exact h.idleC hs hd hgo hD (f':=m') (.w1 a4 hI (hD.1▸a6)) ab
 have ay:=h.start
 cases ay with
 |p6 h1 a4 ba ao hT=>
  rename_i r l fr cs;right
  rcases h.tn0 hs hd hc (sl:=sl) (df _) (λ_ _ _ x=>x.1) (λ_ _ _ _ x e=>⟨x.1,hs.st1 _ _ _ _ x.2 e⟩) rfl a4 ba ao hT ae (λN' fr' cs' S' A' B' e b5 bg=>⟨N',ab,.p6 h1 b5 ba ao bg⟩) with ⟨rfl,hI⟩|x
  .obtain⟨m2,hk⟩:=hs.add _ _ _ hI B ⟨_,_,h.wg⟩;exact h.bookC hs hd (hs.IK _ _ _ hI B) (.inl rfl) (tag':=.sp r 5) (f':=m2) (λS' A' hl _ hA=>.l5 h1 (a4.eu hl) (hs.st1 _ _ _ _ hI hA) hk) ae h.wg (h.mode.reopen trivial trivial rfl ae) ae (.inl aC)
  .exact x
 |l5 h1 a4 hI hG=>
  rename_i r fr;right
  rcases Goes.cases hG with h9|⟨m',rfl,h8⟩
  .obtain⟨_,a',hgo,m2,hk⟩:=h9 B (RL.refl B);exact h.bookC hs hd hgo (.inl rfl) (tag':=.sp r 4) (f':=m2) (λS' A' hl _ hA=>.l4 h1 (a4.eu hl) (hs.st1 _ _ _ _ hI hA) hk) (bk hWlt bk_dis) h.wg (h.mode.reopen trivial trivial rfl ae) ae (.inl aC)
  .obtain⟨g',w',es,hgo,hD,a6⟩:=h8 B (RL.refl B);exact h.idleC hs hd hgo hD (f':=m') (.l5 h1 a4 hI (hD.1▸a6)) ab
 |l4 h1 a4 hI hG=>
  rename_i r fr;right
  rcases Goes.cases hG with h9|⟨m',rfl,h8⟩
  .obtain⟨_,aq⟩:=h9 B (RL.refl B);obtain⟨ho,e1,e2,_⟩:=h.mode.open_inv trivial;have a5:=h.wg;rw[e1,e2] at a5;obtain⟨a',hgo,m2,hk⟩:=aq (Vc (d.n-(r+1)) D) ab aE;refine h.bookC hs hd hgo (.inr ⟨stA d.Wg,_,rfl,rfl⟩) (tag':=.sp r 3) (f':=m2) (λS' A' hl _ hA=>.l3 h1 (a4.eu hl) (hs.st1 _ _ _ _ hI hA) hk) (bk (by rw[hszC];exact hWlt) bk_rw) (a5.setSt _) ?_ ae (.inl aC)
   have e:(((Vc (d.n-(r+1)) D:Nat):Int)+1)*KK=((Vc (d.n-(r+1)) D+pend (.sp r 3):Nat):Int)*KK:=by simp[pend]
   rw[e];exact .opn trivial ho ae
  .obtain⟨g',w',es,hgo,hD,a6⟩:=h8 B (RL.refl B);exact h.idleC hs hd hgo hD (f':=m') (.l4 h1 a4 hI (hD.1▸a6)) ab
 |l3 h1 a4 hI hG=>
  rename_i r fr;right
  rcases Goes.cases hG with h9|⟨m',rfl,h8⟩
  .obtain⟨_,a',hgo,m2,hk⟩:=h9 B (RL.refl B);exact h.bookC hs hd hgo (.inl rfl) (tag':=.sp r 2) (f':=m2) (λS' A' hl _ hA=>.l2 h1 (a4.eu hl) (hs.st1 _ _ _ _ hI hA) hk) (bk hWlt bk_en) h.wg (h.mode.reopen trivial trivial rfl ae) ae (.inl aC)
  .obtain⟨g',w',es,hgo,hD,a6⟩:=h8 B (RL.refl B);exact h.idleC hs hd hgo hD (f':=m') (.l3 h1 a4 hI (hD.1▸a6)) ab
 |l2 h1 a4 hI hG=>
  rename_i r fr;right
  rcases Goes.cases hG with h9|⟨m',rfl,h8⟩
  .have ha:a=gI s fr:=h9 B (RL.refl B);subst ha
   have dx:d.n-(r+1)<d.n:=ab
   obtain⟨N,hT⟩:=hs.mid _ _ _ hI dx B.heap.size;have ax:dR P1 P (S 0) s.base (fr.finish (.tuple #[])) s.base (A 0) B:=⟨⟨[],rfl,ae,ae⟩,a4.ok.finish _,a4.lk⟩
   have ao:∀x,1<=x->x<=d.n-(r+1)->lo x<=B.heap.size:=λx y1 y2=>(h.mem.oK x y1 y2).2
   have h':=h.IV (tag':=.sp r 1) (.p1 h1 ax h.mem.size ao hT) (h.mode.reopen trivial trivial rfl ae) ae;obtain⟨m₁,ops,hh,x1,x2,x3⟩:=cP1 h1 h' rfl ax h.mem.size ao hT;exact⟨m₁,ops,hh,x1,Gn (.inl aC) x2,x3⟩
  .obtain⟨g',w',es,hgo,hD,a6⟩:=h8 B (RL.refl B);exact h.idleC hs hd hgo hD (f':=m') (.l2 h1 a4 hI (hD.1▸a6)) ab
 |p1 h1 a4 ba ao hT=>grind
 |pk a4 ba ao hT=>
  rename_i N l fr cs;right
  rcases h.tn0 hs hd hc (sl:=sl) di (λ_ _ _ x=>x.1) (λ_ _ _ _ x e=>⟨x.1,hs.st3 _ _ _ x.2 e⟩) rfl a4 ba ao hT ae (λN' fr' cs' S' A' B' e b5 bg=>⟨N'+s.NK+1,ab,.pk b5 ba ao bg⟩) with ⟨rfl,hI⟩|x
  .have hk:=hs.sQ _ _ hI B ⟨_,_,h.wg⟩;exact h.bookC hs hd (hs.call3 _ _ hI B) (.inl rfl) (tag':=.kd) (f':=s.NK) (λS' A' hl _ hA=>.kd (a4.eu hl) (hs.st3 _ _ _ hI hA) (bS _) hk) ae h.wg (h.mode.reopen trivial trivial rfl ae) ae (.inr ⟨rfl,ab⟩)
  .exact x
 |kd a4 hI hm hG=>
  rename_i fr;right
  rcases Goes.cases hG with h9|⟨m',rfl,h8⟩
  .obtain⟨_,a',hgo,m2,hk⟩:=h9 B (RL.refl B);exact h.bookC hs hd hgo (.inl rfl) (tag':=.anch) (f':=m2) (λS' A' hl _ hA=>.anch (a4.eu hl) (hs.st3 _ _ _ hI hA) hk) (bk hWlt bk_dis) h.wg (h.mode.reopen trivial trivial rfl ae) ae (.inl aC)
  .obtain⟨g',w',es,hgo,hD,a6⟩:=h8 B (RL.refl B);exact h.idleC hs hd hgo hD (f':=m') (.kd a4 hI ab (hD.1▸a6)) ab
 |anch a4 hI hG=>
  rename_i fr;right
  rcases Goes.cases hG with h9|⟨m',rfl,h8⟩
  .obtain⟨m2,hk⟩:=hs.anch _ _ _ _ hI (h9 B (RL.refl B));have h':=h.IV (tag':=.w1) (.w1 a4 hI hk) (h.mode.reopen trivial trivial rfl ae) ae;obtain⟨m₁,ops,hh,x1,x2,x3⟩:=cW1 h' a4 hI hk;exact⟨m₁,ops,hh,x1,Gn (.inl aC) x2,x3⟩
  .obtain⟨g',w',es,hgo,hD,a6⟩:=h8 B (RL.refl B);exact h.idleC hs hd hgo hD (f':=m') (.anch a4 hI (hD.1▸a6)) ab
 |w1 a4 hI hG=>grind
 |w2 a4 hI hG=>
  rename_i vs fr;right
  rcases Goes.cases hG with h9|⟨m',rfl,h8⟩
  .obtain⟨_,aq⟩:=h9 B (RL.refl B);obtain⟨ho,e1,e2,cy⟩:=h.mode.open_inv trivial;have a5:=h.wg;rw[e1,e2] at a5;obtain⟨hle,h1⟩:=cy vs rfl;obtain⟨cj,bv⟩:=aq (Vc d.n D) ab aE;by_cases e:Vc d.n D=vs
   .obtain⟨a',hgo,m2,hk⟩:=cj e;exact h.bookC hs hd hgo (.inr ⟨stA d.Wg,_,rfl,rfl⟩) (tag':=.w3) (f':=m2+1) (λS' A' hl _ hA=>.w3 (a4.eu hl) (hs.st3 _ _ _ hI hA) hk) (bk (by rw[hszC];exact hWlt) bk_rw) (a5.setSt _) (.reg trivial ho ab) ae (.inl aC)
   .obtain⟨a',hgo,m2,hk⟩:=bv e;exact h.bookC hs hd hgo (.inl rfl) (tag':=.anch) (f':=m2) (λS' A' hl _ hA=>.anch (a4.eu hl) (hs.st3 _ _ _ hI hA) hk) (bk hWlt bk_rd) h.wg (h.mode.reopen trivial trivial rfl ae) ae (.inl aC)
  .obtain⟨g',w',es,hgo,hD,a6⟩:=h8 B (RL.refl B);exact h.idleC hs hd hgo hD (f':=m') (.w2 a4 hI (hD.1▸a6)) ab
 |w3 a4 hI hG=>
  rename_i m fr;right
  rcases Goes.cases hG with h9|⟨m',rfl,h8⟩
  .obtain⟨_,cm,c8,c5⟩:=h9 B (RL.refl B);have a5:=h.wg;have a9:=h.mode;have hB:∀w,RL d.ty d.Wg B w->Wt3 P d.ty d.Wg (gI s fr) a w:=h9
   have goB:∀{st1:Int},WgAt d.ty d.Wg B st1 0->ConcN.Mode d.n D .blk st1 0->st1=st->(0:Int)=sm->∃m₁ ops hh,runT P (crowd gs B sl) 0=(.next m₁,ops)/\Lt2 hh (muP d d.n D .w3 (m+1) q)/\dW P P1 d s t0 B0 hh m₁ (t++ops):=by
    intro st1 hw hm e1 e2;subst e1;subst e2;exact h.bookC hs hd (c8 ⟨_,hw⟩) (.inl rfl) (tag':=.blk) (f':=0) (λS' A' hl _ hA=>.blk (a4.eu hl) (hs.st3 _ _ _ hI hA) hB) ae hw hm ae (.inr ⟨rfl,ab⟩)
   cases a9 with
   |opn h1 _ _=>exact h1.elim
   |reg h1 h2 h3=>exact goB a5 (.reg trivial h2 h3) rfl rfl
   |last L h1 h2 h3 h4=>exact goB a5 (.last L trivial h2 h3 h4) rfl rfl
   |sema h2=>
    obtain⟨a',hgo,m2,hk⟩:=c5 a5;exact h.bookC hs hd hgo (.inr ⟨smA d.Wg,_,rfl,rfl⟩) (tag':=.w4) (f':=m2) (λS' A' hl _ hA=>.w4 (a4.eu hl) (hs.st3 _ _ _ hI hA) hk) (bk (by rw[hszC];exact hWlt) bk_sem) (a5.setSm 0) (.fin trivial h2) ae (.inl aC)
   |fin h1 _=>exact h1.elim
  .obtain⟨g',w',es,hgo,hD,a6⟩:=h8 B (RL.refl B);exact h.idleC hs hd hgo hD (f':=m'+1) (.w3 a4 hI (hD.1▸a6)) ab
 |blk=>simp at aa
 |w4 a4 hI hG=>
  rename_i fr;right
  rcases Goes.cases hG with h9|⟨m',rfl,h8⟩
  .obtain⟨_,hx⟩:=h9 B (RL.refl B);obtain⟨hq,e1,e2⟩:=h.mode.fin_inv trivial;have a5:=h.wg;rw[e1,e2] at a5;obtain⟨a',hgo,m2,hk⟩:=hx a5;exact h.bookC hs hd hgo (.inl rfl) (tag':=.ke) (f':=m2) (λS' A' hl _ hA=>.ke (a4.eu hl) (hs.st3 _ _ _ hI hA) hk) (bk hWlt bk_rd) a5 (.fin trivial hq) ae (.inl aC)
  .obtain⟨g',w',es,hgo,hD,a6⟩:=h8 B (RL.refl B);exact h.idleC hs hd hgo hD (f':=m') (.w4 a4 hI (hD.1▸a6)) ab
 |ke a4 hI hG=>
  rename_i fr;right
  rcases Goes.cases hG with h9|⟨m',rfl,h8⟩
  .obtain⟨_,a',hgo,m2,hk⟩:=h9 B (RL.refl B);obtain⟨hq,e1,e2⟩:=h.mode.fin_inv trivial;have a5:=h.wg;rw[e1,e2] at a5;exact h.bookC hs hd hgo (.inl rfl) (tag':=.acq) (f':=m2) (λS' A' hl _ hA=>.acq (a4.eu hl) (hs.st3 _ _ _ hI hA) hk) (bk hWlt bk_en) a5 (.fin trivial hq) ae (.inl aC)
  .obtain⟨g',w',es,hgo,hD,a6⟩:=h8 B (RL.refl B);exact h.idleC hs hd hgo hD (f':=m') (.ke a4 hI (hD.1▸a6)) ab
 |acq a4 hI hG=>
  rename_i fr;right
  rcases Goes.cases hG with h9|⟨m',rfl,h8⟩
  .obtain⟨_,a',hgo,m2,hk⟩:=h9 B (RL.refl B);obtain⟨hq,e1,e2⟩:=h.mode.fin_inv trivial;have a5:=h.wg;rw[e1,e2] at a5;refine h.bookC hs hd hgo (.inl rfl) (tag':=.ret) (f':=m2) (λS' A' hl _ hA=>.ret (a4.eu hl) (hs.st3 _ _ _ hI hA) hk) (λe he=>?_) a5 (.fin trivial hq) (λ_=>?_) (.inl aC)
   .simp at he;subst he;exact Gl (m:=.acquire (stA d.Wg)) hWlt rfl ae
   .have e1:MemOp.ofEvents 0 a.frame.fn a.frame.place #[Go.ConcR.mk (.acquire (stA d.Wg))]=#[{ g:=0,fn:=a.frame.fn,pos:=a.frame.place,act:=.mark (.acquire (stA d.Wg))}]:=by rw[ofEvents_eq];simp[ofEvent_mk]
    have hy:(t++#[({ g:=0,fn:=a.frame.fn,pos:=a.frame.place,act:=.mark (.acquire (stA d.Wg))}:MemOp)])[t.size]?=some { g:=0,fn:=a.frame.fn,pos:=a.frame.place,act:=.mark (.acquire (stA d.Wg))}:=ae
    refine⟨t.size,by rw[e1,act?_of hy],by rw[e1];simp[Trace.g?],by rw[e1];exact⟨0,by simp[Trace.g?],by rw[deaf_old (bS _)];exact h.trc.deaf0⟩,λi hi=>?_⟩;obtain⟨r,hr⟩:=h.trc.rel i hi (by rw[hq i hi];omega);exact⟨r,hr.appOther g_of_ofEvents ab,lt_of_act? hr.act⟩
  .obtain⟨g',w',es,hgo,hD,a6⟩:=h8 B (RL.refl B);exact h.idleC hs hd hgo hD (f':=m') (.acq a4 hI (hD.1▸a6)) ab
 |ret a4 hI hG=>
  rename_i fr
  rcases Goes.cases hG with h9|⟨m',rfl,h8⟩
  .have ha:a=gI s fr:=h9 B (RL.refl B);subst ha;exact .inl ⟨gs,B,sl,D,f0,fr,q,own,lo,S,A,st,sm,rfl,h,hI,a4.ok⟩
  .right;obtain⟨g',w',es,hgo,hD,a6⟩:=h8 B (RL.refl B);exact h.idleC hs hd hgo hD (f':=m') (.ret a4 hI (hD.1▸a6)) ab
theorem NJ(hs:gb P P1 d s)(hd:fF d)(hc:∀l k,@lR _ (cQ l d.F k) P1 P bad){μ:Nat×Nat}{m:Machine}(h:dW P P1 d s t0 B0 μ m t):CX P P1 d s t0 B0 m t\/∃m' ops hh,stepT P m=(.next m',ops)/\Lt2 hh μ/\dW P P1 d s t0 B0 hh m' (t++ops):=by
 obtain⟨gs,B,sl,j,D,tag,f0,d0,a,q,own,lo,S,A,st,sm,rfl,h,rfl⟩:=h;have cf:=hd.e0
 have which:∀(i:Nat)(g:Goroutine),gs[i]?=some g->i=0\/(0<i/\i<d.e0)\/∃k,k<j/\i=d.e0+k:=λi g hg=>by
  have:=(cY.1 hg).1;rw[h.size] at this;by_cases h0:i=0
  .exact .inl h0
  .by_cases h1:i<d.e0
   .omega
   .exact .inr (.inr ⟨i-d.e0,ab,ab⟩)
 have dc:∀g∈gs,awake g:=by
  intro g hg tm;obtain⟨i,hi⟩:=Array.mem_iff_getElem?.1 hg
  rcases which i g hi with rfl|⟨h1,h2⟩|⟨k,hk,rfl⟩
  .rw[h.zero] at hi;cases hi
   rcases h.start.status hs with ⟨x,_⟩|⟨x,_⟩<;>rw[x]<;>simp
  .obtain⟨g',a6,hq⟩:=h.eld i h1 h2;rw[hi] at a6;cases a6
   rcases hq.status with x|x<;>rw[x]<;>simp
  .obtain⟨g',a6,hw⟩:=h.wk k hk;rw[hi] at a6;cases a6
   rcases hw.status with x|⟨x,_⟩<;>rw[x]<;>simp
 have c4:∃(i:Nat)(g:Goroutine),gs[i]?=some g/\g.status=.running:=by
  rcases h.start.status hs with ⟨x,_⟩|⟨_,rfl⟩
  .exact⟨0,a,h.zero,x⟩
  .have hm:=h.mode
   have wrun:∀k,k<j->(D k).stage≠1->∃(i:Nat)(g:Goroutine),gs[i]?=some g/\g.status=.running:=λk hk b4=>by
    obtain⟨g,hg,hw⟩:=h.wk k hk;exact⟨_,g,hg,hw.status.resolve_right λx=>b4 x.2⟩
   cases hm with
   |opn h1 _ _=>exact h1.elim
   |reg h1 _ h3=>
    obtain⟨i,hi,h5⟩:=exists_counted h3
    grind
   |last L h1 h2 h3 _=>grind
   |fin h1 _=>exact h1.elim
 obtain⟨i,g,dr,c6,hg,aa,h8⟩:=crowd_pick (P:=P) (w:=B) (sl:=sl) dc c4;have h':=h.at hs dr
 rcases which i g hg with rfl|⟨h1,h2⟩|⟨k,hk,rfl⟩
 .rw[h.zero] at hg;cases hg
  rcases h'.starter (sl:=c6) hs hd hc aa with ⟨gs2,B2,sl2,D2,f2,fr,q2,own2,lo2,S2,A2,st2,sm2,e,x⟩|⟨m₁,ops,hh,x1,x2,x3⟩
  .left
   obtain⟨rfl,rfl,rfl⟩:gs=gs2/\B.at dr=B2/\c6=sl2:=by
    have e1:=congrArg Machine.gs e;have e2:=congrArg Machine.world e;have e3:=congrArg (λm=>m.rest.slice) e;exact⟨e1,e2,e3⟩
   obtain⟨y,yI,yF⟩:=x;have y':=y.at hs B.drawn;exact⟨gs,B,sl,D2,f2,fr,q2,own2,lo2,S2,A2,st2,sm2,rfl,y',yI,yF⟩
  grind
 .right;obtain⟨m₁,ops,hh,x1,x2,x3⟩:=h'.Sg (sl:=c6) hs hd h1 h2 hg aa
  grind
 .right;obtain⟨m₁,ops,hh,x1,x2,x3⟩:=PI.worker (sl:=c6) hs hd hc _ h' hk hg aa
  grind
theorem NL(hs:gb P P1 d s)(hd:fF d)(hc:∀l k,@lR _ (cQ l d.F k) P1 P bad)(μ:Nat×Nat):∀(m:Machine)(t:Trace),dW P P1 d s t0 B0 μ m t->∃N m' t',runNT P N m t=(.next m',t')/\CX P P1 d s t0 B0 m' t':=by
 have ef:WellFounded Lt2:=(Prod.lex Nat.lt_wfRel Nat.lt_wfRel).wf
 induction μ using ef.induction with
 |_ μ ih=>
  intro m t h
  rcases NJ hs hd hc h with dp|⟨m',ops,hh,h1,h2,h3⟩
  .exact⟨0,m,t,rfl,dp⟩
  .obtain⟨N,m2,t2,h4,h5⟩:=ih hh h2 m' _ h3;exact⟨N+1,m2,t2,EW h1 h4,h5⟩
end
end Go.Fc
