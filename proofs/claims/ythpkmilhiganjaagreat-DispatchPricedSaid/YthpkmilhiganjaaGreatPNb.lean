/- Lemmas. -/
import Derived.Test.YthpkmilhiganjaaGreatPNa
set_option linter.unusedSimpArgs false
set_option linter.unusedVariables false
set_option linter.unusedSectionVars false
set_option maxHeartbeats 32000000
set_option maxRecDepth 100000
namespace Go.Fc
open Go Go.Conc Go.Fi
open Go.ConcN (PayAt Has RW WgLive AtR0 WSit CTag WD upd upd_ne upd_same RelBy phi Vc Ssum Fsum cnt sumTo sumTo_upd ShN Vc_upd Vc_le others_uncounted isW3 pend OpenSt le_sumTo)
open Go.ConcR (KK WgAt stA smA rd wr mk Payload DC0 g_of_ofEvents Bk)
section
variable[Payload][Xf]{P P1:Program}{d:PhD}{s:Script}{t0:Trace}{B0:World}{gs:Array Goroutine}{B B':World}{sl:Option (Nat×Nat)}{j:Nat}{D:Nat→WD}{tag:CTag}{f0 d0:Nat}{a:Goroutine}{q:Nat→Nat}{own lo:Nat→Nat}{S:Nat→Sh}{A:Nat→World}{st sm:Int}{t:Trace}{bad:Nat→Prop}
omit [Payload] [Xf] in
theorem BV{r:Rts}{p n:Nat}{m:Mark}(hl:(MemAct.mark m).low n)(ht:(MemAct.mark m).touch?=none)(hr:m≠.release (stA d.Wg)):EvS d r p n (mk m):=
 ⟨fun x hx=>(by rw[show MemAct.ofEvent (mk m)=.mark m from rfl,ht] at hx;cases hx),hl,fun e=>hr (by simpa[mk] using e)⟩
omit [Payload] [Xf] in
theorem sU{r:Rts}{p n:Nat}{e:Event}(h:Bk d.Wg e)(hn:d.Wg<n):EvS d r p n e:=by
 rcases h with h|h|⟨a,w,rfl,hb⟩
 ·obtain⟨l,w,s⟩:=e;simp only at h;subst h;exact⟨fun x hx=>by simp[MemAct.ofEvent,MemAct.touch?] at hx,trivial,by simp⟩
 ·obtain⟨l,w,s⟩:=e;simp only at h;subst h;exact⟨fun x hx=>by simp[MemAct.ofEvent,MemAct.touch?] at hx,trivial,by simp⟩
 ·refine⟨fun x hx=>.inl ?_,by rw[ofEvent_cell0];show a.block<n;omega,by simp⟩;simp only[ofEvent_cell0,MemAct.touch?,Option.some.injEq] at hx;subst hx;exact⟨⟨a,rfl,hb⟩,by simp,by simp⟩
theorem PI.EW(hs:dm P P1 d s)(hd:dc d)(h:PI P P1 d s t0 B0 gs B j D tag f0 d0 a q own lo S A st sm t){i:Nat}(hi:i<j){g g':Goroutine}{es:Array Event}(hg:gs[d.e0+i]?=some g)(hgo:stepG P false g B=.go g' B' es){s' m' dd':Nat}{st' sm':Int}(hB:B'=B∨∃c v,c.block=d.Wg∧B'=B.setCell c v)(hs':∀S' A',Lk (Cc P1 P) S' A' B'→S'.part=(S (i+1)).part→Bel (A (i+1)).heap.size (A (i+1)) A'→(A'=A (i+1)∧S'=S (i+1)∨True)→WkS P P1 d s i (lo (i+1)) s' m' dd' g' S' A' B')(hes:∀e∈es,EvS d (rts d own lo j) (i+1) B'.heap.size e)(hdd:deafBehind (D i).deaf es=dd')(hrel:s'≤6→∃r,RelBy (stA d.Wg) (t++MemOp.ofEvents (d.e0+i) g.frame.fn g.frame.place es) (d.e0+i) r)(hwg:WgAt d.ty d.Wg B' st' sm')(hmode:∀tag',(tag'=tag∨(tag=.blk∧tag'=.w3))→(mayWake P g=true→g'.status=.running→tag'≠.blk)→ConcN.Mode j (upd D i ⟨s',m',dd'⟩) tag' st' sm')(hacq:tag=.ret→jB d j (t++MemOp.ofEvents (d.e0+i) g.frame.fn g.frame.place es))(hlt:(s'<(D i).stage∧cnt ⟨s',m',dd'⟩≤cnt (D i))∨(s'=(D i).stage∧m'+1≤(D i).fuel)):∃m₁ ops μ',runT P (crowd gs B sl) (d.e0+i)=(.next m₁,ops)∧Lt2 μ' (muP d j D tag f0 q)∧cg P P1 d s t0 B0 μ' m₁ (t++ops):=by
 rcases hB with rfl|⟨c,v,hc,rfl⟩
 ·exact h.stepW hs hd hi hg hgo h.mem (fun p _ _=>⟨Bel.refl _ _,rfl⟩) id (fun _ _ _=>ConcN.RW.refl _) (hs' _ _ (h.mem.lk _ (by omega)) rfl (Bel.refl _ _) (.inl ⟨rfl,rfl⟩)) (Nat.le_refl _) (fun b=>.inl rfl) hes hdd hrel hwg h.dead hmode hacq hlt
 ·have k:=Kept.setCell B c v true
  have hsz:(B.setCell c v).heap.size=B.heap.size:=by simp[World.setCell]
  have hM:=h.mem.lib hd h.jn (p:=0) (Nat.zero_le _) k hsz (fun e he hw=>by simp at he;subst he;exact⟨c,rfl,.inl hc⟩);have hAs:=aside_setCell B c v;rw[hc] at hAs;exact h.stepW hs hd hi hg hgo hM (fun p _ _=>⟨og,rfl⟩) (fun _=>⟨_,_,hwg⟩) (fun _ _ _=>ConcN.RW.of_wg hAs ⟨_,_,hwg⟩ hd.ne) (hs' _ _ (hM.lk _ (by omega)) rfl og (.inr trivial)) (by rw[hsz];exact Nat.le_refl _) (fun b=>.inl rfl) hes hdd hrel hwg (h.uq k) hmode hacq hlt
omit [Payload] [Xf] in
theorem xE{g:Nat}{fn:FuncId}{pos:String}:MemOp.ofEvents g fn pos #[]=#[]:=by rw[ofEvents_eq];simp
theorem PI.zl(hs:dm P P1 d s)(hd:dc d)(h:PI P P1 d s t0 B0 gs B j D tag f0 d0 a q own lo S A st sm t){i:Nat}(hi:i<j){g g':Goroutine}(hg:gs[d.e0+i]?=some g)(hgo:stepG P false g B=.go g' B #[]){m':Nat}(hs':WkS P P1 d s i (lo (i+1)) (D i).stage m' (D i).deaf g' (S (i+1)) (A (i+1)) B)(hlt:m'+1≤(D i).fuel):∃m₁ ops μ',runT P (crowd gs B sl) (d.e0+i)=(.next m₁,ops)∧Lt2 μ' (muP d j D tag f0 q)∧cg P P1 d s t0 B0 μ' m₁ (t++ops):=by
 refine h.stepW hs hd hi hg hgo h.mem (fun p _ _=>⟨Bel.refl _ _,rfl⟩) id (fun _ _ _=>ConcN.RW.refl _) hs' (Nat.le_refl _) (fun b=>.inl rfl) (by simp) rfl ?_ h.wg h.dead (fun tag' ht _=>(h.mode.same m' (D i).deaf).retag ht) ?_ (.inr ⟨rfl,hlt⟩)
 ·rw[xE,Array.append_empty];exact h.trc.rel i hi
 ·rw[xE,Array.append_empty];exact h.acq
theorem PI.EX(h:PI P P1 d s t0 B0 gs B j D tag f0 d0 a q own lo S A st sm t){i m':Nat}(hi:i<j){g:Goroutine}(hg:gs[d.e0+i]?=some g)(hw:WkS P P1 d s i (lo (i+1)) (D i).stage m' (D i).deaf g (S (i+1)) (A (i+1)) B):PI P P1 d s t0 B0 gs B j (upd D i ⟨(D i).stage,m',(D i).deaf⟩) tag f0 d0 a q own lo S A st sm t:=by
 refine⟨h.size,h.zero,h.start,h.eld,fun k hk=>?_,h.mem,⟨h.trc.pre,h.trc.tr,h.trc.ph,h.trc.norel,h.trc.low,h.trc.deaf0,fun k hk=>?_,h.trc.above,fun k hk hs=>?_⟩,h.wg,h.mode.same m' _,h.acq,h.jn,h.dead⟩
 ·by_cases e:k=i
  ·subst e;rw[upd_same];exact⟨g,hg,hw⟩
  ·rw[upd_ne D _ e];exact h.wk k hk
 ·by_cases e:k=i
  ·subst e;rw[upd_same];exact h.trc.deafW k hk
  ·rw[upd_ne D _ e];exact h.trc.deafW k hk
 ·by_cases e:k=i
  ·subst e;rw[upd_same] at hs;exact h.trc.rel k hk hs
  ·rw[upd_ne D _ e] at hs;exact h.trc.rel k hk hs
omit [Payload] [Xf] in
theorem BW{i m':Nat}(hi:i<j)(hm:m'≤(D i).fuel){μ:Nat×Nat}(h:Lt2 μ (muP d j (upd D i ⟨(D i).stage,m',(D i).deaf⟩) tag f0 q)):Lt2 μ (muP d j D tag f0 q):=by
 have c1:=sumTo_upd D (⟨(D i).stage,m',(D i).deaf⟩:WD) cnt hi;have c2:=sumTo_upd D (⟨(D i).stage,m',(D i).deaf⟩:WD) WD.stage hi;have c3:=sumTo_upd D (⟨(D i).stage,m',(D i).deaf⟩:WD) WD.fuel hi
 have e1:Vc j (upd D i ⟨(D i).stage,m',(D i).deaf⟩)=Vc j D:=by simp only[Vc];simp only[cnt] at c1 ⊢;omega
 have e2:Ssum j (upd D i ⟨(D i).stage,m',(D i).deaf⟩)=Ssum j D:=by simp only[Ssum];simp only at c2;omega
 have e3:Fsum j (upd D i ⟨(D i).stage,m',(D i).deaf⟩)≤Fsum j D:=by simp only[Fsum];simp only at c3;omega
 obtain⟨x,y⟩:=μ;simp only[muP,e1,e2] at h ⊢
 cases h with
 |left _ _ h=>exact Prod.Lex.left _ _ h
 |right _ h=>exact Prod.Lex.right _ (by omega)
end
end Go.Fc
namespace Go.Fc
open Go Go.Conc Go.Fi
open Go.ConcN (PayAt Has RW WgLive AtR0 WSit CTag WD upd upd_ne upd_same RelBy phi Vc Ssum Fsum cnt sumTo sumTo_upd ShN Vc_upd Vc_le others_uncounted isW3 pend OpenSt le_sumTo bk_cell)
open Go.ConcR (KK WgAt stA smA rd wr mk Payload DC0 g_of_ofEvents Bk bk_of_mute ofEvent_loc_mark)
theorem Kept.Nf{es:Array Event}{B B':World}(k:Kept es B B'){b:Nat}(hb:b<B.heap.size)(h:∀e∈es,e.write=true→∃a,e.loc=.cell a∧a.block≠b):B'.heap[b]?=B.heap[b]?:=by
 refine k.obj b hb (.inr fun e he hw a ha=>?_) fun e he hw ho=>?_
 ·obtain⟨a',ha',hne⟩:=h e he hw;rw[ha] at ha';cases ha';exact hne
 ·obtain⟨a',ha',_⟩:=h e he hw;rw[ho] at ha';cases ha'
section
variable[Payload][Xf]{P P1:Program}{d:PhD}{s:Script}{t0:Trace}{B0:World}{gs:Array Goroutine}{B B':World}{sl:Option (Nat×Nat)}{j:Nat}{D:Nat→WD}{tag:CTag}{f0 d0:Nat}{a:Goroutine}{q:Nat→Nat}{own lo:Nat→Nat}{S:Nat→Sh}{A:Nat→World}{st sm:Int}{t:Trace}{bad:Nat→Prop}
theorem EY{es:Array Event}{p:Nat}(hM:Mem (Cc P1 P) d j own lo S A B B0)(hd:dc d)(hj:j≤d.n)(hp:p≤j)(hwg:WgAt d.ty d.Wg B st sm)(k:Kept es B B')(hev:∀e∈es,EvT (S p) B' e)(hw:oU d own lo j p B es)(hM':PayAt d.F d.n B'):WgAt d.ty d.Wg B' st sm∧∀i,i<j→i+1≠p→RW d.ty d.Wg d.F d.n 0 i B B':=by
 have hWs:B'.heap[d.Wg]?=B.heap[d.Wg]?:=by
  refine k.Nf (Array.getElem?_eq_some_iff.1 hwg).1 fun e he hwr=>?_
  rcases hev e he with ⟨a,wr,rfl,_,hnd⟩|⟨r,wr,sy,rfl,_⟩|rfl
  ·exact⟨a,rfl,fun x=>hnd (hM.iC p hp _ (.inr x))⟩
  ·obtain⟨a,ha,_⟩:=hw _ he hwr;cases ha
  ·cases hwr
 have hwg':WgAt d.ty d.Wg B' st sm:=by unfold WgAt;rw[hWs];exact hwg
 refine⟨hwg',fun i hi hne=>⟨fun b hb=>by omega,fun _=>⟨_,_,hwg'⟩,fun _=>hM',?_⟩⟩;obtain⟨cF,hF,hn⟩:=hM.pay;obtain⟨c',h1,h2,h3⟩:=k.cell _ _ _ _ hF;unfold World.cell?;rw[hF,h1]
 refine h3 i fun e he hwr a ha hab hoff=>?_
 obtain⟨a',ha',hc⟩:=hw e he hwr;rw[ha] at ha';cases ha'
 rcases hc with hc|⟨_,ho⟩|⟨hl,_⟩
 ·exact hd.ne (hab▸hc)
 ·unfold slot at ho;split at ho<;>omega
 ·have:=hd.f;omega
theorem PI.worker(hs:dm P P1 d s)(hd:dc d)(hc:∀l k,@iB _ (a7 l d.F k) P1 P bad){i:Nat}{g:Goroutine}:∀(D:Nat→WD),PI P P1 d s t0 B0 gs B j D tag f0 d0 a q own lo S A st sm t→i<j→gs[d.e0+i]?=some g→g.status=.running→∃m₁ ops μ',runT P (crowd gs B sl) (d.e0+i)=(.next m₁,ops)∧Lt2 μ' (muP d j D tag f0 q)∧cg P P1 d s t0 B0 μ' m₁ (t++ops):=by
 have he0:=hd.e0
 have cB2:∀(D:Nat→WD),PI P P1 d s t0 B0 gs B j D tag f0 d0 a q own lo S A st sm t→i<j→gs[d.e0+i]?=some g→(D i).stage=7→(D i).deaf=0→∀{v:Value},Lk (Cc P1 P) (S (i+1)) (A (i+1)) B→¬(S (i+1)).part d.F i→s.Fin i (A (i+1))→(D i).fuel≤s.K7 →
  Goes P false (RW d.ty d.Wg d.F d.n 0 i) DC0 (AtR0 P d.ty d.Wg d.F d.n 0 (i+1) v) (D i).fuel g B→∃m₁ ops μ',runT P (crowd gs B sl) (d.e0+i)=(.next m₁,ops)∧Lt2 μ' (muP d j D tag f0 q)∧cg P P1 d s t0 B0 μ' m₁ (t++ops):=by
  intro D h hi hg h7 h0 v h1 h2 h3 h5 h6;generalize hfu:(D i).fuel=m at h6 h5
  rcases Goes.cases h6 with hstop|⟨m',rfl,hstep⟩
  ·obtain⟨_,hhas,g',hgo,m2,hk⟩:=hstop B (ConcN.RW.refl B);refine h.EW hs hd hi hg hgo (s':=6) (m':=m2) (dd':=0) (.inl rfl) (fun S' A' hl hp hA _=>.b3 hl (by rw[hp];exact h2) (hs.stF _ _ _ h3 hA) (by omega) (.k1 (v:=v) hk))
    (fun e he=>?_) (by rw[h0];rfl) (fun _=>⟨t.size,RelBy.new (by rw[h.trc.deafW i hi,h0]) _ _⟩) h.wg (fun tag' ht _=>(h.mode.counted hi (by omega) (.inl rfl) _ _).retag ht) (fun e=>absurd e (h.mode.not_ret hi (by omega))) (.inl ⟨by omega,by simp[cnt,h7]⟩)
   simp at he;subst he;exact BV (by show d.Wg<_;have:=h.mem.size;have:=hd.wg;omega) rfl (by simp)
  ·obtain⟨g',w',es,hgo,⟨rfl,rfl⟩,hg'⟩:=hstep B (ConcN.RW.refl B);exact h.zl hs hd hi hg hgo (m':=m') (by rw[h7,h0];exact .b2 h1 h2 h3 (by omega) hg') (by omega)
 have cB1:∀(D:Nat→WD),PI P P1 d s t0 B0 gs B j D tag f0 d0 a q own lo S A st sm t→i<j→gs[d.e0+i]?=some g→(D i).stage=7→(D i).deaf=0→∀{N:Nat}{fr:Frame}{cs:List Frame},g=G fr cs→(D i).fuel=N+s.K7+1→bQ P1 P (S (i+1)) s.csW fr cs (A (i+1)) B→¬(S (i+1)).part d.F i →
  @TN (a7 (lo (i+1)) d.F i) P1 s.csW.length s.csW.length (s.WE i) N fr cs (A (i+1))→∃m₁ ops μ',runT P (crowd gs B sl) (d.e0+i)=(.next m₁,ops)∧Lt2 μ' (muP d j D tag f0 q)∧cg P P1 d s t0 B0 μ' m₁ (t++ops):=by
  intro D h hi hg h7 h0 N fr cs hgG hfu h2 h3 h4
  have hend:s.WE i fr cs (A (i+1))→∃m₁ ops μ',runT P (crowd gs B sl) (d.e0+i)=(.next m₁,ops)∧Lt2 μ' (muP d j D tag f0 q)∧cg P P1 d s t0 B0 μ' m₁ (t++ops):=by
   intro hw;obtain⟨rfl,hF,v,hv,hgo⟩:=hs.hwe i fr cs _ hw;have hB:B.cell? ⟨d.F,i,none⟩=some v:=h2.lk.EI hv h3;have hG:=hgo B ⟨⟨_,_,h.wg⟩,hB⟩;rw[←hgG] at hG;have h':=h.EX hi hg (m':=s.K7) (by rw[h7,h0];exact .b2 h2.lk h3 hF (Nat.le_refl _) hG);obtain⟨m₁,ops,μ',x1,x2,x3⟩:=cB2 _ h' hi hg (by rw[upd_same];exact h7) (by rw[upd_same];exact h0) h2.lk h3 hF (by rw[upd_same];exact Nat.le_refl _) (by rw[upd_same];exact hG);exact⟨m₁,ops,μ',x1,BW hi (by omega) x2,x3⟩
  cases N with
  |zero=>exact hend h4
  |succ N=>
   have hfine:∀w es,@EnvD.D (a7 (lo (i+1)) d.F i) w es→∀e∈es,(S (i+1)).cP e:=by
    intro w es hD e he x hx hp;have hx2:EvD (lo (i+1)) d.F i e:=hD e he;have hbF:=h.mem.jA (i+1) (by omega) _ _ hp
    rcases hx2 with ⟨a',hl,hf,_⟩|⟨m,hl⟩
    ·rw[hx] at hl;cases hl;rw[hbF,hf hbF] at hp;exact h3 hp
    ·rw[hx] at hl;cases hl
   have hΦ2:∀fr cs w,cs.length<s.csW.length→¬s.WE i fr cs w:=fun fr cs w hlt hw=>by
    rw[(hs.hwe _ _ _ _ hw).1] at hlt;omega
   rcases @xC _ (a7 (lo (i+1)) d.F i) P1 P bad (S (i+1)) s.csW (s.WE i) (hc _ _) false (.inr hs.csN) hfine (fun f args cs w _ hw=>hs.EU _ _ _ _ _ _ hw rfl) hΦ2 fr cs (A (i+1)) B N h2 h4 with hw|⟨fr',cs',A',B',es,hgo,hsh,⟨A2,e1,e2,e3,hT'⟩,htp,hk,hev,⟨A1,e4,hD⟩,hsz⟩
   ·exact hend hw
   ·rw[hgG] at hg
    have hsl:slot d (i+1)=i:=by simp[slot]
    have hDs:∀e∈es,EvD (lo (i+1)) d.F (slot d (i+1)) e:=fun e he=>by rw[hsl];exact hD e he
    have hwr:=EM (B':=B') h.mem hd (p:=i+1) (by omega) (l:=lo (i+1)) (fun _=>rfl) (fun x=>by omega) hev hDs;have hM:=h.mem.EK hd h.jn (p:=i+1) (by omega) hk hwr hsh.lk rfl rfl rfl;obtain⟨hwg',hRW⟩:=EY h.mem hd h.jn (p:=i+1) (by omega) h.wg hk hev hwr hM.pay
    have hev':∀e∈es,EvT ((fun q=>if q=i+1 then S (i+1) else (S q).grown B B') (i+1)) B' e:=fun e he=>by simpa using hev e he
    have hT2:@TN (a7 (lo (i+1)) d.F i) P1 s.csW.length s.csW.length (s.WE i) N fr' cs' A':=
     @TN.rely (a7 _ d.F i) _ _ _ _ lH (fun fr cs w w1 x e=>hs.stW i fr cs w w1 x e) _ _ _ _ _ hT' ⟨e2.symm,e3.symm,by rw[e1];exact Nat.le_refl _,fun b _=>by rw[e1]⟩
    refine h.stepW hs hd hi hg hgo (s':=7) (m':=N+s.K7+1) (dd':=0) hM (fun p hp hne=>?_) (fun _=>⟨_,_,hwg'⟩) (fun i' hi' hne=>hRW i' hi' (by omega)) ?_ hk.size (fun b=>?_) (fun e he=>EL hM hd h.jn (p:=i+1) (by omega) (l:=lo (i+1)) (fun _=>rfl) (fun x=>by omega) (hev' e he) (hDs e he)) ?_ (fun x=>by omega) hwg' (h.uq hk) (fun tag' ht _=>?_) (fun e=>absurd e (h.mode.not_ret hi (by omega))) (.inr ⟨h7.symm,by omega⟩)
    ·try dsimp only
     rw[if_neg hne,if_neg hne];exact⟨og,rfl⟩
    ·simp only[if_true];exact .b1 hsh h3 hT2
    ·try dsimp only
     split
     ·rename_i x;exact .inr ⟨x.1,rfl⟩
     ·exact .inl rfl
    ·rw[h0];refine ConcN.deafBehind_idle (fun e he=>?_) 0
     rcases hev e he with ⟨a,wr,rfl,_⟩|⟨r,wr,sy,rfl,_⟩|rfl<;>simp
    ·have:=(h.mode.same (i:=i) (N+s.K7+1) 0).retag ht
     rwa [h7] at this
 intro D h hi hg hrun;obtain⟨g1,hg1,hw⟩:=h.wk i hi
 obtain rfl:g=g1:=by rw[hg] at hg1;exact Option.some.inj hg1
 generalize hst:(D i).stage=s0 at hw;generalize hfu:(D i).fuel=m at hw;generalize hde:(D i).deaf=dd at hw
 have hdk:Deaf t (d.e0+i)=dd:=by rw[h.trc.deafW i hi,hde]
 have hVj:=Vc_le j D;have hjn:=h.jn;have hn:=hd.n
 have hWlt:d.Wg<B.heap.size:=by have:=h.mem.size;have:=hd.wg;omega
 cases hw with
 |b0 h1 h2 h3 h4=>
  rename_i m N fr
  rcases Goes.cases h1 with hstop|⟨m',rfl,hstep⟩
  ·have hgG:g=G fr s.csW:=hstop B trivial;have h':=h.EX hi hg (m':=N+s.K7+1) (by rw[hst,hde,hgG];exact .b1 h2 h3 h4);obtain⟨m₁,ops,μ',x1,x2,x3⟩:=cB1 _ h' hi hg (by rw[upd_same];exact hst) (by rw[upd_same];exact hde) hgG (by rw[upd_same]) h2 h3 h4;exact⟨m₁,ops,μ',x1,BW hi (by omega) x2,x3⟩
  ·obtain⟨g',w',es,hgo,⟨rfl,rfl⟩,hg'⟩:=hstep B trivial;exact h.zl hs hd hi hg hgo (m':=m'+N+s.K7+2) (by rw[hst,hde];exact .b0 hg' h2 h3 h4) (by omega)
 |b1 h2 h3 h4=>exact cB1 D h hi hg hst hde rfl hfu h2 h3 h4
 |b2 h1 h2 h3 h5 h6=>exact cB2 D h hi hg hst hde h1 h2 h3 (by omega) (by rw[hfu];exact h6)
 |b3 h1 h2 h3 h4 h5=>
  rename_i v
  have nr:s0≠1→tag≠.ret:=fun x=>h.mode.not_ret hi (by omega)
  have wk:∀{st' m' dd':Nat}{g':Goroutine}{w:World},st'≤6→WSit P d.ty d.Wg d.F d.n noL noL 0 (i+1) v st' m' dd' g' w→∀S' A',Lk (Cc P1 P) S' A' w→S'.part=(S (i+1)).part→Bel (A (i+1)).heap.size (A (i+1)) A'→(A'=A (i+1)∧S'=S (i+1)∨True)→WkS P P1 d s i (lo (i+1)) st' m' dd' g' S' A' w:=
   fun hle hw S' A' hl hp hA _=>.b3 hl (by rw[hp];exact h2) (hs.stF _ _ _ h3 hA) hle hw
  have book:∀{g':Goroutine}{w':World}{es:Array Event}{s' m' dd':Nat}{st' sm':Int},stepG P false g B=.go g' w' es→(w'=B∨∃c v,c.block=d.Wg∧w'=B.setCell c v)→WgAt d.ty d.Wg w' st' sm'→(∀e∈es,Bk d.Wg e) →
   (∀jx e,es[jx]?=some e→(MemAct.ofEvent e).touch?=none∨0<deafBehind dd (es.extract 0 jx))→WSit P d.ty d.Wg d.F d.n noL noL 0 (i+1) v s' m' dd' g' w'→deafBehind dd es=dd'→s'≤6 →
   (∀tag',(tag'=tag∨(tag=.blk∧tag'=.w3))→(mayWake P g=true→g'.status=.running→tag'≠.blk)→ConcN.Mode j (upd D i ⟨s',m',dd'⟩) tag' st' sm')→(tag=.ret→jB d j (t++MemOp.ofEvents (d.e0+i) g.frame.fn g.frame.place es))→((s'<s0∧cnt ⟨s',m',dd'⟩≤cnt (D i))∨(s'=s0∧m'+1=m)) →
   ∃m₁ ops μ',runT P (crowd gs B sl) (d.e0+i)=(.next m₁,ops)∧Lt2 μ' (muP d j D tag f0 q)∧cg P P1 d s t0 B0 μ' m₁ (t++ops):=by
   intro g' w' es s' m' dd' st' sm' hgo hB hwg hbk hno hw hdd hle hmode hacq hlt
   have hsz:w'.heap.size=B.heap.size:=by rcases hB with rfl|⟨c,v,_,rfl⟩<;>simp[World.setCell]
   exact h.EW hs hd hi hg hgo hB (wk hle hw) (fun e he=>sU (hbk e he) (by rw[hsz];exact hWlt)) (by rw[hde];exact hdd) (fun _=>let ⟨r,hr⟩:=h.trc.rel i hi (by omega);⟨r,hr.book hdk _ _ hbk hno⟩) hwg hmode hacq (by rw[hst,hfu];exact hlt.imp id fun x=>⟨x.1,by omega⟩)
  have bookM:∀{g':Goroutine}{w':World}{es:Array Event}{s' m' dd':Nat}{st' sm':Int},stepG P false g B=.go g' w' es→(w'=B∨∃c v,c.block=d.Wg∧w'=B.setCell c v)→WgAt d.ty d.Wg w' st' sm'→(∀e∈es,Bk d.Wg e) →
   (∀jx e,es[jx]?=some e→(MemAct.ofEvent e).touch?=none∨0<deafBehind dd (es.extract 0 jx))→WSit P d.ty d.Wg d.F d.n noL noL 0 (i+1) v s' m' dd' g' w'→deafBehind dd es=dd'→s'≤6 →
   ConcN.Mode j (upd D i ⟨s',m',dd'⟩) tag st' sm'→(tag=.ret→jB d j (t++MemOp.ofEvents (d.e0+i) g.frame.fn g.frame.place es))→((s'<s0∧cnt ⟨s',m',dd'⟩≤cnt (D i))∨(s'=s0∧m'+1=m)) →
   ∃m₁ ops μ',runT P (crowd gs B sl) (d.e0+i)=(.next m₁,ops)∧Lt2 μ' (muP d j D tag f0 q)∧cg P P1 d s t0 B0 μ' m₁ (t++ops):=
   fun hgo hB hwg hbk hno hw hdd hle hmode hacq hlt=>book hgo hB hwg hbk hno hw hdd hle (fun _ ht _=>hmode.retag ht) hacq hlt
  have idle:∀{g':Goroutine}{m':Nat},stepG P false g B=.go g' B #[]→WSit P d.ty d.Wg d.F d.n noL noL 0 (i+1) v s0 m' dd g' B→m'+1=m →
   ∃m₁ ops μ',runT P (crowd gs B sl) (d.e0+i)=(.next m₁,ops)∧Lt2 μ' (muP d j D tag f0 q)∧cg P P1 d s t0 B0 μ' m₁ (t++ops):=by
   intro g' m' hgo hw hm;exact h.zl hs hd hi hg hgo (m':=m') (by rw[hst,hde];exact .b3 h1 h2 h3 h4 hw) (by omega)
  have hr0:=ConcN.RW.refl (ty:=d.ty) (Wg:=d.Wg) (C:=d.F) (n:=d.n) (Low:=0) (i:=i) B
  cases h5 with
  |r0 _=>omega
  |k1 hG=>
   rcases Goes.cases hG with hstop|⟨m',rfl,hstep⟩
   ·obtain⟨_,g',hgo,m2,hk⟩:=hstop B hr0;exact bookM hgo (.inl rfl) h.wg (by intro e he;simp at he;subst he;exact .inl rfl) (by intro jx e he;exact .inl (by have:=Array.mem_of_getElem? he;simp at this;subst this;rfl)) (.d1 hk) rfl (by omega)
     (h.mode.counted hi (by omega) (.inr rfl) _ _) (fun e=>absurd e (nr (by omega))) (.inl ⟨by omega,by simp[cnt,hst]⟩)
   ·obtain⟨g',w',es,hgo,⟨rfl,rfl⟩,hg'⟩:=hstep B hr0;exact idle hgo (.k1 hg') rfl
  |d1 hG=>
   rcases Goes.cases hG with hstop|⟨m',rfl,hstep⟩
   ·obtain⟨_,hall⟩:=hstop B hr0
    have hc1:cnt (D i)=1:=by simp[cnt,hst]
    have hV1:1≤Vc j D:=by have:=le_sumTo (f:=fun x=>cnt (D x)) hi;simp only[Vc];omega
    have bk2:∀e∈#[rd (stA d.Wg),wr (stA d.Wg)],Bk d.Wg e:=by intro e he;simp at he;rcases he with rfl|rfl<;>exact bk_cell _ _ rfl
    have df2:∀jx e,(#[rd (stA d.Wg),wr (stA d.Wg)]:Array Event)[jx]?=some e→(MemAct.ofEvent e).touch?=none∨0<deafBehind 1 ((#[rd (stA d.Wg),wr (stA d.Wg)]:Array Event).extract 0 jx):=by
     intro jx e he
     match jx,he with
     |0,_=>exact .inr (by simp[deafBehind])
     |1,_=>exact .inr (by simp[deafBehind,rd])
     |jx+2,he=>simp at he
    have hq0:∀x,cnt (⟨1,x,1⟩:WD)=0:=fun _=>rfl
    have opq:∀x,OpenSt j D→OpenSt j (upd D i ⟨1,x,1⟩):=fun x h a ha=>by
     by_cases e:a=i
     ·subst e;rw[upd_same];simp
     ·rw[upd_ne D _ e];exact h a ha
    have hmode:=h.mode;have hwg:=h.wg;have hpend:j+pend tag≤d.n:=h.start.bound
    cases hmode with
    |opn y1 y2 y3=>
     obtain⟨v',hv⟩:∃v,Vc j D+pend tag=v+1:=⟨Vc j D+pend tag-1,by omega⟩;rw[hv] at hwg
     have hw1:WgAt d.ty d.Wg B (((v':Nat)+1)*KK+((0:Nat):Int)) 0:=by simpa using hwg
     obtain⟨g',hgo,_,hq⟩:=hall v' 0 (by omega) (by omega) hw1;obtain⟨x,hq⟩:=hq (by omega)
     have hv':Vc j (upd D i ⟨1,x,1⟩)+pend tag=v':=by have:=Vc_upd D (⟨1,x,1⟩:WD) hi;have:=hq0 x;omega
     refine bookM hgo (.inr ⟨stA d.Wg,_,rfl,rfl⟩) (hwg.setSt _) bk2 df2 (.quit hq) rfl (by omega) ?_ (fun e=>absurd e (nr (by omega))) (.inl ⟨by omega,by simp[cnt]⟩)
     have e:((v':Nat):Int)*KK+((0:Nat):Int)=((Vc j (upd D i ⟨1,x,1⟩)+pend tag:Nat):Int)*KK:=by rw[hv'];simp
     rw[e];exact .opn y1 (opq x y2) (fun vs ev=>by have:=y3 vs ev;omega)
    |reg y1 y2 y3=>
     obtain⟨v',hv⟩:∃v,Vc j D=v+1:=⟨Vc j D-1,by omega⟩;rw[hv] at hwg
     have hw1:WgAt d.ty d.Wg B (((v':Nat)+1)*KK+((1:Nat):Int)) 0:=by simpa using hwg
     obtain⟨g',hgo,hl,hq⟩:=hall v' 1 (by omega) (by omega) hw1;by_cases hv0:v'=0
     ·subst hv0;obtain⟨m2,hk⟩:=hl ⟨rfl,rfl⟩;refine bookM hgo (.inr ⟨stA d.Wg,_,rfl,rfl⟩) (hwg.setSt _) bk2 df2 (.d2 hk) rfl (by omega) ?_ (fun e=>absurd e (nr (by omega))) (.inl ⟨by omega,by simp[cnt]⟩)
      have hoth:∀a,a<j→a≠i→(D a).stage=1:=fun a ha e=>by
       have c0:=others_uncounted hi hv hc1 a ha e;have:=y2 a ha;simp only[cnt] at c0
       split at c0<;>omega
      have:=ConcN.Mode.last (j:=j) (D:=upd D i ⟨4,m2,1⟩) (tag:=tag) i y1 hi (by rw[upd_same];simp) (fun a ha e=>by rw[upd_ne D _ e];exact hoth a ha e);rw[upd_same] at this;simpa using this
     ·obtain⟨x,hq⟩:=hq (by omega)
      have hv':Vc j (upd D i ⟨1,x,1⟩)=v':=by have:=Vc_upd D (⟨1,x,1⟩:WD) hi;have:=hq0 x;omega
      refine bookM hgo (.inr ⟨stA d.Wg,_,rfl,rfl⟩) (hwg.setSt _) bk2 df2 (.quit hq) rfl (by omega) ?_ (fun e=>absurd e (nr (by omega))) (.inl ⟨by omega,by simp[cnt]⟩)
      have e:((v':Nat):Int)*KK+((1:Nat):Int)=((Vc j (upd D i ⟨1,x,1⟩):Nat):Int)*KK+1:=by rw[hv'];simp
      rw[e];exact .reg y1 (opq x y2) (by omega)
    |last L _ y2 y3 y4=>
     by_cases e:i=L
     ·subst e;omega
     ·have:=y4 i hi e;omega
    |sema y2=>have:=y2 i hi;omega
    |fin _ y2=>have:=y2 i hi;omega
   ·obtain⟨g',w',es,hgo,⟨rfl,rfl⟩,hg'⟩:=hstep B hr0;exact idle hgo (.d1 hg') rfl
  |d2 hG=>
   rcases Goes.cases hG with hstop|⟨m',rfl,hstep⟩
   ·obtain⟨_,hx⟩:=hstop B hr0;obtain⟨hW3,hoth,z1,z2⟩:=h.mode.isLast hi (by omega);have hwg:=h.wg;rw[z1,z2,hst] at hwg;obtain⟨g',hgo,m2,hk⟩:=hx (by simpa using hwg);refine bookM hgo (.inl rfl) hwg (by intro e he;simp at he;subst he;exact bk_cell _ _ rfl) (by intro jx e he;match jx,he with|0,_=>exact .inr (by simp[deafBehind])|jx+1,he=>simp at he) (.d3 hk) rfl (by omega) ?_ (fun e=>absurd e (nr (by omega))) (.inl ⟨by omega,by simp[cnt]⟩);have:=ConcN.Mode.last (j:=j) (D:=upd D i ⟨3,m2,1⟩) (tag:=tag) i hW3 hi (by rw[upd_same];simp) (fun a ha e=>by rw[upd_ne D _ e];exact hoth a ha e);rw[upd_same] at this;simpa using this
   ·obtain⟨g',w',es,hgo,⟨rfl,rfl⟩,hg'⟩:=hstep B hr0;exact idle hgo (.d2 hg') rfl
  |d3 hG=>
   rcases Goes.cases hG with hstop|⟨m',rfl,hstep⟩
   ·obtain⟨_,hx⟩:=hstop B hr0;obtain⟨hW3,hoth,z1,z2⟩:=h.mode.isLast hi (by omega);have hwg:=h.wg;rw[z1,z2,hst] at hwg;obtain⟨g',hgo,m2,hk⟩:=hx (by simpa using hwg);refine bookM hgo (.inr ⟨stA d.Wg,_,rfl,rfl⟩) (hwg.setSt 0) (by intro e he;simp at he;subst he;exact bk_cell _ _ rfl) (by intro jx e he;match jx,he with|0,_=>exact .inr (by simp[deafBehind])|jx+1,he=>simp at he) (.d4 hk) rfl (by omega) ?_ (fun e=>absurd e (nr (by omega))) (.inl ⟨by omega,by simp[cnt]⟩);have:=ConcN.Mode.last (j:=j) (D:=upd D i ⟨2,m2,1⟩) (tag:=tag) i hW3 hi (by rw[upd_same];simp) (fun a ha e=>by rw[upd_ne D _ e];exact hoth a ha e);rw[upd_same] at this;simpa using this
   ·obtain⟨g',w',es,hgo,⟨rfl,rfl⟩,hg'⟩:=hstep B hr0;exact idle hgo (.d3 hg') rfl
  |d4 hG=>
   rcases Goes.cases hG with hstop|⟨m',rfl,hstep⟩
   ·obtain⟨_,hmw,hx⟩:=hstop B hr0;obtain⟨hW3,hoth,z1,z2⟩:=h.mode.isLast hi (by omega);have hwg:=h.wg;rw[z1,z2,hst] at hwg;obtain⟨g',hgo,x,hq⟩:=hx (by simpa using hwg)
    have hrun':g'.status=.running:=by
     cases x with
     |zero=>exact absurd hq.2 (by decide)
     |succ x=>exact hq.elim (fun x=>absurd x.2 (by decide)) (fun x=>x.1)
    refine book hgo (.inr ⟨smA d.Wg,_,rfl,rfl⟩) (hwg.setSm 1) (es:=semEvents (smA d.Wg)) ?_ ?_ (.quit hq) (by simp[deafBehind,semEvents]) (by omega) ?_ (fun e=>absurd e (nr (by omega))) (.inl ⟨by omega,by simp[cnt]⟩)
    ·intro e he;simp[semEvents] at he
     rcases he with rfl|rfl|rfl|rfl
     ·exact .inl rfl
     ·exact bk_cell _ _ rfl
     ·exact bk_cell _ _ rfl
     ·exact .inr (.inl rfl)
    ·intro jx e he
     match jx,he with
     |0,he=>simp[semEvents] at he;subst he;exact .inl rfl
     |1,_=>exact .inr (by simp[deafBehind,semEvents])
     |2,_=>exact .inr (by simp[deafBehind,semEvents])
     |3,he=>simp[semEvents] at he;subst he;exact .inl rfl
     |jx+4,he=>simp[semEvents] at he
    ·intro tag' ht hw;have hnb:=hw hmw hrun'
     have e3:tag'=.w3:=by
      rcases ht with rfl|⟨_,rfl⟩
      ·cases tag'<;>first|rfl|exact hW3.elim|exact absurd rfl hnb
      ·rfl
     subst e3;simp only[if_true]
     exact .sema fun a ha=>by
      by_cases e:a=i
      ·subst e;rw[upd_same]
      ·rw[upd_ne D _ e];exact hoth a ha e
   ·obtain⟨g',w',es,hgo,⟨rfl,rfl⟩,hg'⟩:=hstep B hr0;exact idle hgo (.d4 hg') rfl
  |quit hQ=>
   cases m with
   |zero=>rw[hQ.1] at hrun;cases hrun
   |succ x=>
    rcases hQ with ⟨hf,_⟩|⟨_,g',es,hmute,hstep,hq⟩
    ·rw[hf] at hrun;cases hrun
    ·have hbk:∀e∈es,Bk d.Wg e:=fun e he=>bk_of_mute (hmute e he)
     have hno:∀jx e,es[jx]?=some e→(MemAct.ofEvent e).touch?=none∨0<deafBehind dd (es.extract 0 jx):=fun jx e he=>.inl (touch_mute (hmute e (Array.mem_of_getElem? he)))
     refine bookM (hstep B) (.inl rfl) h.wg hbk hno (.quit hq) rfl (by omega) (by have:=h.mode.same (i:=i) x (deafBehind dd es);rwa [hst] at this) (fun e=>(h.acq e).app fun i' r hi' hr=>?_) (.inr ⟨rfl,rfl⟩);by_cases e':i'=i
     ·subst e';exact hr.book hdk _ _ hbk hno
     ·exact hr.appOther g_of_ofEvents (by omega)
end
end Go.Fc
namespace Go.Fc
open Go Go.Conc Go.Fi
open Go.ConcN (PayAt Has RW WgLive WSit CTag WD upd upd_ne upd_same RelBy phi Vc Ssum Fsum cnt sumTo sumTo_upd sumTo_upd_out ShN Vc_upd Vc_le isW3 isOpen isFin pend OpenSt AllQuit le_sumTo bk_cell bk_dis bk_en bk_rd bk_rw bk_sem allQuit_of lt2_trans)
open Go.ConcR (KK WgAt stA smA rd wr mk Payload DC0 g_of_ofEvents Bk ofEvent_mk)
section
variable[Payload][Xf]{P P1:Program}{d:PhD}{s:Script}{t0:Trace}{B0:World}{gs:Array Goroutine}{B B':World}{sl:Option (Nat×Nat)}{j:Nat}{D:Nat→WD}{tag tag':CTag}{f0 f' d0:Nat}{a a':Goroutine}{q:Nat→Nat}{own lo:Nat→Nat}{S:Nat→Sh}{A:Nat→World}{st sm st' sm':Int}{t:Trace}{bad:Nat→Prop}{es:Array Event}
theorem PI.bookC(hs:dm P P1 d s)(hd:dc d)(h:PI P P1 d s t0 B0 gs B j D tag f0 d0 a q own lo S A st sm t)(hgo:stepG P true a B=.go a' B' es)(hB:B'=B∨∃c v,c.block=d.Wg∧B'=B.setCell c v)(hs':∀S' A',Lk (Cc P1 P) S' A' B'→S'.part=(S 0).part→Bel (A 0).heap.size (A 0) A'→StS P P1 d s lo tag' j f' (deafBehind d0 es) a' S' A' B')(hes:∀e∈es,EvS d (rts d own lo j) 0 B'.heap.size e)(hwg:WgAt d.ty d.Wg B' st' sm')(hmode:ConcN.Mode j D tag' st' sm')(hacq:tag'=.ret→jB d j (t++MemOp.ofEvents 0 a.frame.fn a.frame.place es))(hlt:phi d.n (Vc j D) tag'<phi d.n (Vc j D) tag∨(phi d.n (Vc j D) tag'=phi d.n (Vc j D) tag∧f'<f0)):∃m₁ ops μ',runT P (crowd gs B sl) 0=(.next m₁,ops)∧Lt2 μ' (muP d j D tag f0 q)∧cg P P1 d s t0 B0 μ' m₁ (t++ops):=by
 rcases hB with rfl|⟨c,v,hc,rfl⟩
 ·exact h.step0 hs hd hgo h.mem (fun p _ _=>⟨Bel.refl _ _,rfl⟩) (fun _ _=>ConcN.RW.refl _) (hs' _ _ (h.mem.lk 0 (Nat.zero_le _)) rfl (Bel.refl _ _)) (Nat.le_refl _) (fun b=>.inl rfl) hes hwg h.dead hmode hacq hlt
 ·have k:=Kept.setCell B c v true
  have hsz:(B.setCell c v).heap.size=B.heap.size:=by simp[World.setCell]
  have hM:=h.mem.lib hd h.jn (p:=0) (Nat.zero_le _) k hsz (fun e he hw=>by simp at he;subst he;exact⟨c,rfl,.inl hc⟩);have hAs:=aside_setCell B c v;rw[hc] at hAs;exact h.step0 hs hd hgo hM (fun p _ _=>⟨og,rfl⟩) (fun _ _=>ConcN.RW.of_wg hAs ⟨_,_,hwg⟩ hd.ne) (hs' _ _ (hM.lk 0 (Nat.zero_le _)) rfl og) (by rw[hsz];exact Nat.le_refl _) (fun b=>.inl rfl) hes hwg (h.uq k) hmode hacq hlt
omit [Payload] [Xf] in
theorem I8{r:Rts}{n:Nat}{w w':World}(hD:DL d.Wg w w' es)(hn:d.Wg<n):∀e∈es,EvS d r 0 n e:=by
 intro e he
 rcases hD.2 e he with rfl|rfl
 ·refine⟨fun x hx=>.inl ?_,hn,by simp[mk]⟩;simp only[mk,MemAct.ofEvent,MemAct.touch?,Option.some.injEq] at hx;subst hx;exact⟨⟨smA d.Wg,rfl,rfl⟩,by simp,fun _=>rfl⟩
 ·refine⟨fun x hx=>.inl ?_,hn,by simp[mk]⟩;simp only[mk,MemAct.ofEvent,MemAct.touch?,Option.some.injEq] at hx;subst hx;exact⟨⟨smA d.Wg,rfl,rfl⟩,by simp,fun _=>rfl⟩
omit [Payload] [Xf] in
theorem I9{w w':World}(hD:DL d.Wg w w' es)(n:Nat):deafBehind n es=n:=
 ConcN.deafBehind_idle (fun e he=>by rcases hD.2 e he with rfl|rfl<;>simp[mk]) n
theorem PI.idleC(hs:dm P P1 d s)(hd:dc d)(h:PI P P1 d s t0 B0 gs B j D tag f0 d0 a q own lo S A st sm t){B':World}(hgo:stepG P true a B=.go a' B' es)(hD:DL d.Wg B B' es)(hs':StS P P1 d s lo tag j f' d0 a' (S 0) (A 0) B)(hf:f'<f0):∃m₁ ops μ',runT P (crowd gs B sl) 0=(.next m₁,ops)∧Lt2 μ' (muP d j D tag f0 q)∧cg P P1 d s t0 B0 μ' m₁ (t++ops):=by
 have hdf:=I9 hD d0
 have hW:d.Wg<B.heap.size:=by have:=h.mem.size;have:=hd.wg;omega
 obtain⟨rfl,_⟩:=id hD;exact h.step0 hs hd hgo h.mem (fun p _ _=>⟨Bel.refl _ _,rfl⟩) (fun _ _=>ConcN.RW.refl _) (by rw[hdf];exact hs') (Nat.le_refl _) (fun b=>.inl rfl) (I8 hD hW) h.wg h.dead h.mode
  (fun e=>(h.acq e).app fun i r _ hr=>hr.appOther g_of_ofEvents (by have:=hd.e0;omega)) (.inr ⟨rfl,hf⟩)
theorem PI.EZ(h:PI P P1 d s t0 B0 gs B j D tag f0 d0 a q own lo S A st sm t)(hw:StS P P1 d s lo tag' j f' d0 a (S 0) (A 0) B)(hm:ConcN.Mode j D tag' st sm)(hne:tag'≠.ret):PI P P1 d s t0 B0 gs B j D tag' f' d0 a q own lo S A st sm t:=
 ⟨h.size,h.zero,hw,h.eld,h.wk,h.mem,h.trc,h.wg,hm,fun e=>absurd e hne,h.jn,h.dead⟩
omit [Payload] [Xf] in
theorem BX(hlt:phi d.n (Vc j D) tag'<phi d.n (Vc j D) tag∨(phi d.n (Vc j D) tag'=phi d.n (Vc j D) tag∧f'≤f0)){μ:Nat×Nat}(h:Lt2 μ (muP d j D tag' f' q)):Lt2 μ (muP d j D tag f0 q):=by
 obtain⟨x,y⟩:=μ;simp only[muP] at h ⊢
 rcases hlt with hlt|⟨h1,h2⟩
 ·cases h with
  |left _ _ h=>exact Prod.Lex.left _ _ (by omega)
  |right _ h=>exact Prod.Lex.left _ _ (by omega)
 ·rw[h1] at h
  cases h with
  |left _ _ h=>exact Prod.Lex.left _ _ h
  |right _ h=>exact Prod.Lex.right _ (by omega)
theorem PI.tn0(hs:dm P P1 d s)(hd:dc d)(hc:∀l k,@iB _ (a7 l d.F k) P1 P bad)(h:PI P P1 d s t0 B0 gs B j D tag f0 0 a q own lo S A st sm t){Φ:Frame→List Frame→World→Prop}(hb:∀f args cs w,¬Φ (Frame.enter P1 f args .normal) cs w)(hcs:∀fr cs w,Φ fr cs w→cs=s.base)(hst:∀fr cs w w1,Φ fr cs w→Bel w.heap.size w w1→Φ fr cs w1){N l:Nat}{fr:Frame}{cs:List Frame}(ha:a=G fr cs)(hsh:bQ P1 P (S 0) s.base fr cs (A 0) B)(hl0:d.lo0≤l)(hlq:∀x,1≤x→x≤j→lo x≤l)(hT:@TN (a7 l d.F d.n) P1 s.base.length s.base.length Φ N fr cs (A 0))(hret:tag≠.ret)(hmk:∀N' fr' cs' S' A' B',N=N'+1→bQ P1 P S' s.base fr' cs' A' B'→@TN (a7 l d.F d.n) P1 s.base.length s.base.length Φ N' fr' cs' A'→∃f',f'<f0∧StS P P1 d s lo tag j f' 0 (G fr' cs') S' A' B'):Φ fr cs (A 0)∨∃m₁ ops μ',runT P (crowd gs B sl) 0=(.next m₁,ops)∧Lt2 μ' (muP d j D tag f0 q)∧cg P P1 d s t0 B0 μ' m₁ (t++ops):=by
 cases N with
 |zero=>exact .inl hT
 |succ N=>
  have hfine:∀w es,@EnvD.D (a7 l d.F d.n) w es→∀e∈es,(S 0).cP e:=by
   intro w es hD e he x hx hp;have hx2:EvD l d.F d.n e:=hD e he;have hbF:=h.mem.jA 0 (Nat.zero_le _) _ _ hp
   rcases hx2 with ⟨a',hl,hf,_⟩|⟨m,hl⟩
   ·rw[hx] at hl;cases hl;rw[hbF,hf hbF] at hp;exact h.mem.oT hp
   ·rw[hx] at hl;cases hl
  rcases @xC _ (a7 l d.F d.n) P1 P bad (S 0) s.base Φ (hc _ _) true (.inl rfl) hfine (fun f args cs w _ hw=>hb _ _ _ _ hw) (fun fr cs w hlt hw=>by rw[hcs _ _ _ hw] at hlt;omega) fr cs (A 0) B N hsh hT with hw|⟨fr',cs',A',B',es,hgo,hsh',⟨A2,e1,e2,e3,hT'⟩,htp,hk,hev,⟨A1,e4,hD⟩,hsz⟩
  ·exact .inl hw
  ·right
   have hsl:slot d 0=d.n:=by simp[slot]
   have hDs:∀e∈es,EvD l d.F (slot d 0) e:=fun e he=>by rw[hsl];exact hD e he
   have hwr:=EM (B':=B') h.mem hd (p:=0) (Nat.zero_le _) (l:=l) (fun x=>absurd rfl x) (fun _=>⟨hl0,hlq⟩) hev hDs;have hM:=h.mem.EK hd h.jn (p:=0) (Nat.zero_le _) hk hwr hsh'.lk rfl rfl rfl;obtain⟨hwg',hRW⟩:=EY h.mem hd h.jn (p:=0) (Nat.zero_le _) h.wg hk hev hwr hM.pay
   have hev':∀e∈es,EvT ((fun q=>if q=0 then S 0 else (S q).grown B B') 0) B' e:=fun e he=>by simpa using hev e he
   have hT2:@TN (a7 l d.F d.n) P1 s.base.length s.base.length Φ N fr' cs' A':=
    @TN.rely (a7 l d.F d.n) _ _ _ _ lH hst _ _ _ _ _ hT' ⟨e2.symm,e3.symm,by rw[e1];exact Nat.le_refl _,fun b _=>by rw[e1]⟩
   obtain⟨f',hf',hSt⟩:=hmk N fr' cs' (S 0) A' B' rfl hsh' hT2;have hdf:deafBehind 0 es=0:=ConcN.deafBehind_idle (fun e he=>by rcases hev e he with ⟨a,wr,rfl,_⟩|⟨r,wr,sy,rfl,_⟩|rfl<;>simp) 0;refine h.step0 hs hd (by rw[ha];exact hgo) hM (fun p hp hne=>?_) (fun i hi=>hRW i hi (by omega)) ?_ hk.size (fun b=>?_) (fun e he=>EL hM hd h.jn (p:=0) (Nat.zero_le _) (l:=l) (fun x=>absurd rfl x) (fun _=>hlq) (hev' e he) (hDs e he)) hwg' (h.uq hk) h.mode (fun e=>absurd e hret) (.inr ⟨rfl,hf'⟩)
   ·try dsimp only
    rw[if_neg hne,if_neg hne];exact⟨og,rfl⟩
   ·simp only[if_true,hdf];exact hSt
   ·try dsimp only
    split
    ·rename_i x;exact .inr ⟨x.1,rfl⟩
    ·exact .inl rfl
theorem PI.spawn(hs:dm P P1 d s)(hd:dc d){r:Nat}(hr:r<d.n){fr:Frame}(h:PI P P1 d s t0 B0 gs B (d.n-(r+1)) D (.sp r 1) f0 0 (G fr s.base) q own lo S A st sm t)(hsh:bQ P1 P (S 0) s.base fr s.base (A 0) B)(hI:s.I2 (d.n-(r+1)) fr (A 0)):∃m₁ ops μ',runT P (crowd gs B sl) 0=(.next m₁,ops)∧Lt2 μ' (muP d (d.n-(r+1)) D (.sp r 1) f0 q)∧cg P P1 d s t0 B0 μ' m₁ (t++ops):=by
 generalize hj:d.n-(r+1)=j at *
 have hjn:j<d.n:=by omega
 have he0:=hd.e0;have hrun:=runT_crowd_spawn (P:=P) (sl:=sl) (i:=0) h.zero (by simpa using hs.go j fr _ hI B);rw[h.size] at hrun
 have hown:∀b,own b≤j:=fun b=>by
  by_cases e:own b=0
  ·omega
  ·exact (h.mem.nG b e).2.2
 have hF0:=zh h.mem hd
 have hdead:∀b,d.dead b∨b=d.Wg→bI B b:=fun b hb=>hb.elim (h.dead b) fun e=>e▸⟨_,_,_,h.wg⟩
 have hFd:¬(d.dead d.F∨d.F=d.Wg∨(own d.F≠0∧bI B d.F)):=by
  rintro (x|x|⟨x,_⟩)
  ·exact (hd.dead _ x).2.1 rfl
  ·exact hd.ne x
  ·exact x hF0
 obtain⟨cF,hcF,hnF⟩:=h.mem.pay;have hszA:(A 0).heap.size=B.heap.size:=(h.mem.lk 0 (Nat.zero_le _)).size;obtain⟨Nw,hTw⟩:=hs.work j fr _ hI (mkA (Cc P1 P) (fun b=>d.dead b∨b=d.Wg∨(own b≠0∧bI B b)) B) (fun a v hb hc=>h.mem.toChild hb hc) (by rw[cE,hszA]) ⟨cF,mV hFd hcF,hnF⟩ (sT (a:=⟨d.F,j,none⟩) hFd (h.mem.init j (Nat.le_refl _) hjn));rw[cE] at hTw;obtain⟨mb,hbeg⟩:=hs.beg j fr _ hI B;obtain⟨Nn,hTn⟩:=hs.next j fr _ hI hjn B.heap.size h.mem.size (by rw[hszA];exact Nat.le_refl _);have hF:=Trc.fork (sz:=B.heap.size) (m:=mb+Nw+s.K7+2) (by have:=h.trc;rw[h.size] at this;exact this) hd hown hF0 (x:={ g:=0,fn:=fr.fn,pos:=fr.place,act:=.go (d.e0+j)}) (y:={ g:=d.e0+j,fn:=(s.child j fr).frame.fn,pos:=fr.place,act:=.start }) ⟨rfl,rfl⟩ ⟨rfl,rfl⟩
 obtain⟨lo',S',A',hM,hF,hold,hlo',hSp,hlkW⟩:∃(lo':Nat→Nat)(S':Nat→Sh)(A':Nat→World),Mem (Cc P1 P) d (j+1) own lo' S' A' B B0 ∧
  Trc d (j+1) own lo' (d.e0+(j+1)) t0 (t++#[{ g:=0,fn:=fr.fn,pos:=fr.place,act:=.go (d.e0+j)},{ g:=d.e0+j,fn:=(s.child j fr).frame.fn,pos:=fr.place,act:=.start }]) B.heap.size (upd D j ⟨7,mb+Nw+s.K7+2,0⟩) 0 ∧
  (∀x,x≠j+1→lo' x=lo x∧S' x=S x∧A' x=A x)∧lo' (j+1)=B.heap.size∧¬(S' (j+1)).part d.F j∧A' (j+1)=mkA (Cc P1 P) (fun b=>d.dead b∨b=d.Wg∨(own b≠0∧bI B b)) B:=
  ⟨_,_,_,h.mem.spawn hd hjn hdead,hF,fun x hx=>by simp[hx],by simp,by simp,by simp⟩
 rw[←hlkW,←hlo'] at hTw;have hlk:=hM.lk (j+1) (Nat.le_refl _);clear hlkW;obtain⟨ho,hst,hsm,_⟩:=h.mode.open_inv trivial
 have eV:Vc (j+1) (upd D j ⟨7,mb+Nw+s.K7+2,0⟩)=Vc j D+1:=by
  simp only[Vc,sumTo,upd_same];rw[sumTo_upd_out D _ cnt (Nat.le_refl _)];rfl
 have eS:Ssum (j+1) (upd D j ⟨7,mb+Nw+s.K7+2,0⟩)=Ssum j D+7:=by
  simp only[Ssum,sumTo,upd_same];rw[sumTo_upd_out D _ WD.stage (Nat.le_refl _)]
 have ho':OpenSt (j+1) (upd D j ⟨7,mb+Nw+s.K7+2,0⟩):=fun i hi=>by
  by_cases e:i=j
  ·subst e;rw[upd_same];simp
  ·rw[upd_ne D _ e];exact ho i (by omega)
 have hsz:((gs.setIfInBounds 0 (G (fr.finish undef) s.base)).push (s.child j fr)).size=d.e0+(j+1):=by simp[h.size];omega
 have ops:(((MemOp.ofEvents 0 (G fr s.base).frame.fn (G fr s.base).frame.place #[]).push { g:=0,fn:=(G fr s.base).frame.fn,pos:=(G fr s.base).frame.place,act:=.go (d.e0+j)}).push { g:=d.e0+j,fn:=(s.child j fr).frame.fn,pos:=(G fr s.base).frame.place,act:=.start })=#[{ g:=0,fn:=fr.fn,pos:=fr.place,act:=.go (d.e0+j)},{ g:=d.e0+j,fn:=(s.child j fr).frame.fn,pos:=fr.place,act:=.start }]:=by
  rw[xE];rfl
 rw[ops] at hrun;obtain⟨l0,s0,a0⟩:=hold 0 (by omega)
 have hsh':bQ P1 P (S' 0) s.base (fr.finish undef) s.base (A' 0) B:=by
  rw[s0,a0];exact⟨⟨[],rfl,by simp,by simp⟩,hsh.ok.finish undef,hsh.lk⟩
 rw[←a0] at hTn
 have hlq:∀x,1≤x→x≤j+1→lo' x≤B.heap.size:=fun x h1 h2=>(hM.kU x h1 h2).2
 have key:∀(tag':CTag)(f':Nat),isOpen tag'→pend tag'=0→(∀vs,tag'≠.w2 vs)→phi d.n (Vc (j+1) (upd D j ⟨7,mb+Nw+s.K7+2,0⟩)) tag'+Ssum (j+1) (upd D j ⟨7,mb+Nw+s.K7+2,0⟩)<phi d.n (Vc j D) (.sp r 1)+Ssum j D →
  StS P P1 d s lo' tag' (j+1) f' 0 (G (fr.finish undef) s.base) (S' 0) (A' 0) B →
  ∃m₁ ops μ',runT P (crowd gs B sl) 0=(.next m₁,ops)∧Lt2 μ' (muP d j D (.sp r 1) f0 q)∧cg P P1 d s t0 B0 μ' m₁ (t++ops):=by
  intro tag' f' hop hp0 hw2 hphi hStS;refine⟨_,_,muP d (j+1) (upd D j ⟨7,mb+Nw+s.K7+2,0⟩) tag' f' q,hrun,Prod.Lex.left _ _ hphi,_,B,sl,j+1,_,tag',f',0,_,q,own,lo',S',A',st,sm,rfl,⟨hsz,?_,hStS,fun k hk0 hk=>?_,fun i hi=>?_,hM,by rw[hsz];exact hF,h.wg,?_,fun e=>?_,hjn,h.dead⟩,rfl⟩
  ·rw[Array.getElem?_push_lt (by simp[h.size];omega),←Array.getElem?_eq_getElem,Array.getElem?_setIfInBounds_self_of_lt (by rw[h.size];omega)]
  ·obtain⟨x,hx,hq⟩:=h.eld k hk0 hk;refine⟨x,?_,?_⟩
   ·rw[Array.getElem?_push_lt (by simp[h.size];omega),←Array.getElem?_eq_getElem,Array.getElem?_setIfInBounds_ne (by omega)];exact hx
   ·rw[ConcN.Deaf_still t k _ (fun op hop=>by simp at hop;rcases hop with rfl|rfl<;>simp)];exact hq
  ·rcases Nat.lt_or_ge i j with hlt|hge
   ·obtain⟨x,hx,hsx⟩:=h.wk i hlt;refine⟨x,?_,?_⟩
    ·rw[Array.getElem?_push_lt (by simp[h.size];omega),←Array.getElem?_eq_getElem,Array.getElem?_setIfInBounds_ne (by omega)];exact hx
    ·rw[upd_ne D _ (by omega)];obtain⟨l1,s1,a1⟩:=hold (i+1) (by omega);rw[l1,s1,a1];exact hsx
   ·obtain rfl:i=j:=by omega
    refine⟨s.child i fr,?_,?_⟩
    ·rw[show d.e0+i=(gs.setIfInBounds 0 (G (fr.finish undef) s.base)).size by simp[h.size],Array.getElem?_push_size]
    ·rw[upd_same];exact .b0 hbeg ⟨⟨[],rfl,by simp,by simp⟩,hs.wok i fr _ hI,hlk⟩ hSp hTw
  ·rw[hst,hsm,show Vc j D+pend (.sp r 1)=Vc (j+1) (upd D j ⟨7,mb+Nw+s.K7+2,0⟩)+pend tag' by rw[eV,hp0];simp[pend]];exact .opn hop ho' (fun vs e=>absurd e (hw2 vs))
  ·subst e;exact hop.elim
 cases r with
 |zero=>
  have e1:j+1=d.n:=by omega
  refine key .kd (Nn+s.NK+1) trivial rfl (by simp) (by rw[eS];simp only[phi];omega) ?_
  have hn:¬(j+1<d.n):=by omega
  simp only[if_neg hn] at hTn;have:=StS.pk (lo:=lo') hsh' h.mem.size (fun x h1 h2=>hlq x h1 (by omega)) hTn;rw[←e1] at this;exact this
 |succ r=>
  have e1:d.n-(r+1)=j+1:=by omega
  refine key (.sp r 6) Nn trivial rfl (by simp) (by rw[eS];simp only[phi];omega) ?_
  have hn:(j+1<d.n):=by omega
  simp only[if_pos hn] at hTn;have:=StS.p6 (r:=r) (lo:=lo') (s:=s) (d:=d) (by omega) hsh' h.mem.size (fun x h1 h2=>hlq x h1 (by omega)) (by rw[e1];exact hTn);rw[e1] at this;exact this
end
end Go.Fc
namespace Go.Fc
open Go Go.Conc Go.Fi
open Go.ConcN (PayAt Has RW WgLive WSit CTag WD upd upd_ne upd_same RelBy phi Vc Ssum Fsum cnt sumTo ShN Vc_le isW3 isOpen isFin pend OpenSt AllQuit bk_cell bk_dis bk_en bk_rd bk_rw bk_sem allQuit_of lt2_trans exists_counted)
open Go.ConcR (KK WgAt stA smA rd wr mk Payload DC0 g_of_ofEvents Bk ofEvent_mk)
section
variable[Payload][Xf]{P P1:Program}{d:PhD}{s:Script}{t0:Trace}{B0:World}{gs:Array Goroutine}{B:World}{sl:Option (Nat×Nat)}{q:Nat→Nat}{own lo:Nat→Nat}{S:Nat→Sh}{A:Nat→World}{st sm:Int}{t:Trace}{bad:Nat→Prop}
def zm(P P1:Program)(d:PhD)(s:Script)(t0:Trace)(B0:World)(m:Machine)(t:Trace):Prop:=
 ∃gs B sl D f0 fr q own lo S A st sm,m=crowd gs B sl∧PI P P1 d s t0 B0 gs B d.n D .ret f0 0 (dR s fr) q own lo S A st sm t∧s.I3 fr (A 0)∧bD P1 P fr
theorem PI.starter(hs:dm P P1 d s)(hd:dc d)(hc:∀l k,@iB _ (a7 l d.F k) P1 P bad){j:Nat}{D:Nat→WD}{tag:CTag}{f0 d0:Nat}{a:Goroutine}(h:PI P P1 d s t0 B0 gs B j D tag f0 d0 a q own lo S A st sm t)(hrun:a.status=.running):zm P P1 d s t0 B0 (crowd gs B sl) t∨∃m₁ ops μ',runT P (crowd gs B sl) 0=(.next m₁,ops)∧Lt2 μ' (muP d j D tag f0 q)∧cg P P1 d s t0 B0 μ' m₁ (t++ops):=by
 have hVj:=Vc_le j D;have hn:=hd.n
 have hWlt:d.Wg<B.heap.size:=by have:=h.mem.size;have:=hd.wg;omega
 have hjn:=h.jn;have he0:=hd.e0
 have hb1:∀j f args cs w,¬(cs=s.base∧s.I1 j (Frame.enter P1 f args .normal) w):=fun j f args cs w x=>hs.ER _ _ _ _ _ x.2 rfl
 have hb2:∀j f args cs w,¬(cs=s.base∧s.I2 j (Frame.enter P1 f args .normal) w):=fun j f args cs w x=>hs.ES _ _ _ _ _ x.2 rfl
 have hb3:∀f args cs w,¬(cs=s.base∧s.I3 (Frame.enter P1 f args .normal) w):=fun f args cs w x=>hs.ET _ _ _ _ x.2 rfl
 have bk:∀{es:Array Event}{n:Nat},d.Wg<n→(∀e∈es,Bk d.Wg e)→∀e∈es,EvS d (rts d own lo j) 0 n e:=fun hn hb e he=>sU (hb e he) hn
 have hszC:∀(c:Addr)(v:Value),(B.setCell c v).heap.size=B.heap.size:=fun c v=>by simp[World.setCell]
 have cP1:∀{r N l f1:Nat}{fr:Frame}{cs:List Frame},r<d.n→PI P P1 d s t0 B0 gs B (d.n-(r+1)) D (.sp r 1) f1 0 (G fr cs) q own lo S A st sm t→N=f1→bQ P1 P (S 0) s.base fr cs (A 0) B→d.lo0≤l→(∀x,1≤x→x≤d.n-(r+1)→lo x≤l) →
  @TN (a7 l d.F d.n) P1 s.base.length s.base.length (fun fr' cs' A'=>cs'=s.base∧s.I2 (d.n-(r+1)) fr' A') N fr cs (A 0)→∃m₁ ops μ',runT P (crowd gs B sl) 0=(.next m₁,ops)∧Lt2 μ' (muP d (d.n-(r+1)) D (.sp r 1) f1 q)∧cg P P1 d s t0 B0 μ' m₁ (t++ops):=by
  intro r N l f1 fr cs hr h hN hsh hl0 hlq hT
  rcases h.tn0 hs hd hc (sl:=sl) (hb2 _) (fun _ _ _ x=>x.1) (fun _ _ _ _ x e=>⟨x.1,hs.st2 _ _ _ _ x.2 e⟩) rfl hsh hl0 hlq hT (by simp) (fun N' fr' cs' S' A' B' e hs' hT'=>⟨N',by omega,.p1 hr hs' hl0 hlq hT'⟩) with ⟨rfl,hI⟩|x
  ·exact h.spawn hs hd hr hsh hI
  ·exact x
 have cW1:∀{f1:Nat}{fr:Frame}{g:Goroutine},PI P P1 d s t0 B0 gs B d.n D .w1 f1 1 g q own lo S A st sm t→bQ P1 P (S 0) s.base fr s.base (A 0) B→s.I3 fr (A 0)→GL P d.ty d.Wg (Wt1 P d.ty d.Wg (dR s fr) (s.fQ fr)) f1 g B →
  ∃m₁ ops μ',runT P (crowd gs B sl) 0=(.next m₁,ops)∧Lt2 μ' (muP d d.n D .w1 f1 q)∧cg P P1 d s t0 B0 μ' m₁ (t++ops):=by
  intro f1 fr g h hsh hI hG;have hVn:=Vc_le d.n D
  rcases Goes.cases hG with hstop|⟨m',rfl,hstep⟩
  ·obtain⟨_,hall⟩:=hstop B (RL.refl B);obtain⟨ho,e1,e2,_⟩:=h.mode.open_inv trivial;have hwg:=h.wg;rw[e1,e2] at hwg;obtain⟨a',hgo,h0,hne⟩:=hall (Vc d.n D) (by omega) (by simpa[pend] using hwg);by_cases hv:Vc d.n D=0
   ·obtain⟨m2,hk⟩:=h0 hv;refine h.bookC hs hd hgo (.inl rfl) (tag':=.ke) (f':=m2) (fun S' A' hl _ hA=>.ke (hsh.ck hl) (hs.st3 _ _ _ hI hA) hk) (fun e he=>sU (bk_rd e he) hWlt) hwg ?_ (by simp) (.inl (by simp only[phi];omega))
    have e:((Vc d.n D+pend .w1:Nat):Int)*KK=0:=by rw[hv];simp[pend]
    rw[e];exact .fin trivial (allQuit_of ho hv)
   ·obtain⟨m2,hk⟩:=hne hv;exact h.bookC hs hd hgo (.inl rfl) (tag':=.w2 (Vc d.n D)) (f':=m2) (fun S' A' hl _ hA=>.w2 (hsh.ck hl) (hs.st3 _ _ _ hI hA) hk) (fun e he=>sU (bk_rd e he) hWlt) h.wg (h.mode.reopen trivial trivial rfl (fun vs e=>by cases e;omega)) (by simp) (.inl (by simp only[phi];omega))
  ·obtain⟨g',w',es,hgo,hD,hg'⟩:=hstep B (RL.refl B);exact h.idleC hs hd hgo hD (f':=m') (.w1 hsh hI (hD.1▸hg')) (by omega)
 have hst:=h.start
 cases hst with
 |p6 h1 hsh hl0 hlq hT=>
  rename_i r l fr cs;right
  rcases h.tn0 hs hd hc (sl:=sl) (hb1 _) (fun _ _ _ x=>x.1) (fun _ _ _ _ x e=>⟨x.1,hs.st1 _ _ _ _ x.2 e⟩) rfl hsh hl0 hlq hT (by simp) (fun N' fr' cs' S' A' B' e hs' hT'=>⟨N',by omega,.p6 h1 hs' hl0 hlq hT'⟩) with ⟨rfl,hI⟩|x
  ·obtain⟨m2,hk⟩:=hs.add _ _ _ hI B ⟨_,_,h.wg⟩;exact h.bookC hs hd (hs.EO _ _ _ hI B) (.inl rfl) (tag':=.sp r 5) (f':=m2) (fun S' A' hl _ hA=>.l5 h1 (hsh.ck hl) (hs.st1 _ _ _ _ hI hA) hk) (by simp) h.wg (h.mode.reopen trivial trivial rfl (by simp)) (by simp) (.inl (by simp only[phi];omega))
  ·exact x
 |l5 h1 hsh hI hG=>
  rename_i r fr;right
  rcases Goes.cases hG with hstop|⟨m',rfl,hstep⟩
  ·obtain⟨_,a',hgo,m2,hk⟩:=hstop B (RL.refl B);exact h.bookC hs hd hgo (.inl rfl) (tag':=.sp r 4) (f':=m2) (fun S' A' hl _ hA=>.l4 h1 (hsh.ck hl) (hs.st1 _ _ _ _ hI hA) hk) (bk hWlt bk_dis) h.wg (h.mode.reopen trivial trivial rfl (by simp)) (by simp) (.inl (by simp only[phi];omega))
  ·obtain⟨g',w',es,hgo,hD,hg'⟩:=hstep B (RL.refl B);exact h.idleC hs hd hgo hD (f':=m') (.l5 h1 hsh hI (hD.1▸hg')) (by omega)
 |l4 h1 hsh hI hG=>
  rename_i r fr;right
  rcases Goes.cases hG with hstop|⟨m',rfl,hstep⟩
  ·obtain⟨_,hall⟩:=hstop B (RL.refl B);obtain⟨ho,e1,e2,_⟩:=h.mode.open_inv trivial;have hwg:=h.wg;rw[e1,e2] at hwg;obtain⟨a',hgo,m2,hk⟩:=hall (Vc (d.n-(r+1)) D) (by omega) (by simpa[pend] using hwg);refine h.bookC hs hd hgo (.inr ⟨stA d.Wg,_,rfl,rfl⟩) (tag':=.sp r 3) (f':=m2) (fun S' A' hl _ hA=>.l3 h1 (hsh.ck hl) (hs.st1 _ _ _ _ hI hA) hk) (bk (by rw[hszC];exact hWlt) bk_rw) (hwg.setSt _) ?_ (by simp) (.inl (by simp only[phi];omega))
   have e:(((Vc (d.n-(r+1)) D:Nat):Int)+1)*KK=((Vc (d.n-(r+1)) D+pend (.sp r 3):Nat):Int)*KK:=by simp[pend]
   rw[e];exact .opn trivial ho (by simp)
  ·obtain⟨g',w',es,hgo,hD,hg'⟩:=hstep B (RL.refl B);exact h.idleC hs hd hgo hD (f':=m') (.l4 h1 hsh hI (hD.1▸hg')) (by omega)
 |l3 h1 hsh hI hG=>
  rename_i r fr;right
  rcases Goes.cases hG with hstop|⟨m',rfl,hstep⟩
  ·obtain⟨_,a',hgo,m2,hk⟩:=hstop B (RL.refl B);exact h.bookC hs hd hgo (.inl rfl) (tag':=.sp r 2) (f':=m2) (fun S' A' hl _ hA=>.l2 h1 (hsh.ck hl) (hs.st1 _ _ _ _ hI hA) hk) (bk hWlt bk_en) h.wg (h.mode.reopen trivial trivial rfl (by simp)) (by simp) (.inl (by simp only[phi];omega))
  ·obtain⟨g',w',es,hgo,hD,hg'⟩:=hstep B (RL.refl B);exact h.idleC hs hd hgo hD (f':=m') (.l3 h1 hsh hI (hD.1▸hg')) (by omega)
 |l2 h1 hsh hI hG=>
  rename_i r fr;right
  rcases Goes.cases hG with hstop|⟨m',rfl,hstep⟩
  ·have ha:a=dR s fr:=hstop B (RL.refl B);subst ha
   have hjl:d.n-(r+1)<d.n:=by omega
   obtain⟨N,hT⟩:=hs.mid _ _ _ hI hjl B.heap.size;have hsh':bQ P1 P (S 0) s.base (fr.finish (.tuple #[])) s.base (A 0) B:=⟨⟨[],rfl,by simp,by simp⟩,hsh.ok.finish _,hsh.lk⟩
   have hlq:∀x,1≤x→x≤d.n-(r+1)→lo x≤B.heap.size:=fun x y1 y2=>(h.mem.kU x y1 y2).2
   have h':=h.EZ (tag':=.sp r 1) (.p1 h1 hsh' h.mem.size hlq hT) (h.mode.reopen trivial trivial rfl (by simp)) (by simp);obtain⟨m₁,ops,μ',x1,x2,x3⟩:=cP1 h1 h' rfl hsh' h.mem.size hlq hT;exact⟨m₁,ops,μ',x1,BX (.inl (by simp only[phi];omega)) x2,x3⟩
  ·obtain⟨g',w',es,hgo,hD,hg'⟩:=hstep B (RL.refl B);exact h.idleC hs hd hgo hD (f':=m') (.l2 h1 hsh hI (hD.1▸hg')) (by omega)
 |p1 h1 hsh hl0 hlq hT=>exact .inr (cP1 h1 h rfl hsh hl0 hlq hT)
 |pk hsh hl0 hlq hT=>
  rename_i N l fr cs;right
  rcases h.tn0 hs hd hc (sl:=sl) hb3 (fun _ _ _ x=>x.1) (fun _ _ _ _ x e=>⟨x.1,hs.st3 _ _ _ x.2 e⟩) rfl hsh hl0 hlq hT (by simp) (fun N' fr' cs' S' A' B' e hs' hT'=>⟨N'+s.NK+1,by omega,.pk hs' hl0 hlq hT'⟩) with ⟨rfl,hI⟩|x
  ·have hk:=hs.kX _ _ hI B ⟨_,_,h.wg⟩;exact h.bookC hs hd (hs.call3 _ _ hI B) (.inl rfl) (tag':=.kd) (f':=s.NK) (fun S' A' hl _ hA=>.kd (hsh.ck hl) (hs.st3 _ _ _ hI hA) (Nat.le_refl _) hk) (by simp) h.wg (h.mode.reopen trivial trivial rfl (by simp)) (by simp) (.inr ⟨rfl,by omega⟩)
  ·exact x
 |kd hsh hI hm hG=>
  rename_i fr;right
  rcases Goes.cases hG with hstop|⟨m',rfl,hstep⟩
  ·obtain⟨_,a',hgo,m2,hk⟩:=hstop B (RL.refl B);exact h.bookC hs hd hgo (.inl rfl) (tag':=.anch) (f':=m2) (fun S' A' hl _ hA=>.anch (hsh.ck hl) (hs.st3 _ _ _ hI hA) hk) (bk hWlt bk_dis) h.wg (h.mode.reopen trivial trivial rfl (by simp)) (by simp) (.inl (by simp only[phi];omega))
  ·obtain⟨g',w',es,hgo,hD,hg'⟩:=hstep B (RL.refl B);exact h.idleC hs hd hgo hD (f':=m') (.kd hsh hI (by omega) (hD.1▸hg')) (by omega)
 |anch hsh hI hG=>
  rename_i fr;right
  rcases Goes.cases hG with hstop|⟨m',rfl,hstep⟩
  ·obtain⟨m2,hk⟩:=hs.anch _ _ _ _ hI (hstop B (RL.refl B));have h':=h.EZ (tag':=.w1) (.w1 hsh hI hk) (h.mode.reopen trivial trivial rfl (by simp)) (by simp);obtain⟨m₁,ops,μ',x1,x2,x3⟩:=cW1 h' hsh hI hk;exact⟨m₁,ops,μ',x1,BX (.inl (by simp only[phi];omega)) x2,x3⟩
  ·obtain⟨g',w',es,hgo,hD,hg'⟩:=hstep B (RL.refl B);exact h.idleC hs hd hgo hD (f':=m') (.anch hsh hI (hD.1▸hg')) (by omega)
 |w1 hsh hI hG=>exact .inr (cW1 h hsh hI hG)
 |w2 hsh hI hG=>
  rename_i vs fr;right
  rcases Goes.cases hG with hstop|⟨m',rfl,hstep⟩
  ·obtain⟨_,hall⟩:=hstop B (RL.refl B);obtain⟨ho,e1,e2,hw2⟩:=h.mode.open_inv trivial;have hwg:=h.wg;rw[e1,e2] at hwg;obtain⟨hle,h1⟩:=hw2 vs rfl;obtain⟨hhit,hmiss⟩:=hall (Vc d.n D) (by omega) (by simpa[pend] using hwg);by_cases e:Vc d.n D=vs
   ·obtain⟨a',hgo,m2,hk⟩:=hhit e;exact h.bookC hs hd hgo (.inr ⟨stA d.Wg,_,rfl,rfl⟩) (tag':=.w3) (f':=m2+1) (fun S' A' hl _ hA=>.w3 (hsh.ck hl) (hs.st3 _ _ _ hI hA) hk) (bk (by rw[hszC];exact hWlt) bk_rw) (hwg.setSt _) (.reg trivial ho (by omega)) (by simp) (.inl (by simp only[phi];omega))
   ·obtain⟨a',hgo,m2,hk⟩:=hmiss e;exact h.bookC hs hd hgo (.inl rfl) (tag':=.anch) (f':=m2) (fun S' A' hl _ hA=>.anch (hsh.ck hl) (hs.st3 _ _ _ hI hA) hk) (bk hWlt bk_rd) h.wg (h.mode.reopen trivial trivial rfl (by simp)) (by simp) (.inl (by simp only[phi];omega))
  ·obtain⟨g',w',es,hgo,hD,hg'⟩:=hstep B (RL.refl B);exact h.idleC hs hd hgo hD (f':=m') (.w2 hsh hI (hD.1▸hg')) (by omega)
 |w3 hsh hI hG=>
  rename_i m fr;right
  rcases Goes.cases hG with hstop|⟨m',rfl,hstep⟩
  ·obtain⟨_,hoff,hblk,htake⟩:=hstop B (RL.refl B);have hwg:=h.wg;have hmode:=h.mode;have hB:∀w,RL d.ty d.Wg B w→Wt3 P d.ty d.Wg (dR s fr) a w:=hstop
   have goB:∀{st1:Int},WgAt d.ty d.Wg B st1 0→ConcN.Mode d.n D .blk st1 0→st1=st→(0:Int)=sm→∃m₁ ops μ',runT P (crowd gs B sl) 0=(.next m₁,ops)∧Lt2 μ' (muP d d.n D .w3 (m+1) q)∧cg P P1 d s t0 B0 μ' m₁ (t++ops):=by
    intro st1 hw hm e1 e2;subst e1;subst e2;exact h.bookC hs hd (hblk ⟨_,hw⟩) (.inl rfl) (tag':=.blk) (f':=0) (fun S' A' hl _ hA=>.blk (hsh.ck hl) (hs.st3 _ _ _ hI hA) hB) (by simp) hw hm (by simp) (.inr ⟨rfl,by omega⟩)
   cases hmode with
   |opn h1 _ _=>exact h1.elim
   |reg h1 h2 h3=>exact goB hwg (.reg trivial h2 h3) rfl rfl
   |last L h1 h2 h3 h4=>exact goB hwg (.last L trivial h2 h3 h4) rfl rfl
   |sema h2=>
    obtain⟨a',hgo,m2,hk⟩:=htake hwg;exact h.bookC hs hd hgo (.inr ⟨smA d.Wg,_,rfl,rfl⟩) (tag':=.w4) (f':=m2) (fun S' A' hl _ hA=>.w4 (hsh.ck hl) (hs.st3 _ _ _ hI hA) hk) (bk (by rw[hszC];exact hWlt) bk_sem) (hwg.setSm 0) (.fin trivial h2) (by simp) (.inl (by simp only[phi];omega))
   |fin h1 _=>exact h1.elim
  ·obtain⟨g',w',es,hgo,hD,hg'⟩:=hstep B (RL.refl B);exact h.idleC hs hd hgo hD (f':=m'+1) (.w3 hsh hI (hD.1▸hg')) (by omega)
 |blk=>simp at hrun
 |w4 hsh hI hG=>
  rename_i fr;right
  rcases Goes.cases hG with hstop|⟨m',rfl,hstep⟩
  ·obtain⟨_,hx⟩:=hstop B (RL.refl B);obtain⟨hq,e1,e2⟩:=h.mode.fin_inv trivial;have hwg:=h.wg;rw[e1,e2] at hwg;obtain⟨a',hgo,m2,hk⟩:=hx hwg;exact h.bookC hs hd hgo (.inl rfl) (tag':=.ke) (f':=m2) (fun S' A' hl _ hA=>.ke (hsh.ck hl) (hs.st3 _ _ _ hI hA) hk) (bk hWlt bk_rd) hwg (.fin trivial hq) (by simp) (.inl (by simp only[phi];omega))
  ·obtain⟨g',w',es,hgo,hD,hg'⟩:=hstep B (RL.refl B);exact h.idleC hs hd hgo hD (f':=m') (.w4 hsh hI (hD.1▸hg')) (by omega)
 |ke hsh hI hG=>
  rename_i fr;right
  rcases Goes.cases hG with hstop|⟨m',rfl,hstep⟩
  ·obtain⟨_,a',hgo,m2,hk⟩:=hstop B (RL.refl B);obtain⟨hq,e1,e2⟩:=h.mode.fin_inv trivial;have hwg:=h.wg;rw[e1,e2] at hwg;exact h.bookC hs hd hgo (.inl rfl) (tag':=.acq) (f':=m2) (fun S' A' hl _ hA=>.acq (hsh.ck hl) (hs.st3 _ _ _ hI hA) hk) (bk hWlt bk_en) hwg (.fin trivial hq) (by simp) (.inl (by simp only[phi];omega))
  ·obtain⟨g',w',es,hgo,hD,hg'⟩:=hstep B (RL.refl B);exact h.idleC hs hd hgo hD (f':=m') (.ke hsh hI (hD.1▸hg')) (by omega)
 |acq hsh hI hG=>
  rename_i fr;right
  rcases Goes.cases hG with hstop|⟨m',rfl,hstep⟩
  ·obtain⟨_,a',hgo,m2,hk⟩:=hstop B (RL.refl B);obtain⟨hq,e1,e2⟩:=h.mode.fin_inv trivial;have hwg:=h.wg;rw[e1,e2] at hwg;refine h.bookC hs hd hgo (.inl rfl) (tag':=.ret) (f':=m2) (fun S' A' hl _ hA=>.ret (hsh.ck hl) (hs.st3 _ _ _ hI hA) hk) (fun e he=>?_) hwg (.fin trivial hq) (fun _=>?_) (.inl (by simp only[phi];omega))
   ·simp at he;subst he;exact BV (m:=.acquire (stA d.Wg)) hWlt rfl (by simp)
   ·have e1:MemOp.ofEvents 0 a.frame.fn a.frame.place #[Go.ConcR.mk (.acquire (stA d.Wg))]=#[{ g:=0,fn:=a.frame.fn,pos:=a.frame.place,act:=.mark (.acquire (stA d.Wg))}]:=by rw[ofEvents_eq];simp[ofEvent_mk]
    have hy:(t++#[({ g:=0,fn:=a.frame.fn,pos:=a.frame.place,act:=.mark (.acquire (stA d.Wg))}:MemOp)])[t.size]?=some { g:=0,fn:=a.frame.fn,pos:=a.frame.place,act:=.mark (.acquire (stA d.Wg))}:=by simp
    refine⟨t.size,by rw[e1,act?_of hy],by rw[e1];simp[Trace.g?],by rw[e1];exact⟨0,by simp[Trace.g?],by rw[deaf_old (Nat.le_refl _)];exact h.trc.deaf0⟩,fun i hi=>?_⟩;obtain⟨r,hr⟩:=h.trc.rel i hi (by rw[hq i hi];omega);exact⟨r,hr.appOther g_of_ofEvents (by omega),lt_of_act? hr.act⟩
  ·obtain⟨g',w',es,hgo,hD,hg'⟩:=hstep B (RL.refl B);exact h.idleC hs hd hgo hD (f':=m') (.acq hsh hI (hD.1▸hg')) (by omega)
 |ret hsh hI hG=>
  rename_i fr
  rcases Goes.cases hG with hstop|⟨m',rfl,hstep⟩
  ·have ha:a=dR s fr:=hstop B (RL.refl B);subst ha;exact .inl ⟨gs,B,sl,D,f0,fr,q,own,lo,S,A,st,sm,rfl,h,hI,hsh.ok⟩
  ·right;obtain⟨g',w',es,hgo,hD,hg'⟩:=hstep B (RL.refl B);exact h.idleC hs hd hgo hD (f':=m') (.ret hsh hI (hD.1▸hg')) (by omega)
theorem Ja(hs:dm P P1 d s)(hd:dc d)(hc:∀l k,@iB _ (a7 l d.F k) P1 P bad){μ:Nat×Nat}{m:Machine}(h:cg P P1 d s t0 B0 μ m t):zm P P1 d s t0 B0 m t∨∃m' ops μ',stepT P m=(.next m',ops)∧Lt2 μ' μ∧cg P P1 d s t0 B0 μ' m' (t++ops):=by
 obtain⟨gs,B,sl,j,D,tag,f0,d0,a,q,own,lo,S,A,st,sm,rfl,h,rfl⟩:=h;have he0:=hd.e0
 have which:∀(i:Nat)(g:Goroutine),gs[i]?=some g→i=0∨(0<i∧i<d.e0)∨∃k,k<j∧i=d.e0+k:=fun i g hg=>by
  have:=(Array.getElem?_eq_some_iff.1 hg).1;rw[h.size] at this;by_cases h0:i=0
  ·exact .inl h0
  ·by_cases h1:i<d.e0
   ·exact .inr (.inl ⟨by omega,h1⟩)
   ·exact .inr (.inr ⟨i-d.e0,by omega,by omega⟩)
 have haw:∀g∈gs,awake g:=by
  intro g hg tm;obtain⟨i,hi⟩:=Array.mem_iff_getElem?.1 hg
  rcases which i g hi with rfl|⟨h1,h2⟩|⟨k,hk,rfl⟩
  ·rw[h.zero] at hi;cases hi
   rcases h.start.status hs with ⟨x,_⟩|⟨x,_⟩<;>rw[x]<;>simp
  ·obtain⟨g',hg',hq⟩:=h.eld i h1 h2;rw[hi] at hg';cases hg'
   rcases hq.status with x|x<;>rw[x]<;>simp
  ·obtain⟨g',hg',hw⟩:=h.wk k hk;rw[hi] at hg';cases hg'
   rcases hw.status with x|⟨x,_⟩<;>rw[x]<;>simp
 have hsome:∃(i:Nat)(g:Goroutine),gs[i]?=some g∧g.status=.running:=by
  rcases h.start.status hs with ⟨x,_⟩|⟨_,rfl⟩
  ·exact⟨0,a,h.zero,x⟩
  ·have hm:=h.mode
   have wrun:∀k,k<j→(D k).stage≠1→∃(i:Nat)(g:Goroutine),gs[i]?=some g∧g.status=.running:=fun k hk hne=>by
    obtain⟨g,hg,hw⟩:=h.wk k hk;exact⟨_,g,hg,hw.status.resolve_right fun x=>hne x.2⟩
   cases hm with
   |opn h1 _ _=>exact h1.elim
   |reg h1 _ h3=>
    obtain⟨i,hi,h5⟩:=exists_counted h3;exact wrun i hi (by omega)
   |last L h1 h2 h3 _=>exact wrun L h2 (by omega)
   |fin h1 _=>exact h1.elim
 obtain⟨i,g,dr,sl',hg,hrun,hstep⟩:=crowd_pick (P:=P) (w:=B) (sl:=sl) haw hsome;have h':=h.at hs dr
 rcases which i g hg with rfl|⟨h1,h2⟩|⟨k,hk,rfl⟩
 ·rw[h.zero] at hg;cases hg
  rcases h'.starter (sl:=sl') hs hd hc hrun with ⟨gs2,B2,sl2,D2,f2,fr,q2,own2,lo2,S2,A2,st2,sm2,e,x⟩|⟨m₁,ops,μ',x1,x2,x3⟩
  ·left
   obtain⟨rfl,rfl,rfl⟩:gs=gs2∧B.at dr=B2∧sl'=sl2:=by
    have e1:=congrArg Machine.gs e;have e2:=congrArg Machine.world e;have e3:=congrArg (fun m=>m.rest.slice) e;exact⟨e1,e2,e3⟩
   obtain⟨y,yI,yF⟩:=x;have y':=y.at hs B.drawn;exact⟨gs,B,sl,D2,f2,fr,q2,own2,lo2,S2,A2,st2,sm2,rfl,y',yI,yF⟩
  ·exact .inr ⟨m₁,ops,μ',hstep.trans x1,x2,x3⟩
 ·right;obtain⟨m₁,ops,μ',x1,x2,x3⟩:=h'.Nd (sl:=sl') hs hd h1 h2 hg hrun;exact⟨m₁,ops,μ',hstep.trans x1,x2,x3⟩
 ·right;obtain⟨m₁,ops,μ',x1,x2,x3⟩:=PI.worker (sl:=sl') hs hd hc _ h' hk hg hrun;exact⟨m₁,ops,μ',hstep.trans x1,x2,x3⟩
theorem Jb(hs:dm P P1 d s)(hd:dc d)(hc:∀l k,@iB _ (a7 l d.F k) P1 P bad)(μ:Nat×Nat):∀(m:Machine)(t:Trace),cg P P1 d s t0 B0 μ m t→∃N m' t',runNT P N m t=(.next m',t')∧zm P P1 d s t0 B0 m' t':=by
 have hwf:WellFounded Lt2:=(Prod.lex Nat.lt_wfRel Nat.lt_wfRel).wf
 induction μ using hwf.induction with
 |_ μ ih=>
  intro m t h
  rcases Ja hs hd hc h with hd'|⟨m',ops,μ',h1,h2,h3⟩
  ·exact⟨0,m,t,rfl,hd'⟩
  ·obtain⟨N,m2,t2,h4,h5⟩:=ih μ' h2 m' _ h3;exact⟨N+1,m2,t2,BM h1 h4,h5⟩
end
end Go.Fc
