/- Lemmas. -/
import Derived.Test.YthpkmilhiganjaaGreatPWb
import Derived.Conc.AppendWalk
import Derived.Maps.AppendAt
set_option linter.unusedSimpArgs false
set_option linter.unusedVariables false
set_option linter.unusedSectionVars false
set_option maxHeartbeats 32000000
set_option maxRecDepth 100000
namespace Go.Proofs.Tw
open Go Go.Fi Go.Conc Go.RowKit
def RdD.fit(d:RdD):Bool:=d.g && !d.h
structure RdX(d:RdD)(l:List Bool)(L:Array Bool)(a:Act)(w:World):Prop where
 cell:L.getD 38 false=false→fP d.toWkD w d.hd
 row:L.getD 36 false=false→eI d.toWkD w d.hd l
 bs:L.getD 35 false=true→L.getD 36 false=false→∃b,a.tmps[50]?.getD undef=.slice (some ⟨b,0,none⟩) 1 1∧w.cell? ⟨b,0,none⟩=some (.bool d.fit)∧d.lo≤b
 ap:L.getD 36 false=true→L.getD 38 false=false→eI d.toWkD w (a.tmps[51]?.getD undef) (l++[d.fit])
 ix:L.getD 37 false=true→a.tmps[52]?.getD undef=.pointer (some ⟨d.F,d.i,none⟩)
 fin:L.getD 38 false=true→∃v,fP d.toWkD w v∧eI d.toWkD w v (l++[d.fit])
section
variable{d:RdD}{ds:List Deferred}{l:List Bool}
theorem RdX.mv{L:Array Bool}{a:Act}{w w1:World}(h:RdX d l L a w)(e:Bel w.heap.size w w1):RdX d l L a w1:=
 ⟨fun x=>(h.cell x).mv e,fun x=>(h.row x).mv e,fun x y=>let ⟨b,h1,h2,h3⟩:=h.bs x y;⟨b,h1,e.cellAt h2,h3⟩,fun x y=>(h.ap x y).mv e,h.ix,fun x=>let ⟨v,h1,h2⟩:=h.fin x;⟨v,h1.mv e,h2.mv e⟩⟩
theorem RdX.put{L:Array Bool}{a:Act}{w:World}(h:RdX d l L a w){i t:Nat}(hi:i<35)(ht:t<50)(v:Value):RdX d l (L.setIfInBounds i true) (a.put (some t) v) w:=by
 have e:∀k,35≤k→(L.setIfInBounds i true).getD k false=L.getD k false:=fun k hk=>getD_set_ne false (by omega)
 have g:∀u,50≤u→(a.put (some t) v).tmps[u]?.getD undef=a.tmps[u]?.getD undef:=fun u hu=>by
  simp only[Act.put,Array.getElem?_setIfInBounds];rw[if_neg (by omega)]
 refine⟨fun x=>h.cell (by rwa [e 38 (by omega)] at x),fun x=>h.row (by rwa [e 36 (by omega)] at x),fun x y=>?_,fun x y=>?_,fun x=>?_,fun x=>h.fin (by rwa [e 38 (by omega)] at x)⟩
 ·rw[g 50 (by omega)];exact h.bs (by rwa [e 35 (by omega)] at x) (by rwa [e 36 (by omega)] at y)
 ·rw[g 51 (by omega)];exact h.ap (by rwa [e 36 (by omega)] at x) (by rwa [e 38 (by omega)] at y)
 ·rw[g 52 (by omega)];exact h.ix (by rwa [e 37 (by omega)] at x)
theorem M8{L:Array Bool}(hl:L[11]?=some false)(hcl:Fi.Closed bP L):L.getD 38 false=false:=by
 cases h38:L.getD 38 false with
 |false=>rfl
 |true=>
  have h:=hcl 38 mQ rfl h38 ⟨11,.phase⟩ (by simp) rfl;rw[Array.getD_eq_getD_getElem?] at h;have e:(⟨11,.phase⟩:Edge).on=11:=rfl;rw[e,hl] at h;cases h
abbrev cR(d:RdD):Nat:=qF d.zs.length+1
variable{r:Option Nat}{Q:Exit→Act→World→Prop}
abbrev oO(d:RdD)(ds:List Deferred)(l:List Bool)(L:Array Bool)(a:Act)(w:World):Prop:=dZ (RdW d) 54 ds bP Base Qs (fz d) (aM d) L a w∧RdX d l L a w
theorem Hd{E:EnvD}{P:Program}{ops:Array Oper}{c c':Nat}{Inv:Array Bool→Act→World→Prop}{i:Nat}{o:Oper}(h:@ir E r P ops c Q Inv i o)(hc:c≤c'):@ir E r P ops c' Q Inv i o:=
 fun L a w h1 h2 h3 h4 rest N hk=>@lj E P r Q a w ops (i::rest) _ _ (h L a w h1 h2 h3 h4 rest N hk) (by omega)
theorem sqg{i:Nat}(t:Nat){o o0:Oper}(ho:bP[i]?=some o)(h0:bP[i]?=some o0)(hd:∀c,o0.op≠.defer c)(hdst:o0.dst=some t)(hk:i<35∧t<50∧¬Base t∧yO bP i t=true)(hq:∀(L:Array Bool)(a:Act)(w:World),TQ d ds L a w→RdX d l L a w→L[i]?=some false→HE o0 L→Fi.Closed bP L→QC d o0 t a w):@ir (a7 d.lo d.F d.i) r prog bP (cR d) Q (oO d ds l) i o:=by
 letI:=a7 d.lo d.F d.i
 obtain rfl:=Option.some.inj (ho.symm.trans h0);obtain⟨h1,h2,h3,h4⟩:=hk
 exact Hd (c:=1) (AN (t:=t) (RdX d l) (fun _ _ h e=>h.mv e) (fun _ _ _ _ h e=>h.mv e) (fun _ _ _ _ h=>h.put h1 h2 _) ho (by show i≤34;omega) hd hdst (by omega) h3 (iF h4)
  hq) (by unfold cR;omega)
theorem s32(h64:d.zs.length≤64):@ir (a7 d.lo d.F d.i) r prog bP (cR d) Q (oO d ds l) 32 nY:=by
 letI:=a7 d.lo d.F d.i
 intro L a w hinv hl he hcl rest N hk;obtain⟨hT,hX⟩:=hinv;have sg:=hT.run 26 _ 41 rfl rfl (by decide) (he ⟨26,.guard⟩ (by simp) rfl);have hwg:=ga (ops:=bP) (o:=nY) (tmps:=a.tmps) (j:=26) (t:=41) (want:=true) rfl rfl sg;simp only[aM,isB] at hwg
 have nx:∀w' v,Bel w.heap.size w w'→v=aM d 47→bz r prog bP rest N Q (a.put (some 47) v) w':=fun w' v e hv=>
  hk _ _ ⟨(hT.oL (hT.world.mv e)).put (hT.world.mv e) (i:=32) (o:=nY) (t:=47) rfl hl rfl (by decide) (by decide) (iF (by decide)) (fun _=>hv),(hX.mv e).put (by decide) (by decide) v⟩
 cases hg:d.g with
 |false=>
  rw[hg] at hwg;refine lj (zP (o:=nY) (N:=N) rfl hwg ?_) (by unfold cR;omega);exact nx w undef (Bel.refl _ _) (by simp[aM,hg])
 |true=>
  rw[hg] at hwg;have s43:=hT.run 28 _ 43 rfl rfl (by decide) (he ⟨28,.data⟩ (by simp) rfl);have s46:=hT.run 31 _ 46 rfl rfl (by decide) (he ⟨31,.data⟩ (by simp) rfl);simp only[aM,hg,if_true] at s43 s46
  refine zQ (o:=nY) (N:=qF d.zs.length) (M:=N) (f:=107) (args:=#[.slice d.fa d.zs.length d.ju,.agg #[.int .i64 d.i,.int .i64 d.kk]]) rfl hwg (by intro c h;cases h) fun w1 e1=>?_
  have hw1:=hT.world.mv e1;refine⟨fun f ev hev=>?_,?_,?_⟩
  ·have hm:=mem_listed hev;simp[go_sem,s43,s46] at hm
  ·simp[go_sem,s43,s46]
  ·refine zM (Hc hw1.wk.low.1 d.zs.length h64 d.fa d.ju d.zs d.i d.kk w1 rfl hw1.wk.size hw1.wk.iv) ?_
   rintro v w' ⟨rfl,hb⟩
   exact nx w' _ (lq e1 hb) (by simp[aM,hg,RdD.h])
theorem s35:@ir (a7 d.lo d.F d.i) r prog bP (cR d) Q (oO d ds l) 35 pF:=by
 letI:=a7 d.lo d.F d.i
 intro L a w hinv hl he hcl rest N hk;obtain⟨hT,hX⟩:=hinv;have s49:=hT.run 34 _ 49 rfl rfl (by decide) (he ⟨34,.data⟩ (by simp) rfl);simp only[aM] at s49;refine lj (bE (o:=pF) (N:=N) rfl rfl (by intro c h;cases h) fun w1 e1=>?_) (by unfold cR;omega);refine⟨fun f ev hev=>?_,?_⟩
 ·have hm:=mem_listed hev;simp[go_sem,s49] at hm
 ·have hr:(execOp a.eval pF).run prog w1=.ok (.value (.slice (some ⟨w1.heap.size,0,none⟩) 1 1)) (w1.alloc (.cells #[.bool d.fit] 4)):=by
   simp[go_sem,s49];rfl
  rw[hr];have hal:Bel w1.heap.size w1 (w1.alloc (.cells #[.bool d.fit] 4)):=(Bel.refl _ _).alloc (Nat.le_refl _) _;have e2:=lq e1 hal;have hw2:=hT.world.mv e2;have hsz:a.tmps.size=54:=hT.size
  have e:∀k,k≠35→(L.setIfInBounds 35 true).getD k false=L.getD k false:=fun k hk=>getD_set_ne false (by omega)
  have g50:∀v,(a.put (some 50) v).tmps[50]?.getD undef=v:=fun v=>by rw[gX (by omega)];simp
  have gne:∀v u,u≠50→(a.put (some 50) v).tmps[u]?.getD undef=a.tmps[u]?.getD undef:=fun v u hu=>by rw[gX (by omega),if_neg (by omega)]
  refine hk _ _ ⟨(hT.oL hw2).put hw2 (i:=35) (o:=pF) (t:=50) rfl hl rfl (by decide) (by decide) (iF (by decide)) (fun h=>absurd h (by decide)),?_⟩;have hX2:=hX.mv e2;refine⟨fun x=>hX2.cell (by rwa [e 38 (by omega)] at x),fun x=>hX2.row (by rwa [e 36 (by omega)] at x),fun _ _=>⟨w1.heap.size,g50 _,?_,?_⟩,fun x y=>?_,fun x=>?_,fun x=>hX2.fin (by rwa [e 38 (by omega)] at x)⟩
  ·exact pE w1 #[.bool d.fit] 4 0
  ·exact (hT.world.mv e1).wk.size
  ·rw[gne _ 51 (by omega)];exact hX2.ap (by rwa [e 36 (by omega)] at x) (by rwa [e 38 (by omega)] at y)
  ·rw[gne _ 52 (by omega)];exact hX2.ix (by rwa [e 37 (by omega)] at x)
theorem EA:prog.info? 4=some Tryz.t4:=by kernel_rfl
theorem EB:Tryz.t4.zero=some (.bool false):=by kernel_rfl
theorem EC:Tryz.t4.size=1:=by kernel_rfl
theorem ED:Tryz.t4.bytes=1:=by kernel_rfl
theorem s36(hl8:l.length≤1000)(hcb:d.hd.ownBlock≠some d.cb):@ir (a7 d.lo d.F d.i) r prog bP (cR d) Q (oO d ds l) 36 pG:=by
 letI:=a7 d.lo d.F d.i
 intro L a w hinv hl he hcl rest N hk;obtain⟨hT,hX⟩:=hinv
 have h36:L.getD 36 false=false:=by rw[Array.getD_eq_getD_getElem?,hl];rfl
 have h38:L.getD 38 false=false:=by
  cases h38:L.getD 38 false with
  |false=>rfl
  |true=>
   have h:=hcl 38 mQ rfl h38 ⟨36,.data⟩ (by simp) rfl;rw[h36] at h;cases h
 have s26:=hT.run 11 _ 26 rfl rfl (by decide) (he ⟨11,.data⟩ (by simp) rfl);simp only[aM] at s26;obtain⟨b,s50,hbc,hblo⟩:=hX.bs (he ⟨35,.data⟩ (by simp) rfl) h36;have hrow:=hX.row h36;refine lj (bE (o:=pG) (N:=N) rfl rfl (by intro c h;cases h) fun w1 e1=>?_) (by unfold cR;omega);have hrow1:=hrow.mv e1;have hw1:=hT.world.mv e1
 have hnews:∀j u,[Value.bool d.fit][j]?=some u→w1.cell? ((⟨b,0,none⟩:Addr).add j)=some u:=by
  intro j u hj;have hbc1:=e1.cellAt hbc
  match j,hj with
  |0,hj=>simp at hj;subst hj;simpa[Addr.add] using hbc1
 have hm63:l.length+1≤maxLen:=by simp only[maxLen];omega
 obtain⟨v',w',hrun,hown,hgrown,_,hwhere⟩:=run_append_own_at (P:=prog) w1 d.lo 136 136 4 Tryz.t4 (.bool false) 1 1 underlying136 EA EB EC ED rfl (by decide) d.hd l.length (l.map Value.bool) hrow1 ⟨b,0,none⟩ 1 1 [Value.bool d.fit] rfl hnews (by simp[Value.oneCell']) hm63 (by omega) hw1.wk.size
 have hlo:∀k,d.hd.ownBlock=some k→d.lo≤k:=by
  intro k hkk
  rcases hrow1.2 with ⟨h1,_⟩|⟨g,cap,cur,h1,h2,_⟩
  ·rw[h1] at hkk;cases hkk
  ·rw[h1] at hkk;cases hkk;exact h2
 have hbel:Bel d.lo w1 w':=(Bel.refl _ _).grown hgrown hw1.wk.size hlo;refine⟨fun f ev hev=>?_,?_⟩
 ·have hm:=mem_listed hev;rw[events_append_op (.tmp 26) (.tmp 50) 136 rfl (show a.eval (.tmp 26)=d.hd by simpa[Act.eval] using s26) (show a.eval (.tmp 50)=.slice (some ⟨b,0,none⟩) 1 1 by simpa[Act.eval] using s50)] at hm
  rcases events_append_where (P:=prog) w1 d.lo 136 136 4 Tryz.t4 (.bool false) 1 1 underlying136 EA EB EC ED d.hd l.length (l.map Value.bool) hrow1 ⟨b,0,none⟩ 1 1 [Value.bool d.fit] rfl hnews (by simp[Value.oneCell']) hm63 (by omega) ev hm with ⟨ad,h1,h2⟩|⟨m,rfl,_⟩
  ·refine .inl ⟨ad,h1,fun hF=>?_,fun hwr=>?_⟩
   ·exfalso;have hlow:=hw1.wk.low.1
    rcases h2 with ⟨_,h2⟩|h2
    ·simp only at h2;omega
    ·have:=hlo _ h2.symm;omega
   ·rcases h2 with ⟨h2,_⟩|h2
    ·rw[h2] at hwr;cases hwr
    ·exact .inl (hlo _ h2.symm)
  ·exact .inr ⟨_,rfl⟩
 ·have hr:(execOp a.eval pG).run prog w1=.ok (.value v') w':=by
   have s26':a.eval (.tmp 26)=d.hd:=by simpa[Act.eval] using s26
   have s50':a.eval (.tmp 50)=.slice (some ⟨b,0,none⟩) 1 1:=by simpa[Act.eval] using s50
   unfold execOp;simp only[resolve,invoke,builtin,Sem.run_bind,Sem.run_pure,Result.andThen_ok,List.map_toArray,List.map_cons,List.map_nil,s26',s50',hrun]
  rw[hr]
  have hcell:∀o v,w1.cell? ⟨d.cb,o,none⟩=some v→w'.cell? ⟨d.cb,o,none⟩=some v:=fun o v hv=>by
   have hlt:d.cb<w1.heap.size:=by
    unfold World.cell? at hv
    rcases hx:w1.heap[d.cb]? with _|ob
    ·simp only[hx] at hv;cases hv
    ·exact (Array.getElem?_eq_some_iff.1 hx).1
   have hbk:w'.heap[d.cb]?=w1.heap[d.cb]?:=hgrown.block d.cb hlt (fun e=>hcb e.symm);rw[World.cell?_of_block hbk];exact hv
  have hw2:RdW d w':=⟨hw1.wk.uj hbel,hw1.i,hw1.cb0,hcell _ _ hw1.cb1,hcell _ _ hw1.cb2⟩;have hsz:a.tmps.size=54:=hT.size
  have e:∀k,k≠36→(L.setIfInBounds 36 true).getD k false=L.getD k false:=fun k hk=>getD_set_ne false (by omega)
  have e36:(L.setIfInBounds 36 true).getD 36 false=true:=by
   have hlt:36<L.size:=(Array.getElem?_eq_some_iff.1 hl).1;rw[Array.getD_eq_getD_getElem?];simp[hlt]
  have g51:∀v,(a.put (some 51) v).tmps[51]?.getD undef=v:=fun v=>by rw[gX (by omega)];simp
  have gne:∀v u,u≠51→(a.put (some 51) v).tmps[u]?.getD undef=a.tmps[u]?.getD undef:=fun v u hu=>by rw[gX (by omega),if_neg (by omega)]
  refine hk _ _ ⟨(hT.oL hw2).put hw2 (i:=36) (o:=pG) (t:=51) rfl hl rfl (by decide) (by decide) (iF (by decide)) (fun h=>absurd h (by decide)),?_⟩;refine⟨fun _=>?_,fun x=>?_,fun _ y=>?_,fun _ _=>?_,fun x=>?_,fun x=>?_⟩
  ·obtain⟨c,c1,c2⟩:=(hX.cell h38).mv e1;exact⟨c,(hbel.block _ hw1.wk.low.1).trans c1,c2⟩
  ·rw[e36] at x;cases x
  ·rw[e36] at y;cases y
  ·rw[g51];unfold eI;simpa using hown
  ·rw[gne _ 52 (by omega)];exact hX.ix (by rwa [e 37 (by omega)] at x)
  ·rw[e 38 (by omega),h38] at x;cases x
theorem M9{L:Array Bool}{i:Nat}(hl:L[i]?=some false):(L.setIfInBounds i true).getD i false=true:=by
 have hlt:i<L.size:=(Array.getElem?_eq_some_iff.1 hl).1;rw[Array.getD_eq_getD_getElem?];simp[hlt]
theorem s37:@ir (a7 d.lo d.F d.i) r prog bP (cR d) Q (oO d ds l) 37 pH:=by
 letI:=a7 d.lo d.F d.i
 intro L a w hinv hl he hcl rest N hk;obtain⟨hT,hX⟩:=hinv;have s18:=hT.run 3 _ 18 rfl rfl (by decide) (he ⟨3,.data⟩ (by simp) rfl);have s19:=hT.run 4 _ 19 rfl rfl (by decide) (he ⟨4,.data⟩ (by simp) rfl);simp only[aM] at s18 s19;refine lj (bE (o:=pH) (N:=N) rfl rfl (by intro c h;cases h) fun w1 e1=>?_) (by unfold cR;omega);have hw1:=hT.world.mv e1;have hi:=hw1.i;refine⟨fun f ev hev=>?_,?_⟩
 ·have hm:=mem_listed hev;simp[go_sem,s18,s19] at hm;rw[events_indexAt_slice 103 _ _ _ _ _ rfl ⟨Int.natCast_nonneg _,by omega⟩] at hm;simp at hm
 ·have hr:(execOp a.eval pH).run prog w1=.ok (.value (.pointer (some ⟨d.F,d.i,none⟩))) w1:=by
   simp[go_sem,s18,s19,hi]
  rw[hr];have hsz:a.tmps.size=54:=hT.size
  have e:∀k,k≠37→(L.setIfInBounds 37 true).getD k false=L.getD k false:=fun k hk=>getD_set_ne false (by omega)
  have g52:∀v,(a.put (some 52) v).tmps[52]?.getD undef=v:=fun v=>by rw[gX (by omega)];simp
  have gne:∀v u,u≠52→(a.put (some 52) v).tmps[u]?.getD undef=a.tmps[u]?.getD undef:=fun v u hu=>by rw[gX (by omega),if_neg (by omega)]
  have hX2:=hX.mv e1;refine hk _ _ ⟨(hT.oL hw1).put hw1 (i:=37) (o:=pH) (t:=52) rfl hl rfl (by decide) (by decide) (iF (by decide)) (fun h=>absurd h (by decide)),?_⟩;refine⟨fun x=>hX2.cell (by rwa [e 38 (by omega)] at x),fun x=>hX2.row (by rwa [e 36 (by omega)] at x),fun x y=>?_,fun x y=>?_,fun _=>g52 _,fun x=>hX2.fin (by rwa [e 38 (by omega)] at x)⟩
  ·rw[gne _ 50 (by omega)];exact hX2.bs (by rwa [e 35 (by omega)] at x) (by rwa [e 36 (by omega)] at y)
  ·rw[gne _ 51 (by omega)];exact hX2.ap (by rwa [e 36 (by omega)] at x) (by rwa [e 38 (by omega)] at y)
theorem eI.val{w:World}{v:Value}{m:List Bool}(h:eI d.toWkD w v m):(∃cap,v=.slice none cap 0)∨∃ao n c,v=.slice ao n c:=by
 rcases h.2 with ⟨h1,_⟩|⟨g,cap,cur,h1,_⟩
 ·exact .inl ⟨0,h1⟩
 ·exact .inr ⟨_,_,_,h1⟩
theorem s38:@ir (a7 d.lo d.F d.i) r prog bP (cR d) Q (oO d ds l) 38 mQ:=by
 letI:=a7 d.lo d.F d.i
 intro L a w hinv hl he hcl rest N hk;obtain⟨hT,hX⟩:=hinv
 have h38:L.getD 38 false=false:=by rw[Array.getD_eq_getD_getElem?,hl];rfl
 have h36:=he ⟨36,.data⟩ (by simp) rfl;have h37:=he ⟨37,.data⟩ (by simp) rfl;have s52:=hX.ix h37;refine lj (bE (o:=mQ) (N:=N) rfl rfl (by intro c h;cases h) fun w1 e1=>?_) (by unfold cR;omega);have hw1:=hT.world.mv e1;have hX1:=hX.mv e1;have hrow:=hX1.ap h36 h38;have hfc:=hX1.cell h38;obtain⟨cF,c1,c2,c3⟩:=id hfc
 obtain⟨ao,n,c,hv⟩:∃ao n c,a.tmps[51]?.getD undef=.slice ao n c:=by
  rcases hrow.2 with ⟨h1,_⟩|⟨g,cap,cur,h1,_⟩
  ·exact⟨_,_,_,h1⟩
  ·exact⟨_,_,_,h1⟩
 have hcell:=hfc.cell
 have hfz:w1.frozen? ⟨d.F,d.i,none⟩=false:=by simp[World.frozen?,c1]
 refine⟨fun f ev hev=>?_,?_⟩
 ·have hm:=mem_listed hev;simp[go_sem,s52,hv,storedEv,hcell,hfz] at hm;rw[events_store _ _ _ _ _ _ rfl] at hm;simp[storedEv,hcell,hfz] at hm;subst hm;exact G8 rfl rfl
 ·have hr:(execOp a.eval mQ).run prog w1=.ok .skip (w1.setCell ⟨d.F,d.i,none⟩ (.slice ao n c)):=by
   simp[go_sem,s52,hv,stored,hcell,hfz]
  rw[hr]
  have hbk:∀b,b≠d.F→(w1.setCell ⟨d.F,d.i,none⟩ (.slice ao n c)).heap[b]?=w1.heap[b]?:=fun b hb=>by
   simp[World.setCell,Array.getElem?_modify,Ne.symm hb]
  have hszw:w1.heap.size≤(w1.setCell ⟨d.F,d.i,none⟩ (.slice ao n c)).heap.size:=by simp[World.setCell]
  have hF:(w1.setCell ⟨d.F,d.i,none⟩ (.slice ao n c)).heap[d.F]?=some (.cells (cF.setIfInBounds d.i (.slice ao n c)) 136):=by
   simp[World.setCell,Array.getElem?_modify,c1]
  generalize (w1.setCell ⟨d.F,d.i,none⟩ (.slice ao n c))=w2 at hbk hszw hF ⊢;have hw2:RdW d w2:=⟨hw1.wk.mvF hszw hbk,hw1.i,hw1.cb0,(World.cell?_of_block (hbk _ hw1.cbF)).trans hw1.cb1,(World.cell?_of_block (hbk _ hw1.cbF)).trans hw1.cb2⟩;have e38:=M9 hl;have h36':(L.setIfInBounds 38 true).getD 36 false=true:=(getD_set_ne false (by omega)).trans h36;refine hk _ _ ⟨(hT.oL hw2).Ex hw2 (i:=38) (o:=mQ) rfl rfl,?_⟩;refine⟨fun x=>(by rw[e38] at x;cases x),fun x=>(by rw[h36'] at x;cases x),fun _ y=>(by rw[h36'] at y;cases y),fun _ y=>(by rw[e38] at y;cases y),fun _=>s52,fun _=>⟨.slice ao n c,⟨_,hF,by simpa using c2,by simp[c2]⟩,?_⟩⟩;rw[hv] at hrow;refine⟨hrow.1,hrow.2.imp id ?_⟩
  rintro⟨q,cap,cur,a1,a2,a3,a4⟩
  have hq:q≠d.F:=by have:=hw1.wk.low.1;omega
  exact⟨q,cap,cur,a1,a2,(hbk q hq).trans a3,a4⟩
theorem He(h64:d.zs.length≤64)(hl8:l.length≤1000)(hcb:d.hd.ownBlock≠some d.cb){a:Act}{w:World}(hw:RdW d w)(hsz:a.tmps.size=54)(hds:a.defers=ds)(hb:∀t,Base t→a.tmps[t]?.getD undef=fz d t)(hc:fP d.toWkD w d.hd)(hr:eI d.toWkD w d.hd l){id:Nat}(hQ:∀a w,RdW d w→a.tmps.size=54→a.defers=ds→(∀t,Base t→a.tmps[t]?.getD undef=fz d t)→(∃v,fP d.toWkD w v∧eI d.toWkD w v (l++[d.fit]))→Q .normal a w):@Code.wpN (a7 d.lo d.F d.i) r prog (.region id bP true) (39*cR d+1+1) Q a w:=by
 letI:=a7 d.lo d.F d.i
 have hs39:bP.size=39:=rfl
 have rep:∀k,(Array.replicate 39 false).getD k false=false:=fun k=>by
  rw[Array.getD_eq_getD_getElem?];simp only[Array.getElem?_replicate]
  split<;>rfl
 refine AO (ops:=bP) (by rfl) (cR d) (RdW d) 54 ds Base Qs (fz d) (aM d) (RdX d l) (by decide) (fun _ _ h e=>h.mv e) (fun _ _ h=>h.drew) hw hsz hds hb ?_ ?_ ?_
 ·intro w1 e1;have hc1:=hc.mv e1;have hr1:=hr.mv e1;refine⟨fun _=>hc1,fun _=>hr1,fun x=>?_,fun x=>?_,fun x=>?_,fun x=>?_⟩
  ·exact absurd (rep 35) (by rw[hs39] at x;rw[x];simp)
  ·exact absurd (rep 36) (by rw[hs39] at x;rw[x];simp)
  ·exact absurd (rep 37) (by rw[hs39] at x;rw[x];simp)
  ·exact absurd (rep 38) (by rw[hs39] at x;rw[x];simp)
 ·intro L a w hall hT hX;exact hQ a w hT.world hT.size hT.defers hT.base (hX.fin (hall 38 (by decide)))
 ·intro i o ho;have hi:i<39:=(Array.getElem?_eq_some_iff.1 ho).1
  match i,ho,hi with
  |0,ho,_=>exact sqg 15 ho (o0:=yR) rfl (by intro c h;cases h) rfl (by decide) fun _ _ _ hT _ _ he _=>Mt hT he
  |1,ho,_=>exact sqg 16 ho (o0:=yS) rfl (by intro c h;cases h) rfl (by decide) fun _ _ _ hT _ _ he _=>Mu hT he
  |2,ho,_=>exact sqg 17 ho (o0:=yT) rfl (by intro c h;cases h) rfl (by decide) fun _ _ _ hT _ _ he _=>Mv hT he
  |3,ho,_=>exact sqg 18 ho (o0:=yU) rfl (by intro c h;cases h) rfl (by decide) fun _ _ _ hT _ _ he _=>Mw hT he
  |4,ho,_=>exact sqg 19 ho (o0:=yV) rfl (by intro c h;cases h) rfl (by decide) fun _ _ _ hT _ _ he _=>Mx hT he
  |5,ho,_=>exact sqg 20 ho (o0:=yW) rfl (by intro c h;cases h) rfl (by decide) fun _ _ _ hT _ _ he _=>My hT he
  |6,ho,_=>exact sqg 21 ho (o0:=yX) rfl (by intro c h;cases h) rfl (by decide) fun _ _ _ hT _ _ he _=>Mz hT he
  |7,ho,_=>exact sqg 22 ho (o0:=yY) rfl (by intro c h;cases h) rfl (by decide) fun _ _ _ hT _ _ he _=>MA hT he
  |8,ho,_=>exact sqg 23 ho (o0:=yZ) rfl (by intro c h;cases h) rfl (by decide) fun _ _ _ hT _ _ he _=>MB hT he
  |9,ho,_=>exact sqg 24 ho (o0:=y9) rfl (by intro c h;cases h) rfl (by decide) fun _ _ _ hT _ _ he _=>MD hT he
  |10,ho,_=>exact sqg 25 ho (o0:=wi) rfl (by intro c h;cases h) rfl (by decide) fun _ _ _ hT _ _ he _=>ME hT he
  |11,ho,_=>exact sqg 26 ho (o0:=nX) rfl (by intro c h;cases h) rfl (by decide) fun _ _ _ hT hX hl he hcl=>MF hT (hX.cell (M8 hl hcl)).cell he
  |12,ho,_=>exact sqg 27 ho (o0:=wj) rfl (by intro c h;cases h) rfl (by decide) fun _ _ _ hT _ _ he _=>MG hT he
  |13,ho,_=>exact sqg 28 ho (o0:=wm) rfl (by intro c h;cases h) rfl (by decide) fun _ _ _ hT _ _ he _=>MH hT he
  |14,ho,_=>exact sqg 29 ho (o0:=wo) rfl (by intro c h;cases h) rfl (by decide) fun _ _ _ hT _ _ he _=>MJ hT he
  |15,ho,_=>exact sqg 30 ho (o0:=wq) rfl (by intro c h;cases h) rfl (by decide) fun _ _ _ hT _ _ he _=>MK hT he
  |16,ho,_=>exact sqg 31 ho (o0:=wx) rfl (by intro c h;cases h) rfl (by decide) fun _ _ _ hT _ _ he _=>ML hT he
  |17,ho,_=>exact sqg 32 ho (o0:=wy) rfl (by intro c h;cases h) rfl (by decide) fun _ _ _ hT _ _ he _=>MM hT he
  |18,ho,_=>exact sqg 33 ho (o0:=rY) rfl (by intro c h;cases h) rfl (by decide) fun _ _ _ hT _ _ he _=>MN hT he
  |19,ho,_=>exact sqg 34 ho (o0:=rZ) rfl (by intro c h;cases h) rfl (by decide) fun _ _ _ hT _ _ he _=>MP hT he
  |20,ho,_=>exact sqg 35 ho (o0:=r5) rfl (by intro c h;cases h) rfl (by decide) fun _ _ _ hT _ _ he _=>MQ hT he
  |21,ho,_=>exact sqg 36 ho (o0:=r6) rfl (by intro c h;cases h) rfl (by decide) fun _ _ _ hT _ _ he _=>MR hT he
  |22,ho,_=>exact sqg 37 ho (o0:=r7) rfl (by intro c h;cases h) rfl (by decide) fun _ _ _ hT _ _ he _=>MS hT he
  |23,ho,_=>exact sqg 38 ho (o0:=r8) rfl (by intro c h;cases h) rfl (by decide) fun _ _ _ hT _ _ he _=>MU hT he
  |24,ho,_=>exact sqg 39 ho (o0:=r9) rfl (by intro c h;cases h) rfl (by decide) fun _ _ _ hT _ _ he _=>MV hT he
  |25,ho,_=>exact sqg 40 ho (o0:=wz) rfl (by intro c h;cases h) rfl (by decide) fun _ _ _ hT _ _ he _=>MW hT he
  |26,ho,_=>exact sqg 41 ho (o0:=wA) rfl (by intro c h;cases h) rfl (by decide) fun _ _ _ hT _ _ he _=>MX hT he
  |27,ho,_=>exact sqg 42 ho (o0:=sa) rfl (by intro c h;cases h) rfl (by decide) fun _ _ _ hT _ _ he _=>MY hT he
  |28,ho,_=>exact sqg 43 ho (o0:=sb) rfl (by intro c h;cases h) rfl (by decide) fun _ _ _ hT _ _ he _=>MZ hT he
  |29,ho,_=>exact sqg 44 ho (o0:=sd) rfl (by intro c h;cases h) rfl (by decide) fun _ _ _ hT _ _ he _=>M3 hT he
  |30,ho,_=>exact sqg 45 ho (o0:=se) rfl (by intro c h;cases h) rfl (by decide) fun _ _ _ hT _ _ he _=>M4 hT he
  |31,ho,_=>exact sqg 46 ho (o0:=si) rfl (by intro c h;cases h) rfl (by decide) fun _ _ _ hT _ _ he _=>M5 hT he
  |32,ho,_=>obtain rfl:=Option.some.inj (ho.symm.trans (rfl:bP[32]?=some nY));exact s32 h64
  |33,ho,_=>exact sqg 48 ho (o0:=sj) rfl (by intro c h;cases h) rfl (by decide) fun _ _ _ hT _ _ he _=>M6 hT he
  |34,ho,_=>exact sqg 49 ho (o0:=wB) rfl (by intro c h;cases h) rfl (by decide) fun _ _ _ hT _ _ he _=>M7 hT he
  |35,ho,_=>obtain rfl:=Option.some.inj (ho.symm.trans (rfl:bP[35]?=some pF));exact s35
  |36,ho,_=>obtain rfl:=Option.some.inj (ho.symm.trans (rfl:bP[36]?=some pG));exact s36 hl8 hcb
  |37,ho,_=>obtain rfl:=Option.some.inj (ho.symm.trans (rfl:bP[37]?=some pH));exact s37
  |38,ho,_=>obtain rfl:=Option.some.inj (ho.symm.trans (rfl:bP[38]?=some mQ));exact s38
  |i+39,_,hi=>omega
end
abbrev wC:Oper:=⟨some 7,(.fieldAddr 27 (.tmp 1) 0),0, "dispatch.go:121",#[],none⟩
abbrev wD:Oper:=⟨some 8,(.load 22 (.tmp 7)),22, "dispatch.go:121",#[⟨0,.data⟩],none⟩
abbrev wE:Oper:=⟨some 9,(.call ⟨(.builtin .len),#[(.tmp 8)],#[22]⟩),3, "dispatch.go:121",#[⟨1,.data⟩],none⟩
abbrev wF:Oper:=⟨some 10,(.move (.const (.int .i64 0))),3, "dispatch.go:121",#[],none⟩
abbrev nZ:Array Oper:=#[wC,wD,wE,wF]
abbrev wG:Oper:=⟨some 11,(.binOp .lss 3 (.tmp 10) (.tmp 9) 3),0, "dispatch.go:121",#[],none⟩
abbrev wH:Array Oper:=#[wG]
abbrev wI:Oper:=⟨some 12,(.move (.tmp 10)),3, "dispatch.go:121",#[],none⟩
abbrev wJ:Oper:=⟨some 13,(.indexAddr 22 (.tmp 8) (.tmp 10)),0, "dispatch.go:121",#[],none⟩
abbrev wK:Oper:=⟨some 14,(.load 89 (.tmp 13)),89, "dispatch.go:121",#[⟨1,.data⟩],none⟩
abbrev wL:Oper:=⟨some 6,(.alloc 89),0, "dispatch.go:121",#[],none⟩
abbrev wM:Oper:=⟨some 5,(.assign (.tmp 12)),3, "dispatch.go:121",#[⟨0,.data⟩,⟨0,.phase⟩,⟨1,.phase⟩,⟨2,.phase⟩,⟨3,.phase⟩],none⟩
abbrev wN:Oper:=⟨none,(.store 89 (.tmp 6) (.tmp 14)),0, "dispatch.go:121",#[⟨3,.data⟩,⟨2,.data⟩,⟨4,.chain⟩,⟨0,.phase⟩,⟨1,.phase⟩,⟨2,.phase⟩,⟨3,.phase⟩,⟨4,.phase⟩],none⟩
abbrev jR:Array Oper:=#[wI,wJ,wK,wL,wM,wN]
abbrev wO:Oper:=⟨some 53,(.binOp .add 3 (.tmp 10) (.const (.int .i64 1)) 3),3, "dispatch.go:121",#[],none⟩
abbrev wP:Oper:=⟨some 10,(.move (.tmp 53)),3, "dispatch.go:121",#[⟨0,.data⟩],none⟩
abbrev sr:Array Oper:=#[wO,wP]
theorem Hf:jv=.seq (.region 1 nZ false) (.block 0 (.loop (.seq (.region 2 wH false) (.seq (.cond (.tmp 11) .skip (.exit 0)) (.seq (.block 1 (.seq (.region 3 jR false) (.region 4 bP true))) (.region 5 sr false)))))):=rfl
structure Sl(ds:List Deferred)(S:Nat→Option Value)(a:Act):Prop where
 size:a.tmps.size=54
 defers:a.defers=ds
 get:∀t v,S t=some v→a.tmps[t]?.getD undef=v
abbrev ups(S:Nat→Option Value)(t:Nat)(v:Value):Nat→Option Value:=fun u=>if u=t then some v else S u
theorem Sl.put{ds:List Deferred}{S:Nat→Option Value}{a:Act}(h:Sl ds S a){t:Nat}(ht:t<54)(v:Value):Sl ds (ups S t v) (a.put (some t) v):=by
 refine⟨rW.trans h.size,rX.trans h.defers,fun u x hx=>?_⟩;rw[gX (by rw[h.size];exact ht)];unfold ups at hx;by_cases e:t=u
 ·subst e;simp only[if_true] at hx;rw[if_pos rfl];exact Option.some.inj hx
 ·rw[if_neg (Ne.symm e)] at hx;rw[if_neg e];exact h.get u x hx
theorem Sl.Ex{ds:List Deferred}{S:Nat→Option Value}{a:Act}(h:Sl ds S a)(v:Value):Sl ds S (a.put none v):=h
def S0(d:WkD)(wg kk:Nat):Nat→Option Value:=fun t=>match t with
 |0=>some (.pointer (some ⟨wg,0,none⟩))|1=>some (.pointer (some ⟨d.rb,0,none⟩))|2=>some (.pointer (some ⟨d.xv,0,none⟩))|3=>some (.pointer (some ⟨d.ib,0,none⟩))|4=>some (.pointer (some ⟨d.ob,0,none⟩))
 |8=>some (.slice d.ca d.ab.length d.gI)|9=>some (.int .i64 d.ab.length)|10=>some (.int .i64 kk)|_=>none
def gJ(d:WkD)(kk:Nat):List Bool:=(List.range kk).map (yQ d)
section
variable{d:WkD}{wg kk:Nat}{ds:List Deferred}{r:Option Nat}{Q:Exit→Act→World→Prop}
theorem Hg(hk:kk<d.ab.length){a:Act}{w:World}(hS:Sl ds (S0 d wg kk) a)(hw:WkW d w){v:Value}(hc:fP d w v)(hr:eI d w v (gJ d kk)){id:Nat}(hQ:∀a w cb,Sl ds (ups (ups (S0 d wg kk) 5 (.int .i64 kk)) 6 (.pointer (some ⟨cb,0,none⟩))) a→WkW d w→fP d w v→eI d w v (gJ d kk)→d.lo≤cb→v.ownBlock≠some cb→w.cell? ⟨cb,1,none⟩=some (.int .i64 (d.ab.getD kk (default,0,false)).2.1)→w.cell? ⟨cb,2,none⟩=some (.bool (d.ab.getD kk (default,0,false)).2.2)→Q .normal a w):@Code.wpN (a7 d.lo d.F d.i) r prog (.region id jR false) 8 Q a w:=by
 letI:=a7 d.lo d.F d.i
 obtain⟨b,off,hca,hbF,hblo,_,_,_⟩:=hw.ab kk hk
 have hcs:∀w,WkW d w→w.cell? ⟨b,off+kk*3,none⟩=some (.string (d.ab.getD kk (default,0,false)).1)∧w.cell? ⟨b,off+kk*3+1,none⟩=some (.int .i64 (d.ab.getD kk (default,0,false)).2.1)∧w.cell? ⟨b,off+kk*3+2,none⟩=some (.bool (d.ab.getD kk (default,0,false)).2.2):=fun w hw=>by
  obtain⟨b',off',e,_,_,h4,h5,h6⟩:=hw.ab kk hk;rw[hca] at e;cases e;exact⟨h4,h5,h6⟩
 generalize (d.ab.getD kk (default,0,false)).1=nm,(d.ab.getD kk (default,0,false)).2.1=sn,(d.ab.getD kk (default,0,false)).2.2=ch at hcs hQ;refine fJ (N:=7) ?_;show bz r prog jR [0,1,2,3,4,5] 7 Q a w;have s10:=hS.get 10 _ rfl;have s8:=hS.get 8 _ rfl
 refine bE (o:=wI) (N:=6) rfl rfl (by intro c h;cases h) fun w e1=>?_
 replace hw:=hw.mv e1;replace hc:=hc.mv e1;replace hr:=hr.mv e1;refine⟨fun f ev hev=>?_,?_⟩
 ·have hm:=mem_listed hev;simp[go_sem,s10] at hm
 have hrun:(execOp a.eval wI).run prog w=.ok (.value (.int .i64 kk)) w:=by
  simp[go_sem,s10]
 rw[hrun];show bz r prog jR _ 6 Q (a.put (some 12) (.int .i64 kk)) w;replace hS:=hS.put (t:=12) (by decide) (.int .i64 kk);generalize a.put (some 12) (.int .i64 kk)=a at hS ⊢;clear hrun e1;have s10:=hS.get 10 _ rfl;have s8:=hS.get 8 _ rfl;rw[hca] at s8
 refine bE (o:=wJ) (N:=5) rfl rfl (by intro c h;cases h) fun w e1=>?_
 replace hw:=hw.mv e1;replace hc:=hc.mv e1;replace hr:=hr.mv e1;refine⟨fun f ev hev=>?_,?_⟩
 ·have hm:=mem_listed hev;simp[go_sem,s10,s8,hk] at hm
 have hrun:(execOp a.eval wJ).run prog w=.ok (.value (.pointer (some ⟨b,off+kk*3,none⟩))) w:=by
  simp[go_sem,s10,s8,hk]
 rw[hrun];show bz r prog jR _ 5 Q (a.put (some 13) (.pointer (some ⟨b,off+kk*3,none⟩))) w;replace hS:=hS.put (t:=13) (by decide) (.pointer (some ⟨b,off+kk*3,none⟩));generalize a.put (some 13) (.pointer (some ⟨b,off+kk*3,none⟩))=a at hS ⊢;clear hrun e1;have s13:=hS.get 13 _ rfl
 refine bE (o:=wK) (N:=4) rfl rfl (by intro c h;cases h) fun w e1=>?_
 replace hw:=hw.mv e1;replace hc:=hc.mv e1;replace hr:=hr.mv e1;obtain⟨z1,z2,z3⟩:=hcs w hw;refine⟨fun f ev hev=>?_,?_⟩
 ·have hm:=mem_listed hev;simp[go_sem,s13,z1,z2,z3] at hm
  rcases hm with rfl|rfl|rfl<;>exact mP (fun e=>absurd e hbF)
 have hrun:(execOp a.eval wK).run prog w=.ok (.value (.agg #[.string nm,.int .i64 sn,.bool ch])) w:=by
  simp[go_sem,s13,z1,z2,z3]
 rw[hrun];show bz r prog jR _ 4 Q (a.put (some 14) (.agg #[.string nm,.int .i64 sn,.bool ch])) w;replace hS:=hS.put (t:=14) (by decide) (.agg #[.string nm,.int .i64 sn,.bool ch]);generalize a.put (some 14) (.agg #[.string nm,.int .i64 sn,.bool ch])=a at hS ⊢;clear hrun e1;clear z1 z2 z3
 refine bE (o:=wL) (N:=3) rfl rfl (by intro c h;cases h) fun w e1=>?_
 replace hw:=hw.mv e1;replace hc:=hc.mv e1;replace hr:=hr.mv e1;refine⟨fun f ev hev=>?_,?_⟩
 ·have hm:=mem_listed hev;simp[go_sem] at hm
 have hrun:(execOp a.eval wL).run prog w=.ok (.value (.pointer (some ⟨w.heap.size,0,none⟩))) (w.alloc (.cells #[.string default,.int .i64 0,.bool false] 89)):=by
  simp[go_sem]
  try rfl
 rw[hrun];clear hrun e1
 have hown:v.ownBlock≠some w.heap.size:=by
  intro e
  rcases hr.2 with ⟨h1,_⟩|⟨g,cap,cur,h1,_,h3,_⟩
  ·rw[h1] at e;cases e
  ·rw[h1] at e;have:=(Array.getElem?_eq_some_iff.1 h3).1;simp only[Value.ownBlock,Option.some.injEq] at e;omega
 have hal:Bel w.heap.size w (w.alloc (.cells #[.string default,.int .i64 0,.bool false] 89)):=(Bel.refl _ _).alloc (Nat.le_refl _) _
 have hheap:(w.alloc (.cells #[.string default,.int .i64 0,.bool false] 89)).heap[w.heap.size]?=some (.cells #[.string default,.int .i64 0,.bool false] 89):=by
  show (w.heap.push _)[w.heap.size]?=_;simp
 have hlo:=hw.size;replace hw:=hw.mv hal;replace hc:=hc.mv hal;replace hr:=hr.mv hal;show bz r prog jR _ 3 Q (a.put (some 6) (.pointer (some ⟨w.heap.size,0,none⟩))) _;replace hS:=hS.put (t:=6) (by decide) (.pointer (some ⟨w.heap.size,0,none⟩));generalize a.put (some 6) (.pointer (some ⟨w.heap.size,0,none⟩))=a at hS ⊢;generalize w.heap.size=cb at hS hown hlo hheap;generalize (w.alloc (.cells #[.string default,.int .i64 0,.bool false] 89))=w at hw hc hr hheap ⊢;have s12:=hS.get 12 _ rfl
 refine bE (o:=wM) (N:=2) rfl rfl (by intro c h;cases h) fun w e1=>?_
 replace hw:=hw.mv e1;replace hc:=hc.mv e1;replace hr:=hr.mv e1;replace hheap:=(e1.block _ (Array.getElem?_eq_some_iff.1 hheap).1).trans hheap;refine⟨fun f ev hev=>?_,?_⟩
 ·have hm:=mem_listed hev;simp[go_sem,s12] at hm
 have hrun:(execOp a.eval wM).run prog w=.ok (.value (.int .i64 kk)) w:=by
  simp[go_sem,s12]
 rw[hrun];show bz r prog jR _ 2 Q (a.put (some 5) (.int .i64 kk)) w;replace hS:=hS.put (t:=5) (by decide) (.int .i64 kk);generalize a.put (some 5) (.int .i64 kk)=a at hS ⊢;clear hrun e1;have s6:=hS.get 6 _ rfl;have s14:=hS.get 14 _ rfl
 refine bE (o:=wN) (N:=1) rfl rfl (by intro c h;cases h) fun w e1=>?_
 replace hw:=hw.mv e1;replace hc:=hc.mv e1;replace hr:=hr.mv e1;replace hheap:=(e1.block _ (Array.getElem?_eq_some_iff.1 hheap).1).trans hheap
 have y0:w.cell? ⟨cb,0,none⟩=some (.string default):=by simp[World.cell?,hheap]
 have k0:w.frozen? ⟨cb,0,none⟩=false:=by simp[World.frozen?,hheap]
 have hh1:(w.setCell ⟨cb,0,none⟩ (.string nm)).heap[cb]?=some (.cells #[.string nm,.int .i64 0,.bool false] 89):=by simp[World.setCell,Array.getElem?_modify,hheap]
 have b1:Bel d.lo w (w.setCell ⟨cb,0,none⟩ (.string nm)):=(Bel.refl _ _).setCell hlo _
 have n1:∀q,q≠cb→(w.setCell ⟨cb,0,none⟩ (.string nm)).heap[q]?=w.heap[q]?:=fun q hq=>by simp[World.setCell,Array.getElem?_modify,Ne.symm hq]
 generalize hw1:w.setCell ⟨cb,0,none⟩ (.string nm)=w1 at hh1 b1 n1
 have y1:w1.cell? ⟨cb,1,none⟩=some (.int .i64 0):=by simp[World.cell?,hh1]
 have k1:w1.frozen? ⟨cb,1,none⟩=false:=by simp[World.frozen?,hh1]
 have hh2:(w1.setCell ⟨cb,1,none⟩ (.int .i64 sn)).heap[cb]?=some (.cells #[.string nm,.int .i64 sn,.bool false] 89):=by simp[World.setCell,Array.getElem?_modify,hh1]
 have b2:Bel d.lo w (w1.setCell ⟨cb,1,none⟩ (.int .i64 sn)):=b1.setCell hlo _
 have n2:∀q,q≠cb→(w1.setCell ⟨cb,1,none⟩ (.int .i64 sn)).heap[q]?=w.heap[q]?:=fun q hq=>by simp[World.setCell,Array.getElem?_modify,Ne.symm hq,n1 q hq]
 generalize hw2:w1.setCell ⟨cb,1,none⟩ (.int .i64 sn)=w2 at hh2 b2 n2
 have y2:w2.cell? ⟨cb,2,none⟩=some (.bool false):=by simp[World.cell?,hh2]
 have k2:w2.frozen? ⟨cb,2,none⟩=false:=by simp[World.frozen?,hh2]
 have hh3:(w2.setCell ⟨cb,2,none⟩ (.bool ch)).heap[cb]?=some (.cells #[.string nm,.int .i64 sn,.bool ch] 89):=by simp[World.setCell,Array.getElem?_modify,hh2]
 have b3:Bel d.lo w (w2.setCell ⟨cb,2,none⟩ (.bool ch)):=b2.setCell hlo _
 have n3:∀q,q≠cb→(w2.setCell ⟨cb,2,none⟩ (.bool ch)).heap[q]?=w.heap[q]?:=fun q hq=>by simp[World.setCell,Array.getElem?_modify,Ne.symm hq,n2 q hq]
 have hcbF:cb≠d.F:=by have:=hw.low.1;omega
 have es0:∀w es,(store (⟨cb,0,none⟩:Addr) (.string nm)).events prog w es=storedEv prog w es ⟨cb,0,none⟩ (.string nm) .plain:=fun _ _=>events_store _ _ _ _ _ _ rfl
 have es1:∀w es,(store (⟨cb,1,none⟩:Addr) (.int .i64 sn)).events prog w es=storedEv prog w es ⟨cb,1,none⟩ (.int .i64 sn) .plain:=fun _ _=>events_store _ _ _ _ _ _ rfl
 have es2:∀w es,(store (⟨cb,2,none⟩:Addr) (.bool ch)).events prog w es=storedEv prog w es ⟨cb,2,none⟩ (.bool ch) .plain:=fun _ _=>events_store _ _ _ _ _ _ rfl
 refine⟨fun f ev hev=>?_,?_⟩
 ·have hm:=mem_listed hev;simp[go_sem,s6,s14,y0,k0,hw1,y1,k1,hw2,y2,k2,es0,es1,es2,storedEv,stored] at hm
  rcases hm with rfl|rfl|rfl<;>exact vX hlo hcbF
 have hrun:(execOp a.eval wN).run prog w=.ok .skip (w2.setCell ⟨cb,2,none⟩ (.bool ch)):=by
  simp[go_sem,s6,s14,y0,k0,hw1,y1,k1,hw2,y2,k2,stored]
 rw[hrun];show bz r prog jR [] 1 Q (a.put none undef) _;apply eo;refine hQ _ _ cb ⟨hS.size,hS.defers,fun t x hx=>hS.get t x ?_⟩ (hw.uj b3) ?_ ?_ hlo hown (by simp[World.cell?,hh3]) (by simp[World.cell?,hh3])
 ·unfold ups at hx ⊢;by_cases t5:t=5
  ·simpa[t5] using hx
  by_cases t6:t=6
  ·simpa[t5,t6] using hx
  by_cases t12:t=12
  ·subst t12;simp[S0] at hx
  by_cases t13:t=13
  ·subst t13;simp[S0] at hx
  by_cases t14:t=14
  ·subst t14;simp[S0] at hx
  simpa[t5,t6,t12,t13,t14] using hx
 ·obtain⟨c,c1,c2⟩:=hc;exact⟨c,(n3 _ (Ne.symm hcbF)).trans c1,c2⟩
 ·refine⟨hr.1,hr.2.imp (fun h=>h) ?_⟩
  rintro⟨q,cap,cur,a1,a2,a3,a4⟩
  refine⟨q,cap,cur,a1,a2,(n3 q fun e=>hown ?_).trans a3,a4⟩;rw[a1,e];rfl
def al(d:WkD)(wg cb kk:Nat)(v:Value):RdD:={ d with cb:=cb,kk:=kk,wg:=wg,name:=(d.ab.getD kk (default,0,false)).1,cs:=(d.ab.getD kk (default,0,false)).2.1,cc:=(d.ab.getD kk (default,0,false)).2.2,hd:=v }
theorem Hh:gJ d (kk+1)=gJ d kk++[yQ d kk]:=by simp[gJ,List.range_succ]
def rN(d:WkD):Nat:=(4+((39*(qF d.zs.length+1)+1+1)+8+1+2)+1)+2+1+3+1
theorem Hi(h64:d.zs.length≤64)(hc8:d.ab.length≤1000)(hin:d.i<d.n){a:Act}{w:World}(hsz:a.tmps.size=54)(hds:a.defers=ds)(hcap:∀t,t<5→∀v,S0 d wg 0 t=some v→a.tmps[t]?.getD undef=v)(hw:WkW d w)(hc:fP d w (.slice none 0 0))(hQ:∀a w,a.defers=ds→WkW d w→(∃v,fP d w v∧eI d w v (gJ d d.ab.length))→Q .normal a w):@Code.wpN (a7 d.lo d.F d.i) r prog jv ((d.ab.length*(rN d+1)+rN d+1+2)+6+1) Q a w:=by
 letI:=a7 d.lo d.F d.i
 rw[Hf];obtain⟨R0,hR0⟩:∃R0,R0=rN d:=⟨_,rfl⟩;rw[←hR0];obtain⟨M0,hM0⟩:∃M0,M0=d.ab.length*(R0+1)+R0+1+2:=⟨_,rfl⟩;rw[←hM0];refine eX (N:=6) (M:=M0) ?_;refine fJ (N:=5) ?_;show bz r prog nZ [0,1,2,3] 5 _ a w;generalize hQ1:Exit.then _ _=Q1;have hr:eI d w (.slice none 0 0) (gJ d 0):=⟨rfl,.inl ⟨rfl,rfl⟩⟩
 have hS:Sl ds (fun t=>if t<5 then S0 d wg 0 t else none) a:=⟨hsz,hds,fun t v h=>by
  by_cases ht:t<5
  ·simp only[ht,if_true] at h;exact hcap t ht v h
  ·simp only[ht,if_false] at h;cases h⟩
 have s1:=hS.get 1 _ rfl
 refine bE (o:=wC) (N:=4) rfl rfl (by intro c h;cases h) fun w e1=>?_
 replace hw:=hw.mv e1;replace hc:=hc.mv e1;replace hr:=hr.mv e1;refine⟨fun f ev hev=>?_,?_⟩
 ·have hm:=mem_listed hev;simp[go_sem,s1] at hm
 have hrun:(execOp a.eval wC).run prog w=.ok (.value (.pointer (some ⟨d.rb,0,none⟩))) w:=by
  simp[go_sem,s1]
 rw[hrun];show bz r prog nZ _ 4 Q1 (a.put (some 7) (.pointer (some ⟨d.rb,0,none⟩))) w;replace hS:=hS.put (t:=7) (by decide) (.pointer (some ⟨d.rb,0,none⟩));generalize a.put (some 7) (.pointer (some ⟨d.rb,0,none⟩))=a at hS ⊢;clear hrun e1;have s7:=hS.get 7 _ rfl
 refine bE (o:=wD) (N:=3) rfl rfl (by intro c h;cases h) fun w e1=>?_
 replace hw:=hw.mv e1;replace hc:=hc.mv e1;replace hr:=hr.mv e1;have z1:=hw.oN;refine⟨fun f ev hev=>?_,?_⟩
 ·have hm:=mem_listed hev;simp[go_sem,s7,z1] at hm;subst hm;exact gz hw.apart.1
 have hrun:(execOp a.eval wD).run prog w=.ok (.value (.slice d.ca d.ab.length d.gI)) w:=by
  simp[go_sem,s7,z1]
 rw[hrun];show bz r prog nZ _ 3 Q1 (a.put (some 8) (.slice d.ca d.ab.length d.gI)) w;replace hS:=hS.put (t:=8) (by decide) (.slice d.ca d.ab.length d.gI);generalize a.put (some 8) (.slice d.ca d.ab.length d.gI)=a at hS ⊢;clear hrun e1;clear z1;have s8:=hS.get 8 _ rfl
 refine bE (o:=wE) (N:=2) rfl rfl (by intro c h;cases h) fun w e1=>?_
 replace hw:=hw.mv e1;replace hc:=hc.mv e1;replace hr:=hr.mv e1;refine⟨fun f ev hev=>?_,?_⟩
 ·have hm:=mem_listed hev;simp[go_sem,s8] at hm
 have hrun:(execOp a.eval wE).run prog w=.ok (.value (.int .i64 d.ab.length)) w:=by
  simp[go_sem,s8]
 rw[hrun];show bz r prog nZ _ 2 Q1 (a.put (some 9) (.int .i64 d.ab.length)) w;replace hS:=hS.put (t:=9) (by decide) (.int .i64 d.ab.length);generalize a.put (some 9) (.int .i64 d.ab.length)=a at hS ⊢;clear hrun e1
 refine bE (o:=wF) (N:=1) rfl rfl (by intro c h;cases h) fun w e1=>?_
 replace hw:=hw.mv e1;replace hc:=hc.mv e1;replace hr:=hr.mv e1;refine⟨fun f ev hev=>?_,?_⟩
 ·have hm:=mem_listed hev;simp[go_sem] at hm
 have hrun:(execOp a.eval wF).run prog w=.ok (.value (.int .i64 0)) w:=by
  simp[go_sem]
 rw[hrun];show bz r prog nZ _ 1 Q1 (a.put (some 10) (.int .i64 0)) w;replace hS:=hS.put (t:=10) (by decide) (.int .i64 0);generalize a.put (some 10) (.int .i64 0)=a at hS ⊢;clear hrun e1;subst hQ1;apply eo;show Code.wpN r prog _ _ _ _ _;rw[hM0];refine rl (N:=d.ab.length*(R0+1)+R0+1) ?_
 have hS0:Sl ds (S0 d wg 0) a:=⟨hS.size,hS.defers,fun t v h=>hS.get t v (by
  unfold S0 at h;unfold ups
  match t with
  |0=>simpa[S0] using h
  |1=>simpa[S0] using h
  |2=>simpa[S0] using h
  |3=>simpa[S0] using h
  |4=>simpa[S0] using h
  |5=>cases h
  |6=>cases h
  |7=>cases h
  |8=>simpa using h
  |9=>simpa using h
  |10=>simpa using h
  |t+11=>cases h)⟩
 clear hS s1 s7 s8 hcap hsz hds;refine zO (I:=fun m a w=>∃kk v,m+kk=d.ab.length∧Sl ds (S0 d wg kk) a∧WkW d w∧fP d w v∧eI d w v (gJ d kk)) d.ab.length R0 ⟨0,_,by omega,hS0,hw,hc,hr⟩ ?_;clear hS0 hw hc hr
 rintro m a w ⟨kk,v,hm,hS,hw,hc,hr⟩
 obtain⟨C,hC⟩:∃C,C=qF d.zs.length+1:=⟨_,rfl⟩
 have hR1:R0=(4+((39*C+1+1)+8+1+2)+1)+2+1+3+1:=by rw[hR0,hC];rfl
 rw[hR1];refine eX (N:=3) (M:=(4+((39*C+1+1)+8+1+2)+1)+2+1) ?_;refine fJ (N:=2) ?_;show bz r prog wH [0] 2 _ a w;generalize hQ1:Exit.then _ _=Q1;have s10:=hS.get 10 _ rfl;have s9:=hS.get 9 _ rfl
 refine bE (o:=wG) (N:=1) rfl rfl (by intro c h;cases h) fun w e1=>?_
 replace hw:=hw.mv e1;replace hc:=hc.mv e1;replace hr:=hr.mv e1;refine⟨fun f ev hev=>?_,?_⟩
 ·have hm:=mem_listed hev;simp[go_sem,s10,s9] at hm
 have hrun:(execOp a.eval wG).run prog w=.ok (.value (.bool (decide ((kk:Int)<(d.ab.length:Int))))) w:=by
  simp[go_sem,s10,s9]
 rw[hrun];show bz r prog wH _ 1 Q1 (a.put (some 11) (.bool (decide ((kk:Int)<(d.ab.length:Int))))) w;replace hS:=hS.put (t:=11) (by decide) (.bool (decide ((kk:Int)<(d.ab.length:Int))));generalize a.put (some 11) (.bool (decide ((kk:Int)<(d.ab.length:Int))))=a at hS ⊢;clear hrun e1;subst hQ1;apply eo;refine eX (N:=2) (M:=4+((39*C+1+1)+8+1+2)+1) ?_;have s11:=hS.get 11 _ rfl;refine vn (N:=1) (t:=decide ((kk:Int)<(d.ab.length:Int))) (by simpa[Act.eval] using s11) ?_
 have hS':Sl ds (S0 d wg kk) a:=⟨hS.size,hS.defers,fun t v h=>hS.get t v (by
  unfold ups;by_cases e:t=11
  ·subst e;simp[S0] at h
  ·simp only[e,if_false];exact h)⟩
 clear hS s10 s9 s11;by_cases hlt:kk<d.ab.length
 ·have hlt':decide ((kk:Int)<(d.ab.length:Int))=true:=by simpa using hlt
  simp only[hlt',if_true];apply vl;refine eX (N:=(39*C+1+1)+8+1+2) (M:=4) ?_;refine rl (N:=(39*C+1+1)+8+1) ?_;refine eX (N:=8) (M:=39*C+1+1) ?_
  refine Hg hlt hS' hw hc hr fun a w cb hS hw hc hr hcb hown y1 y2=>?_
  show Code.wpN r prog _ _ _ _ _;have hrd:RdW (al d wg cb kk v) w:=⟨hw,hin,hcb,y1,y2⟩;rw[hC]
  refine He (d:=al d wg cb kk v) (ds:=ds) (l:=gJ d kk) h64 (by simp[gJ];omega) hown hrd hS.size hS.defers (fun t ht=>?_) hc hr fun a w hrd hsz hds hb hfin=>?_
  ·obtain⟨h1,h2⟩:=ht
   match t with
   |0=>exact hS.get 0 _ rfl
   |1=>exact hS.get 1 _ rfl
   |2=>exact hS.get 2 _ rfl
   |3=>exact hS.get 3 _ rfl
   |4=>exact hS.get 4 _ rfl
   |5=>exact hS.get 5 _ rfl
   |6=>exact hS.get 6 _ rfl
   |7=>exact absurd rfl h2
   |8=>exact hS.get 8 _ rfl
   |9=>exact hS.get 9 _ rfl
   |10=>exact hS.get 10 _ rfl
   |t+11=>omega
  obtain⟨v',hc,hr⟩:=hfin;have hw:WkW d w:=hrd.wk;replace hc:fP d w v':=hc
  replace hr:eI d w v' (gJ d (kk+1)):=by rw[Hh];exact hr
  have hS:Sl ds (S0 d wg kk) a:=⟨hsz,hds,fun t x hx=>by
   unfold S0 at hx
   match t with
   |0=>cases hx;exact hb 0 (by decide)
   |1=>cases hx;exact hb 1 (by decide)
   |2=>cases hx;exact hb 2 (by decide)
   |3=>cases hx;exact hb 3 (by decide)
   |4=>cases hx;exact hb 4 (by decide)
   |5=>cases hx
   |6=>cases hx
   |7=>cases hx
   |8=>cases hx;exact hb 8 (by decide)
   |9=>cases hx;exact hb 9 (by decide)
   |10=>cases hx;exact hb 10 (by decide)
   |t+11=>cases hx⟩
  clear hb hsz hds hrd;show Code.wpN r prog _ _ _ _ _;refine fJ (N:=3) ?_;show bz r prog sr [0,1] 3 _ a w;generalize hQ1:Exit.then _ _=Q1;have s10:=hS.get 10 _ rfl
  have hwr:IntKind.i64.wrap ((kk:Int)+1)=((kk+1:Nat):Int):=by rw[IntKind.wrap_i64];omega
  refine bE (o:=wO) (N:=2) rfl rfl (by intro c h;cases h) fun w e1=>?_
  replace hw:=hw.mv e1;replace hc:=hc.mv e1;replace hr:=hr.mv e1;refine⟨fun f ev hev=>?_,?_⟩
  ·have hm:=mem_listed hev;simp[go_sem,s10,hwr] at hm
  have hrun:(execOp a.eval wO).run prog w=.ok (.value (.int .i64 ((kk+1:Nat):Int))) w:=by
   simp[go_sem,s10,hwr]
  rw[hrun];show bz r prog sr _ 2 Q1 (a.put (some 53) (.int .i64 ((kk+1:Nat):Int))) w;replace hS:=hS.put (t:=53) (by decide) (.int .i64 ((kk+1:Nat):Int));generalize a.put (some 53) (.int .i64 ((kk+1:Nat):Int))=a at hS ⊢;clear hrun e1;have s53:=hS.get 53 _ rfl
  refine bE (o:=wP) (N:=1) rfl rfl (by intro c h;cases h) fun w e1=>?_
  replace hw:=hw.mv e1;replace hc:=hc.mv e1;replace hr:=hr.mv e1;refine⟨fun f ev hev=>?_,?_⟩
  ·have hm:=mem_listed hev;simp[go_sem,s53] at hm
  have hrun:(execOp a.eval wP).run prog w=.ok (.value (.int .i64 ((kk+1:Nat):Int))) w:=by
   simp[go_sem,s53]
  rw[hrun];show bz r prog sr _ 1 Q1 (a.put (some 10) (.int .i64 ((kk+1:Nat):Int))) w;replace hS:=hS.put (t:=10) (by decide) (.int .i64 ((kk+1:Nat):Int));generalize a.put (some 10) (.int .i64 ((kk+1:Nat):Int))=a at hS ⊢;clear hrun e1;subst hQ1;apply eo;refine⟨m-1,by omega,kk+1,v',by omega,⟨hS.size,hS.defers,fun t x hx=>hS.get t x ?_⟩,hw,hc,hr⟩;unfold S0 at hx;unfold ups
  match t with
  |0=>simpa[S0] using hx
  |1=>simpa[S0] using hx
  |2=>simpa[S0] using hx
  |3=>simpa[S0] using hx
  |4=>simpa[S0] using hx
  |5=>cases hx
  |6=>cases hx
  |7=>cases hx
  |8=>simpa[S0] using hx
  |9=>simpa[S0] using hx
  |10=>simpa[S0] using hx
  |t+11=>cases hx
 ·have hlt':decide ((kk:Int)<(d.ab.length:Int))=false:=by simpa using hlt
  simp only[hlt',Bool.false_eq_true,if_false];refine rj (N:=0) ?_ (by decide);apply zN;show Exit.inBlock 0 Q (.exit 0) a w;simp only[Exit.inBlock,if_true]
  have hk:kk=d.ab.length:=by omega
  subst hk;exact hQ a w hS'.defers hw ⟨v,hc,hr⟩
end
abbrev wQ:Oper:=⟨some 25,(.fieldAddr 27 (.tmp 1) 1),0, "dispatch.go:117",#[],none⟩
abbrev wR:Oper:=⟨some 26,(.load 23 (.tmp 25)),23, "dispatch.go:117",#[⟨0,.data⟩],none⟩
abbrev wS:Oper:=⟨some 27,(.call ⟨(.builtin .len),#[(.tmp 26)],#[23]⟩),3, "dispatch.go:117",#[⟨1,.data⟩],none⟩
abbrev wT:Oper:=⟨some 28,(.move (.const (.int .i64 0))),3, "dispatch.go:117",#[],none⟩
abbrev AP:Array Oper:=#[wQ,wR,wS,wT]
abbrev wU:Oper:=⟨some 29,(.binOp .lss 3 (.tmp 28) (.tmp 27) 3),0, "dispatch.go:117",#[],none⟩
abbrev su:Array Oper:=#[wU]
abbrev wV:Oper:=⟨some 30,(.move (.tmp 28)),3, "dispatch.go:117",#[],none⟩
abbrev wW:Oper:=⟨some 31,(.indexAddr 23 (.tmp 26) (.tmp 28)),0, "dispatch.go:117",#[],none⟩
abbrev wX:Oper:=⟨some 32,(.load 91 (.tmp 31)),91, "dispatch.go:117",#[⟨1,.data⟩],none⟩
abbrev wY:Oper:=⟨some 8,(.alloc 3),0, "dispatch.go:117",#[],none⟩
abbrev wZ:Oper:=⟨some 9,(.alloc 91),0, "dispatch.go:117",#[],none⟩
abbrev w9:Oper:=⟨none,(.store 3 (.tmp 8) (.tmp 30)),0, "dispatch.go:117",#[⟨3,.data⟩,⟨0,.data⟩,⟨0,.phase⟩,⟨1,.phase⟩,⟨2,.phase⟩,⟨3,.phase⟩,⟨4,.phase⟩],none⟩
abbrev xc:Oper:=⟨none,(.store 91 (.tmp 9) (.tmp 32)),0, "dispatch.go:117",#[⟨4,.data⟩,⟨2,.data⟩,⟨5,.chain⟩,⟨0,.phase⟩,⟨1,.phase⟩,⟨2,.phase⟩,⟨3,.phase⟩,⟨4,.phase⟩,⟨5,.phase⟩],none⟩
abbrev iG:Array Oper:=#[wV,wW,wX,wY,wZ,w9,xc]
abbrev AQ:Oper:=⟨some 33,(.call ⟨(.value (.func 112)),#[.tmp 7,(.const (.int .i64 1))],#[147,3]⟩),0, "dispatch.go:118",#[],none⟩
abbrev pJ:Array Oper:=#[AQ]
abbrev xd:Oper:=⟨some 34,(.makeFunc (.func 113) #[] #[.tmp 7,.tmp 1,.tmp 6,.tmp 8,(.tmp 9)]),1, "dispatch.go:119",#[],none⟩
abbrev n9:Oper:=⟨none,(.go ⟨(.value (.tmp 34)),#[],#[]⟩),0, "dispatch.go:119",#[⟨0,.data⟩],none⟩
abbrev jS:Array Oper:=#[xd,n9]
abbrev xe:Oper:=⟨some 35,(.binOp .add 3 (.tmp 28) (.const (.int .i64 1)) 3),3, "dispatch.go:117",#[],none⟩
abbrev xg:Oper:=⟨some 28,(.move (.tmp 35)),3, "dispatch.go:117",#[⟨0,.data⟩],none⟩
abbrev gZ:Array Oper:=#[xe,xg]
abbrev AR:Oper:=⟨some 36,(.call ⟨(.value (.func 115)),#[(.tmp 7)],#[147]⟩),0, "dispatch.go:126",#[],none⟩
abbrev mR:Array Oper:=#[AR]
abbrev AS:Oper:=⟨some 37,(.load 92 (.tmp 6)),92, "dispatch.go:127",#[],none⟩
abbrev AT:Oper:=⟨some 2,(.assign (.tmp 37)),92, "dispatch.go:127",#[⟨0,.data⟩,⟨0,.phase⟩],none⟩
abbrev AU:Oper:=⟨some 3,(.assign (.const (.int .i64 0))),33, "dispatch.go:127",#[⟨1,.chain⟩,⟨0,.phase⟩,⟨1,.phase⟩],none⟩
abbrev lB:Array Oper:=#[AS,AT,AU]
structure SlS(S:Nat→Option Value)(a:Act):Prop where
 size:a.tmps.size=38
 defers:a.defers=[]
 get:∀t v,S t=some v→a.tmps[t]?.getD undef=v
theorem SlS.put{S:Nat→Option Value}{a:Act}(h:SlS S a){t:Nat}(ht:t<38)(v:Value):SlS (ups S t v) (a.put (some t) v):=by
 refine⟨rW.trans h.size,rX.trans h.defers,fun u x hx=>?_⟩;rw[gX (by rw[h.size];exact ht)];unfold ups at hx;by_cases e:t=u
 ·subst e;simp only[if_true] at hx;rw[if_pos rfl];exact Option.some.inj hx
 ·rw[if_neg (Ne.symm e)] at hx;rw[if_neg e];exact h.get u x hx
def jw(F:Nat)(w:World)(a0:Option Addr)(os:List (ByteArray×Int×Bool×Int)):Prop:=
 ∀j,j<os.length→∃b off,a0=some ⟨b,off,none⟩∧b≠F∧w.cell? ⟨b,off+j*4,none⟩=some (.string (os.getD j (default,0,false,0)).1)∧w.cell? ⟨b,off+j*4+1,none⟩=some (.int .i64 (os.getD j (default,0,false,0)).2.1) ∧
  w.cell? ⟨b,off+j*4+2,none⟩=some (.bool (os.getD j (default,0,false,0)).2.2.1)∧w.cell? ⟨b,off+j*4+3,none⟩=some (.int .i64 (os.getD j (default,0,false,0)).2.2.2)
theorem jw.mv{F:Nat}{w w1:World}{a0:Option Addr}{os:List (ByteArray×Int×Bool×Int)}(h:jw F w a0 os)(e:Bel w.heap.size w w1):jw F w1 a0 os:=
 fun j hj=>let ⟨b,off,h1,h2,h3,h4,h5,h6⟩:=h j hj;⟨b,off,h1,h2,e.cellAt h3,e.cellAt h4,e.cellAt h5,e.cellAt h6⟩
def S20(wg rb xv:Nat)(oa:Option Addr)(bj n kk:Nat):Nat→Option Value:=fun t=>match t with
 |1=>some (.pointer (some ⟨rb,0,none⟩))|6=>some (.pointer (some ⟨xv,0,none⟩))|7=>some (.pointer (some ⟨wg,0,none⟩))|26=>some (.slice oa n bj)|27=>some (.int .i64 n)|28=>some (.int .i64 kk)|_=>none
section
variable{F lo k wg rb xv bj kk:Nat}{oa:Option Addr}{os:List (ByteArray×Int×Bool×Int)}{r:Option Nat}{Q:Exit→Act→World→Prop}
theorem Hj{n:Nat}(hn:n≤1000)(hkn:kk≤n){a:Act}{w:World}(hS:SlS (S20 wg rb xv oa bj n kk) a)(I:World→Prop)(hI:∀w w1,I w→Bel w.heap.size w w1→I w1)(hw:I w){id:Nat}(hQ:∀a w,SlS (S20 wg rb xv oa bj n kk) a→a.tmps[29]?.getD undef=.bool (decide (kk<n))→I w→Q .normal a w):@Code.wpN (a7 lo F k) r prog (.region id su false) 3 Q a w:=by
 letI:=a7 lo F k
 refine fJ (N:=2) ?_;show bz r prog su [0] 2 Q a w;have s28:=hS.get 28 _ rfl;have s27:=hS.get 27 _ rfl
 refine bE (o:=wU) (N:=1) rfl rfl (by intro c h;cases h) fun w1 e1=>?_
 replace hw:=hI _ _ hw e1;refine⟨fun f ev hev=>?_,?_⟩
 ·have hm:=mem_listed hev;simp[go_sem,s28,s27] at hm
 have hrun:(execOp a.eval wU).run prog w1=.ok (.value (.bool (decide (kk<n)))) w1:=by
  simp[go_sem,s28,s27]
 rw[hrun];show bz r prog su _ 1 Q (a.put (some 29) _) w1;apply eo;have hS2:=hS.put (t:=29) (by decide) (.bool (decide (kk<n)));refine hQ _ _ ⟨hS2.size,hS2.defers,fun t v h=>hS2.get t v ?_⟩ (hS2.get 29 _ rfl) hw;unfold ups;by_cases e:t=29
 ·subst e;simp[S20] at h
 ·simp only[e,if_false];exact h
theorem Hk{n:Nat}(hn:n≤1000)(hkn:kk≤n){a:Act}{w:World}(hS:SlS (S20 wg rb xv oa bj n kk) a)(I:World→Prop)(hI:∀w w1,I w→Bel w.heap.size w w1→I w1)(hw:I w){id:Nat}(hQ:∀a w,SlS (S20 wg rb xv oa bj n (kk+1)) a→I w→Q .normal a w):@Code.wpN (a7 lo F k) r prog (.region id gZ false) 4 Q a w:=by
 letI:=a7 lo F k
 refine fJ (N:=3) ?_;show bz r prog gZ [0,1] 3 Q a w;have s28:=hS.get 28 _ rfl
 have hwr:IntKind.i64.wrap ((kk:Int)+1)=((kk+1:Nat):Int):=by rw[IntKind.wrap_i64];omega
 refine bE (o:=xe) (N:=2) rfl rfl (by intro c h;cases h) fun w1 e1=>?_
 replace hw:=hI _ _ hw e1;refine⟨fun f ev hev=>?_,?_⟩
 ·have hm:=mem_listed hev;simp[go_sem,s28,hwr] at hm
 have hrun:(execOp a.eval xe).run prog w1=.ok (.value (.int .i64 ((kk+1:Nat):Int))) w1:=by
  simp[go_sem,s28,hwr]
 rw[hrun];show bz r prog gZ _ 2 Q (a.put (some 35) _) w1;replace hS:=hS.put (t:=35) (by decide) (.int .i64 ((kk+1:Nat):Int));generalize a.put (some 35) (.int .i64 ((kk+1:Nat):Int))=a at hS ⊢;have sx:=hS.get 35 _ rfl
 refine bE (o:=xg) (N:=1) rfl rfl (by intro c h;cases h) fun w2 e2=>?_
 replace hw:=hI _ _ hw e2;refine⟨fun f ev hev=>?_,?_⟩
 ·have hm:=mem_listed hev;simp[go_sem,sx] at hm
 have hrun:(execOp a.eval xg).run prog w2=.ok (.value (.int .i64 ((kk+1:Nat):Int))) w2:=by
  simp[go_sem,sx]
 rw[hrun];show bz r prog gZ _ 1 Q (a.put (some 28) _) w2;replace hS:=hS.put (t:=28) (by decide) (.int .i64 ((kk+1:Nat):Int));apply eo;refine hQ _ _ ⟨hS.size,hS.defers,fun t v h=>hS.get t v ?_⟩ hw;unfold S20 at h;unfold ups
 match t with
 |1=>simpa[S20] using h
 |6=>simpa[S20] using h
 |7=>simpa[S20] using h
 |26=>simpa[S20] using h
 |27=>simpa[S20] using h
 |28=>simpa[S20] using h
 |0|2|3|4|5|8|9|10|11|12|13|14|15|16|17|18|19|20|21|22|23|24|25=>cases h
 |t+29=>cases h
end
section
variable{F lo k wg rb xv bj kk:Nat}{oa:Option Addr}{os:List (ByteArray×Int×Bool×Int)}{r:Option Nat}{Q:Exit→Act→World→Prop}
theorem Hl(hF:F<lo){n:Nat}(hn:n=os.length)(hk:kk<n){a:Act}{w:World}(hS:SlS (S20 wg rb xv oa bj n kk) a)(hlo:lo≤w.heap.size)(I:World→Prop)(hI:∀w w1,I w→Bel w.heap.size w w1→I w1)(hI2:∀w w1,I w→lo≤w.heap.size→Bel lo w w1→I w1)(hw:I w)(ho:jw F w oa os){id:Nat}(hQ:∀a w ib ob,SlS (ups (ups (S20 wg rb xv oa bj n kk) 8 (.pointer (some ⟨ib,0,none⟩))) 9 (.pointer (some ⟨ob,0,none⟩))) a→I w→lo≤w.heap.size→lo≤ib→lo≤ob→ib≠ob→w.heap[ib]?=some (.cells #[.int .i64 kk] 3)→w.heap[ob]?=some (.cells #[.string (os.getD kk (default,0,false,0)).1,.int .i64 (os.getD kk (default,0,false,0)).2.1,.bool (os.getD kk (default,0,false,0)).2.2.1,.int .i64 (os.getD kk (default,0,false,0)).2.2.2] 91)→Q .normal a w):@Code.wpN (a7 lo F k) r prog (.region id iG false) 9 Q a w:=by
 letI:=a7 lo F k
 obtain⟨b,off,hoa,hbF,_,_,_,_⟩:=ho kk (by omega)
 have hcs:∀w,jw F w oa os→w.cell? ⟨b,off+kk*4,none⟩=some (.string (os.getD kk (default,0,false,0)).1)∧w.cell? ⟨b,off+kk*4+1,none⟩=some (.int .i64 (os.getD kk (default,0,false,0)).2.1)∧w.cell? ⟨b,off+kk*4+2,none⟩=some (.bool (os.getD kk (default,0,false,0)).2.2.1)∧w.cell? ⟨b,off+kk*4+3,none⟩=some (.int .i64 (os.getD kk (default,0,false,0)).2.2.2):=fun w hw=>by
  obtain⟨b',off',e,_,h4,h5,h6,h7⟩:=hw kk (by omega);rw[hoa] at e;cases e;exact⟨h4,h5,h6,h7⟩
 generalize (os.getD kk (default,0,false,0)).1=nm,(os.getD kk (default,0,false,0)).2.1=sn,(os.getD kk (default,0,false,0)).2.2.1=ch,(os.getD kk (default,0,false,0)).2.2.2=pr at hcs hQ;refine fJ (N:=8) ?_;show bz r prog iG [0,1,2,3,4,5,6] 8 Q a w;have s28:=hS.get 28 _ rfl
 refine bE (o:=wV) (N:=7) rfl rfl (by intro c h;cases h) fun w1 e1=>?_
 replace hw:=hI _ _ hw e1;replace ho:=ho.mv e1;replace hlo:=Nat.le_trans hlo e1.size;refine⟨fun f ev hev=>?_,?_⟩
 ·have hm:=mem_listed hev;simp[go_sem,s28] at hm
 have hrun:(execOp a.eval wV).run prog w1=.ok (.value (.int .i64 kk)) w1:=by
  simp[go_sem,s28]
 rw[hrun];show bz r prog iG _ 7 Q (a.put (some 30) (.int .i64 kk)) w1;replace hS:=hS.put (t:=30) (by decide) (.int .i64 kk);generalize a.put (some 30) (.int .i64 kk)=a at hS ⊢;clear hrun e1;generalize w1=w at *;have s28:=hS.get 28 _ rfl;have s26:=hS.get 26 _ rfl;rw[hoa] at s26
 refine bE (o:=wW) (N:=6) rfl rfl (by intro c h;cases h) fun w1 e1=>?_
 replace hw:=hI _ _ hw e1;replace ho:=ho.mv e1;replace hlo:=Nat.le_trans hlo e1.size;refine⟨fun f ev hev=>?_,?_⟩
 ·have hm:=mem_listed hev;simp[go_sem,s28,s26,hk] at hm
 have hrun:(execOp a.eval wW).run prog w1=.ok (.value (.pointer (some ⟨b,off+kk*4,none⟩))) w1:=by
  simp[go_sem,s28,s26,hk]
 rw[hrun];show bz r prog iG _ 6 Q (a.put (some 31) (.pointer (some ⟨b,off+kk*4,none⟩))) w1;replace hS:=hS.put (t:=31) (by decide) (.pointer (some ⟨b,off+kk*4,none⟩));generalize a.put (some 31) (.pointer (some ⟨b,off+kk*4,none⟩))=a at hS ⊢;clear hrun e1;generalize w1=w at *;have s31:=hS.get 31 _ rfl
 refine bE (o:=wX) (N:=5) rfl rfl (by intro c h;cases h) fun w1 e1=>?_
 replace hw:=hI _ _ hw e1;replace ho:=ho.mv e1;replace hlo:=Nat.le_trans hlo e1.size;obtain⟨z1,z2,z3,z4⟩:=hcs w1 ho;refine⟨fun f ev hev=>?_,?_⟩
 ·have hm:=mem_listed hev;simp[go_sem,s31,z1,z2,z3,z4] at hm
  rcases hm with rfl|rfl|rfl|rfl<;>exact mP (fun e=>absurd e hbF)
 have hrun:(execOp a.eval wX).run prog w1=.ok (.value (.agg #[.string nm,.int .i64 sn,.bool ch,.int .i64 pr])) w1:=by
  simp[go_sem,s31,z1,z2,z3,z4]
 rw[hrun];show bz r prog iG _ 5 Q (a.put (some 32) (.agg #[.string nm,.int .i64 sn,.bool ch,.int .i64 pr])) w1;replace hS:=hS.put (t:=32) (by decide) (.agg #[.string nm,.int .i64 sn,.bool ch,.int .i64 pr]);generalize a.put (some 32) (.agg #[.string nm,.int .i64 sn,.bool ch,.int .i64 pr])=a at hS ⊢;clear hrun e1;generalize w1=w at *;clear z1 z2 z3 z4
 refine bE (o:=wY) (N:=4) rfl rfl (by intro c h;cases h) fun w1 e1=>?_
 replace hw:=hI _ _ hw e1;replace ho:=ho.mv e1;replace hlo:=Nat.le_trans hlo e1.size;refine⟨fun f ev hev=>?_,?_⟩
 ·have hm:=mem_listed hev;simp[go_sem] at hm
 have hrun:(execOp a.eval wY).run prog w1=.ok (.value (.pointer (some ⟨w1.heap.size,0,none⟩))) (w1.alloc (.cells #[.int .i64 0] 3)):=by
  simp[go_sem]
  try rfl
 rw[hrun];clear hrun e1;have hal:Bel w1.heap.size w1 (w1.alloc (.cells #[.int .i64 0] 3)):=(Bel.refl _ _).alloc (Nat.le_refl _) _
 have hib:(w1.alloc (.cells #[.int .i64 0] 3)).heap[w1.heap.size]?=some (.cells #[.int .i64 0] 3):=by
  show (w1.heap.push _)[w1.heap.size]?=_;simp
 have lib:=hlo;replace hw:=hI _ _ hw hal;replace ho:=ho.mv hal;replace hlo:=Nat.le_trans hlo hal.size;show bz r prog iG _ 4 Q (a.put (some 8) (.pointer (some ⟨w1.heap.size,0,none⟩))) _;replace hS:=hS.put (t:=8) (by decide) (.pointer (some ⟨w1.heap.size,0,none⟩));generalize a.put (some 8) (.pointer (some ⟨w1.heap.size,0,none⟩))=a at hS ⊢;clear hal;generalize w1.heap.size=ib at *;generalize (w1.alloc (.cells #[.int .i64 0] 3))=w at *
 refine bE (o:=wZ) (N:=3) rfl rfl (by intro c h;cases h) fun w1 e1=>?_
 replace hw:=hI _ _ hw e1;replace ho:=ho.mv e1;replace hlo:=Nat.le_trans hlo e1.size;replace hib:=(e1.block _ (Array.getElem?_eq_some_iff.1 hib).1).trans hib;refine⟨fun f ev hev=>?_,?_⟩
 ·have hm:=mem_listed hev;simp[go_sem] at hm
 have hrun:(execOp a.eval wZ).run prog w1=.ok (.value (.pointer (some ⟨w1.heap.size,0,none⟩))) (w1.alloc (.cells #[.string default,.int .i64 0,.bool false,.int .i64 0] 91)):=by
  simp[go_sem]
  try rfl
 rw[hrun];clear hrun e1;have hal:Bel w1.heap.size w1 (w1.alloc (.cells #[.string default,.int .i64 0,.bool false,.int .i64 0] 91)):=(Bel.refl _ _).alloc (Nat.le_refl _) _
 have hob:(w1.alloc (.cells #[.string default,.int .i64 0,.bool false,.int .i64 0] 91)).heap[w1.heap.size]?=some (.cells #[.string default,.int .i64 0,.bool false,.int .i64 0] 91):=by
  show (w1.heap.push _)[w1.heap.size]?=_;simp
 have lob:=hlo;replace hw:=hI _ _ hw hal;replace ho:=ho.mv hal;replace hlo:=Nat.le_trans hlo hal.size
 have hne:ib≠w1.heap.size:=by have:=(Array.getElem?_eq_some_iff.1 hib).1;omega
 replace hib:=(hal.block _ (Array.getElem?_eq_some_iff.1 hib).1).trans hib;show bz r prog iG _ 3 Q (a.put (some 9) (.pointer (some ⟨w1.heap.size,0,none⟩))) _;replace hS:=hS.put (t:=9) (by decide) (.pointer (some ⟨w1.heap.size,0,none⟩));generalize a.put (some 9) (.pointer (some ⟨w1.heap.size,0,none⟩))=a at hS ⊢;clear hal;generalize w1.heap.size=ob at *;generalize (w1.alloc (.cells #[.string default,.int .i64 0,.bool false,.int .i64 0] 91))=w at *;have s8:=hS.get 8 _ rfl;have s9:=hS.get 9 _ rfl;have s30:=hS.get 30 _ rfl;have s32:=hS.get 32 _ rfl
 have hibF:ib≠F:=by omega
 have hobF:ob≠F:=by omega
 refine bE (o:=w9) (N:=2) rfl rfl (by intro c h;cases h) fun w1 e1=>?_
 replace hw:=hI _ _ hw e1;replace hlo:=Nat.le_trans hlo e1.size;replace hib:=(e1.block _ (Array.getElem?_eq_some_iff.1 hib).1).trans hib;replace hob:=(e1.block _ (Array.getElem?_eq_some_iff.1 hob).1).trans hob
 have y0:w1.cell? ⟨ib,0,none⟩=some (.int .i64 0):=by simp[World.cell?,hib]
 have k0:w1.frozen? ⟨ib,0,none⟩=false:=by simp[World.frozen?,hib]
 have es0:∀w es,(store (⟨ib,0,none⟩:Addr) (.int .i64 (kk:Int))).events prog w es=storedEv prog w es ⟨ib,0,none⟩ (.int .i64 (kk:Int)) .plain:=fun _ _=>events_store _ _ _ _ _ _ rfl
 refine⟨fun f ev hev=>?_,?_⟩
 ·have hm:=mem_listed hev;simp[go_sem,s8,s30,y0,k0,es0,storedEv,stored] at hm;subst hm;exact vX lib hibF
 have hrun:(execOp a.eval w9).run prog w1=.ok .skip (w1.setCell ⟨ib,0,none⟩ (.int .i64 kk)):=by
  simp[go_sem,s8,s30,y0,k0,stored]
 rw[hrun];show bz r prog iG _ 2 Q (a.put none undef) _;have b1:Bel lo w1 (w1.setCell ⟨ib,0,none⟩ (.int .i64 kk)):=(Bel.refl _ _).setCell lib _
 have hib2:(w1.setCell ⟨ib,0,none⟩ (.int .i64 kk)).heap[ib]?=some (.cells #[.int .i64 kk] 3):=by simp[World.setCell,Array.getElem?_modify,hib]
 have hob2:(w1.setCell ⟨ib,0,none⟩ (.int .i64 kk)).heap[ob]?=some (.cells #[.string default,.int .i64 0,.bool false,.int .i64 0] 91):=by simp[World.setCell,Array.getElem?_modify,hne,hob]
 replace hw:=hI2 _ _ hw hlo b1;replace hlo:=Nat.le_trans hlo b1.size;clear hrun y0 k0 es0 b1 hib hob e1;generalize w1.setCell ⟨ib,0,none⟩ (.int .i64 kk)=w at *;show bz r prog iG _ 2 Q a w
 refine bE (o:=xc) (N:=1) rfl rfl (by intro c h;cases h) fun w2 e1=>?_
 replace hw:=hI _ _ hw e1;replace hlo:=Nat.le_trans hlo e1.size;replace hib2:=(e1.block _ (Array.getElem?_eq_some_iff.1 hib2).1).trans hib2;replace hob2:=(e1.block _ (Array.getElem?_eq_some_iff.1 hob2).1).trans hob2
 have y0:w2.cell? ⟨ob,0,none⟩=some (.string default):=by simp[World.cell?,hob2]
 have k0:w2.frozen? ⟨ob,0,none⟩=false:=by simp[World.frozen?,hob2]
 have h1:(w2.setCell ⟨ob,0,none⟩ (.string nm)).heap[ob]?=some (.cells #[.string nm,.int .i64 0,.bool false,.int .i64 0] 91):=by simp[World.setCell,Array.getElem?_modify,hob2]
 have n1:(w2.setCell ⟨ob,0,none⟩ (.string nm)).heap[ib]?=w2.heap[ib]?:=by simp[World.setCell,Array.getElem?_modify,Ne.symm hne]
 have b1:Bel lo w2 (w2.setCell ⟨ob,0,none⟩ (.string nm)):=(Bel.refl _ _).setCell lob _;generalize hw1:w2.setCell ⟨ob,0,none⟩ (.string nm)=wa at h1 n1 b1
 have y1:wa.cell? ⟨ob,1,none⟩=some (.int .i64 0):=by simp[World.cell?,h1]
 have k1:wa.frozen? ⟨ob,1,none⟩=false:=by simp[World.frozen?,h1]
 have h2:(wa.setCell ⟨ob,1,none⟩ (.int .i64 sn)).heap[ob]?=some (.cells #[.string nm,.int .i64 sn,.bool false,.int .i64 0] 91):=by simp[World.setCell,Array.getElem?_modify,h1]
 have n2:(wa.setCell ⟨ob,1,none⟩ (.int .i64 sn)).heap[ib]?=w2.heap[ib]?:=by simp[World.setCell,Array.getElem?_modify,Ne.symm hne,n1]
 have b2:Bel lo w2 (wa.setCell ⟨ob,1,none⟩ (.int .i64 sn)):=b1.setCell lob _;generalize hw2:wa.setCell ⟨ob,1,none⟩ (.int .i64 sn)=wb at h2 n2 b2
 have y2:wb.cell? ⟨ob,2,none⟩=some (.bool false):=by simp[World.cell?,h2]
 have k2:wb.frozen? ⟨ob,2,none⟩=false:=by simp[World.frozen?,h2]
 have h3:(wb.setCell ⟨ob,2,none⟩ (.bool ch)).heap[ob]?=some (.cells #[.string nm,.int .i64 sn,.bool ch,.int .i64 0] 91):=by simp[World.setCell,Array.getElem?_modify,h2]
 have n3:(wb.setCell ⟨ob,2,none⟩ (.bool ch)).heap[ib]?=w2.heap[ib]?:=by simp[World.setCell,Array.getElem?_modify,Ne.symm hne,n2]
 have b3:Bel lo w2 (wb.setCell ⟨ob,2,none⟩ (.bool ch)):=b2.setCell lob _;generalize hw3:wb.setCell ⟨ob,2,none⟩ (.bool ch)=wc at h3 n3 b3
 have y3:wc.cell? ⟨ob,3,none⟩=some (.int .i64 0):=by simp[World.cell?,h3]
 have k3:wc.frozen? ⟨ob,3,none⟩=false:=by simp[World.frozen?,h3]
 have h4:(wc.setCell ⟨ob,3,none⟩ (.int .i64 pr)).heap[ob]?=some (.cells #[.string nm,.int .i64 sn,.bool ch,.int .i64 pr] 91):=by simp[World.setCell,Array.getElem?_modify,h3]
 have n4:(wc.setCell ⟨ob,3,none⟩ (.int .i64 pr)).heap[ib]?=w2.heap[ib]?:=by simp[World.setCell,Array.getElem?_modify,Ne.symm hne,n3]
 have b4:Bel lo w2 (wc.setCell ⟨ob,3,none⟩ (.int .i64 pr)):=b3.setCell lob _
 have es0:∀w es,(store (⟨ob,0,none⟩:Addr) (.string nm)).events prog w es=storedEv prog w es ⟨ob,0,none⟩ (.string nm) .plain:=fun _ _=>events_store _ _ _ _ _ _ rfl
 have es1:∀w es,(store (⟨ob,1,none⟩:Addr) (.int .i64 sn)).events prog w es=storedEv prog w es ⟨ob,1,none⟩ (.int .i64 sn) .plain:=fun _ _=>events_store _ _ _ _ _ _ rfl
 have es2:∀w es,(store (⟨ob,2,none⟩:Addr) (.bool ch)).events prog w es=storedEv prog w es ⟨ob,2,none⟩ (.bool ch) .plain:=fun _ _=>events_store _ _ _ _ _ _ rfl
 have es3:∀w es,(store (⟨ob,3,none⟩:Addr) (.int .i64 pr)).events prog w es=storedEv prog w es ⟨ob,3,none⟩ (.int .i64 pr) .plain:=fun _ _=>events_store _ _ _ _ _ _ rfl
 refine⟨fun f ev hev=>?_,?_⟩
 ·have hm:=mem_listed hev;simp[go_sem,s9,s32,y0,k0,hw1,y1,k1,hw2,y2,k2,hw3,y3,k3,es0,es1,es2,es3,storedEv,stored] at hm
  rcases hm with rfl|rfl|rfl|rfl<;>exact vX lob hobF
 have hrun:(execOp a.eval xc).run prog w2=.ok .skip (wc.setCell ⟨ob,3,none⟩ (.int .i64 pr)):=by
  simp[go_sem,s9,s32,y0,k0,hw1,y1,k1,hw2,y2,k2,hw3,y3,k3,stored]
 rw[hrun];show bz r prog iG [] 1 Q (a.put none undef) _;apply eo;refine hQ _ _ ib ob ⟨hS.size,hS.defers,fun t x hx=>hS.get t x ?_⟩ (hI2 _ _ hw hlo b4) (Nat.le_trans hlo b4.size) lib lob hne (n4.trans hib2) h4;unfold ups at hx ⊢;by_cases t9:t=9
 ·simpa[t9] using hx
 by_cases t8:t=8
 ·simpa[t8,t9] using hx
 by_cases t30:t=30
 ·subst t30;simp[S20] at hx
 by_cases t31:t=31
 ·subst t31;simp[S20] at hx
 by_cases t32:t=32
 ·subst t32;simp[S20] at hx
 simpa[t9,t8,t30,t31,t32] using hx
end
end Go.Proofs.Tw
