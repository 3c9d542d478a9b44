/- Lemmas. -/
import Derived.Test.YthpkmilhiganjaaGreatPWb
import Derived.Conc.AppendWalk
import Derived.Maps.AppendAt
set_option linter.all false
set_option maxHeartbeats 32000000
set_option maxRecDepth 100000
namespace Go.Proofs.Tw
open Go Go.Fi Go.Conc Go.RowKit
def RdD.fit(d:RdD):Bool:=d.g && !d.h
structure RdX(d:RdD)(l:List Bool)(L:Array Bool)(a:Act)(w:World):Prop where
 cell:L.getD 38 false=false->iu d.toWkD w d.hd
 row:L.getD 36 false=false->gz d.toWkD w d.hd l
 bs:L.getD 35 false=true->L.getD 36 false=false->∃b,a.tmps[50]?.getD undef=.slice (some ⟨b,0,none⟩) 1 1/\w.cell? ⟨b,0,none⟩=some (.bool d.fit)/\d.lo<=b
 ap:L.getD 36 false=true->L.getD 38 false=false->gz d.toWkD w (a.tmps[51]?.getD undef) (l++[d.fit])
 ix:L.getD 37 false=true->a.tmps[52]?.getD undef=.pointer (some ⟨d.F,d.i,none⟩)
 fin:L.getD 38 false=true->∃v,iu d.toWkD w v/\gz d.toWkD w v (l++[d.fit])
section
variable{d:RdD}{ds:List Deferred}{l:List Bool}
theorem RdX.mv{L:Array Bool}{a:Act}{w w1:World}(h:RdX d l L a w)(e:Bel w.heap.size w w1):RdX d l L a w1:=
 ⟨λx=>(h.cell x).mv e,λx=>(h.row x).mv e,λx y=>let ⟨b,h1,h2,h3⟩:=h.bs x y;⟨b,h1,e.cellAt h2,h3⟩,λx y=>(h.ap x y).mv e,h.ix,λx=>let ⟨v,h1,h2⟩:=h.fin x;⟨v,h1.mv e,h2.mv e⟩⟩
theorem RdX.put{L:Array Bool}{a:Act}{w:World}(h:RdX d l L a w){i t:Nat}(hi:i<35)(ht:t<50)(v:Value):RdX d l (L.setIfInBounds i true) (a.put (some t) v) w:=by
 have e:∀k,35<=k->(L.setIfInBounds i true).getD k false=L.getD k false:=λk hk=>getD_set_ne false (by omega)
 have g:∀u,50<=u->(a.put (some t) v).tmps[u]?.getD undef=a.tmps[u]?.getD undef:=λu hu=>by
  simp only[Act.put,iE];rw[ai (by omega)]
 refine⟨λx=>h.cell (by rwa [e 38 (by omega)] at x),λx=>h.row (by rwa [e 36 (by omega)] at x),λx y=>?_,λx y=>?_,λx=>?_,λx=>h.fin (by rwa [e 38 (by omega)] at x)⟩
 .rw[g 50 (by omega)];exact h.bs (by rwa [e 35 (by omega)] at x) (by rwa [e 36 (by omega)] at y)
 .rw[g 51 (by omega)];exact h.ap (by rwa [e 36 (by omega)] at x) (by rwa [e 38 (by omega)] at y)
 .rw[g 52 (by omega)];exact h.ix (by rwa [e 37 (by omega)] at x)
theorem Qu{L:Array Bool}(hl:L[11]?=some false)(au:Fi.Closed ck L):L.getD 38 false=false:=by
 cases aw:L.getD 38 false with
 |false=>rfl
 |true=>
  have h:=au 38 pf rfl aw ⟨11,.phase⟩ (by simp) rfl;rw[bQ] at h;have e:(⟨11,.phase⟩:Edge).on=11:=rfl;rw[e,hl] at h;cases h
abbrev cR(d:RdD):Nat:=tD d.zs.length+1
variable{r:Option Nat}{Q:Exit->Act->World->Prop}
abbrev qW(d:RdD)(ds:List Deferred)(l:List Bool)(L:Array Bool)(a:Act)(w:World):Prop:=gn (RdW d) 54 ds ck Base Qs (gT d) (aG d) L a w/\RdX d l L a w
theorem J1{E:EnvD}{P:Program}{ops:Array Oper}{c c':Nat}{Inv:Array Bool->Act->World->Prop}{i:Nat}{o:Oper}(h:@jY E r P ops c Q Inv i o)(hc:c<=c'):@jY E r P ops c' Q Inv i o:=
 λL a w h1 h2 h3 h4 rest N hk=>@nQ E P r Q a w ops (i::rest) _ _ (h L a w h1 h2 h3 h4 rest N hk) (by omega)
theorem sqg{i:Nat}(t:Nat){o o0:Oper}(ho:ck[i]?=some o)(h0:ck[i]?=some o0)(hd:∀c,o0.op≠.defer c)(c4:o0.dst=some t)(hk:i<35/\t<50/\¬Base t/\Bj ck i t=true)(hq:∀(L:Array Bool)(a:Act)(w:World),TQ d ds L a w->RdX d l L a w->L[i]?=some false->HE o0 L->Fi.Closed ck L->QC d o0 t a w):@jY (aV d.lo d.F d.i) r prog ck (cR d) Q (qW d ds l) i o:=by
 letI:=aV d.lo d.F d.i
 obtain rfl:=eJ (ho.symm.trans h0);obtain⟨h1,h2,h3,h4⟩:=hk
 exact J1 (c:=1) (DH (t:=t) (RdX d l) (λ_ _ h e=>h.mv e) (λ_ _ _ _ h e=>h.mv e) (λ_ _ _ _ h=>h.put h1 h2 _) ho (by omega) hd c4 (by omega) h3 (kn h4)
  hq) (by simp)
theorem s32(bd:d.zs.length<=64):@jY (aV d.lo d.F d.i) r prog ck (cR d) Q (qW d ds l) 32 qx:=by
 letI:=aV d.lo d.F d.i
 intro L a w hinv hl he au rest N hk;obtain⟨hT,hX⟩:=hinv;have sg:=hT.run 26 _ 41 rfl rfl (by decide) (he ⟨26,.guard⟩ (by simp) rfl);have bm:=iV (ops:=ck) (o:=qx) (tmps:=a.tmps) (j:=26) (t:=41) (want:=true) rfl rfl sg;simp only[aG,isB] at bm
 have nx:∀w' v,Bel w.heap.size w w'->v=aG d 47->bH r prog ck rest N Q (a.put (some 47) v) w':=λw' v e hv=>
  hk _ _ ⟨(hT.qT (hT.world.mv e)).put (hT.world.mv e) (i:=32) (o:=qx) (t:=47) rfl hl rfl (by decide) (by decide) (kn (by decide)) (λ_=>hv),(hX.mv e).put (by decide) (by decide) v⟩
 cases hg:d.g with
 |false=>
  rw[hg] at bm;refine nQ (CH (o:=qx) (N:=N) rfl bm ?_) (by simp);exact nx w undef (Bel.refl _ _) (by simp[aG,hg])
 |true=>
  rw[hg] at bm;have s43:=hT.run 28 _ 43 rfl rfl (by decide) (he ⟨28,.data⟩ (by simp) rfl);have s46:=hT.run 31 _ 46 rfl rfl (by decide) (he ⟨31,.data⟩ (by simp) rfl);simp only[aG,hg,aJ] at s43 s46
  refine CI (o:=qx) (N:=tD d.zs.length) (M:=N) (f:=107) (args:=#[.slice d.fa d.zs.length d.lY,.agg #[.int .i64 d.i,.int .i64 d.kk]]) rfl bm (by simp) λw1 e1=>?_
  have ha:=hT.world.mv e1;refine⟨λf ev h9=>?_,?_,?_⟩
  .have hm:=mem_listed h9;simp[go_sem,s43,s46] at hm
  .simp[go_sem,s43,s46]
  .refine CC (J0 ha.wk.low.1 d.zs.length bd d.fa d.lY d.zs d.i d.kk w1 rfl ha.wk.size ha.wk.j0) ?_
   rintro v w' ⟨rfl,hb⟩
   exact nx w' _ (nS e1 hb) (by simp[aG,hg,RdD.h])
theorem s35:@jY (aV d.lo d.F d.i) r prog ck (cR d) Q (qW d ds l) 35 se:=by
 letI:=aV d.lo d.F d.i
 intro L a w hinv hl he au rest N hk;obtain⟨hT,hX⟩:=hinv;have s49:=hT.run 34 _ 49 rfl rfl (by decide) (he ⟨34,.data⟩ (by simp) rfl);simp only[aG] at s49;refine nQ (bJ (o:=se) (N:=N) rfl rfl (by simp) λw1 e1=>?_) (by simp);refine⟨λf ev h9=>?_,?_⟩
 .have hm:=mem_listed h9;simp[go_sem,s49] at hm
 .have hr:(execOp a.eval se).run prog w1=.ok (.value (.slice (some ⟨w1.heap.size,0,none⟩) 1 1)) (w1.alloc (.cells #[.bool d.fit] 4)):=by
   simp[go_sem,s49];rfl
  rw[hr];have a5:Bel w1.heap.size w1 (w1.alloc (.cells #[.bool d.fit] 4)):=(Bel.refl _ _).alloc (aD _) _;have e2:=nS e1 a5;have aa:=hT.world.mv e2;have ar:a.tmps.size=54:=hT.size
  have e:∀k,k≠35->(L.setIfInBounds 35 true).getD k false=L.getD k false:=λk hk=>getD_set_ne false (by omega)
  have g50:∀v,(a.put (some 50) v).tmps[50]?.getD undef=v:=λv=>by rw[jO (by omega)];simp
  have gne:∀v u,u≠50->(a.put (some 50) v).tmps[u]?.getD undef=a.tmps[u]?.getD undef:=λv u hu=>by rw[jO (by omega),ai (by omega)]
  refine hk _ _ ⟨(hT.qT aa).put aa (i:=35) (o:=se) (t:=50) rfl hl rfl (by decide) (by decide) (kn (by decide)) nofun,?_⟩;have hX2:=hX.mv e2;refine⟨λx=>hX2.cell (by rwa [e 38 (by omega)] at x),λx=>hX2.row (by rwa [e 36 (by omega)] at x),λ_ _=>⟨w1.heap.size,g50 _,?_,?_⟩,λx y=>?_,λx=>?_,λx=>hX2.fin (by rwa [e 38 (by omega)] at x)⟩
  .simp
  .exact (hT.world.mv e1).wk.size
  .rw[gne _ 51 (by omega)];exact hX2.ap (by rwa [e 36 (by omega)] at x) (by rwa [e 38 (by omega)] at y)
  .rw[gne _ 52 (by omega)];exact hX2.ix (by rwa [e 37 (by omega)] at x)
theorem G7:prog.info? 4=some Tryz.t4:=by kernel_rfl
theorem G8:Tryz.t4.zero=some (.bool false):=by kernel_rfl
theorem G9:Tryz.t4.size=1:=by kernel_rfl
theorem Ha:Tryz.t4.bytes=1:=by kernel_rfl
theorem s36(co:l.length<=1000)(bg:d.hd.ownBlock≠some d.cb):@jY (aV d.lo d.F d.i) r prog ck (cR d) Q (qW d ds l) 36 si:=by
 letI:=aV d.lo d.F d.i
 intro L a w hinv hl he au rest N hk;obtain⟨hT,hX⟩:=hinv
 have bh:L.getD 36 false=false:=by rw[bQ,hl];rfl
 have aw:L.getD 38 false=false:=by
  cases aw:L.getD 38 false with
  |false=>rfl
  |true=>
   have h:=au 38 pf rfl aw ⟨36,.data⟩ (by simp) rfl;rw[bh] at h;cases h
 have s26:=hT.run 11 _ 26 rfl rfl (by decide) (he ⟨11,.data⟩ (by simp) rfl);simp only[aG] at s26;obtain⟨b,s50,cv,bu⟩:=hX.bs (he ⟨35,.data⟩ (by simp) rfl) bh;have ag:=hX.row bh;refine nQ (bJ (o:=si) (N:=N) rfl rfl (by simp) λw1 e1=>?_) (by simp);have aq:=ag.mv e1;have ha:=hT.world.mv e1
 have ax:∀j u,[Value.bool d.fit][j]?=some u->w1.cell? ((⟨b,0,none⟩:Addr).add j)=some u:=by
  intro j u hj;have cw:=e1.cellAt cv
  match j,hj with
  |0,hj=>simp at hj;subst hj;trivial
 have bj:l.length+1<=maxLen:=by simp only[maxLen];omega
 obtain⟨v',w',h8,a6,aj,_,c7⟩:=run_append_own_at (P:=prog) w1 d.lo 136 136 4 Tryz.t4 (.bool false) 1 1 underlying136 G7 G8 G9 Ha rfl (by decide) d.hd l.length (l.map Value.bool) aq ⟨b,0,none⟩ 1 1 [Value.bool d.fit] rfl ax (by simp[Value.oneCell']) bj (by omega) ha.wk.size
 have hh:∀k,d.hd.ownBlock=some k->d.lo<=k:=by
  intro k bp
  rcases aq.2 with ⟨h1,_⟩|⟨g,cap,cur,h1,h2,_⟩
  .rw[h1] at bp;cases bp
  .rw[h1] at bp;cases bp;exact h2
 have bf:Bel d.lo w1 w':=(Bel.refl _ _).grown aj ha.wk.size hh;refine⟨λf ev h9=>?_,?_⟩
 .have hm:=mem_listed h9;rw[events_append_op (.tmp 26) (.tmp 50) 136 rfl (show a.eval (.tmp 26)=d.hd by simpa[Act.eval] using s26) (show a.eval (.tmp 50)=.slice (some ⟨b,0,none⟩) 1 1 by simpa[Act.eval] using s50)] at hm
  rcases events_append_where (P:=prog) w1 d.lo 136 136 4 Tryz.t4 (.bool false) 1 1 underlying136 G7 G8 G9 Ha d.hd l.length (l.map Value.bool) aq ⟨b,0,none⟩ 1 1 [Value.bool d.fit] rfl ax (by simp[Value.oneCell']) bj (by omega) ev hm with ⟨ad,h1,h2⟩|⟨m,rfl,_⟩
  .refine .inl ⟨ad,h1,λhF=>?_,λbb=>?_⟩
   .exfalso;have d2:=ha.wk.low.1
    rcases h2 with ⟨_,h2⟩|h2
    .simp only at h2;omega
    .have:=hh _ h2.symm;omega
   simp_all
  .exact .inr ⟨_,rfl⟩
 .have hr:(execOp a.eval si).run prog w1=.ok (.value v') w':=by
   have c9:a.eval (.tmp 26)=d.hd:=by simpa[Act.eval] using s26
   have cf:a.eval (.tmp 50)=.slice (some ⟨b,0,none⟩) 1 1:=by simpa[Act.eval] using s50
   unfold execOp;simp only[resolve,invoke,builtin,Sem.run_bind,Sem.run_pure,Result.andThen_ok,List.map_toArray,nN,xr,c9,cf,h8]
  rw[hr]
  have hy:∀o v,w1.cell? ⟨d.cb,o,none⟩=some v->w'.cell? ⟨d.cb,o,none⟩=some v:=λo v hv=>by
   have b5:d.cb<w1.heap.size:=by
    unfold World.cell? at hv
    rcases hx:w1.heap[d.cb]? with _|ob
    .simp only[hx] at hv;cases hv
    .exact (a8.1 hx).1
   have ay:w'.heap[d.cb]?=w1.heap[d.cb]?:=aj.block d.cb b5 (λe=>bg e.symm);rw[World.cell?_of_block ay];exact hv
  have aa:RdW d w':=⟨ha.wk.wH bf,ha.i,ha.cb0,hy _ _ ha.cb1,hy _ _ ha.cb2⟩;have ar:a.tmps.size=54:=hT.size
  have e:∀k,k≠36->(L.setIfInBounds 36 true).getD k false=L.getD k false:=λk hk=>getD_set_ne false (by omega)
  have e36:(L.setIfInBounds 36 true).getD 36 false=true:=by
   have b5:36<L.size:=(a8.1 hl).1;rw[bQ];simp[b5]
  have g51:∀v,(a.put (some 51) v).tmps[51]?.getD undef=v:=λv=>by rw[jO (by omega)];simp
  have gne:∀v u,u≠51->(a.put (some 51) v).tmps[u]?.getD undef=a.tmps[u]?.getD undef:=λv u hu=>by rw[jO (by omega),ai (by omega)]
  refine hk _ _ ⟨(hT.qT aa).put aa (i:=36) (o:=si) (t:=51) rfl hl rfl (by decide) (by decide) (kn (by decide)) nofun,?_⟩;refine⟨λ_=>?_,λx=>?_,λ_ y=>?_,λ_ _=>?_,λx=>?_,λx=>?_⟩
  .obtain⟨c,c1,c2⟩:=(hX.cell aw).mv e1;exact⟨c,(bf.block _ ha.wk.low.1).trans c1,c2⟩
  .rw[e36] at x;cases x
  .rw[e36] at y;cases y
  .rw[g51];unfold gz;simpa using a6
  .rw[gne _ 52 (by omega)];exact hX.ix (by rwa [e 37 (by omega)] at x)
  simp_all
theorem Qv{L:Array Bool}{i:Nat}(hl:L[i]?=some false):(L.setIfInBounds i true).getD i false=true:=by
 have b5:i<L.size:=(a8.1 hl).1;rw[bQ];simp[b5]
theorem s37:@jY (aV d.lo d.F d.i) r prog ck (cR d) Q (qW d ds l) 37 sj:=by
 letI:=aV d.lo d.F d.i
 intro L a w hinv hl he au rest N hk;obtain⟨hT,hX⟩:=hinv;have s18:=hT.run 3 _ 18 rfl rfl (by decide) (he ⟨3,.data⟩ (by simp) rfl);have s19:=hT.run 4 _ 19 rfl rfl (by decide) (he ⟨4,.data⟩ (by simp) rfl);simp only[aG] at s18 s19;refine nQ (bJ (o:=sj) (N:=N) rfl rfl (by simp) λw1 e1=>?_) (by simp);have ha:=hT.world.mv e1;have hi:=ha.i;refine⟨λf ev h9=>?_,?_⟩
 .have hm:=mem_listed h9;simp[go_sem,s18,s19] at hm;rw[events_indexAt_slice 103 _ _ _ _ _ rfl ⟨Int.natCast_nonneg _,by omega⟩] at hm;simp at hm
 .have hr:(execOp a.eval sj).run prog w1=.ok (.value (.pointer (some ⟨d.F,d.i,none⟩))) w1:=by
   simp[go_sem,s18,s19,hi]
  rw[hr];have ar:a.tmps.size=54:=hT.size
  have e:∀k,k≠37->(L.setIfInBounds 37 true).getD k false=L.getD k false:=λk hk=>getD_set_ne false (by omega)
  have g52:∀v,(a.put (some 52) v).tmps[52]?.getD undef=v:=λv=>by rw[jO (by omega)];simp
  have gne:∀v u,u≠52->(a.put (some 52) v).tmps[u]?.getD undef=a.tmps[u]?.getD undef:=λv u hu=>by rw[jO (by omega),ai (by omega)]
  have hX2:=hX.mv e1;refine hk _ _ ⟨(hT.qT ha).put ha (i:=37) (o:=sj) (t:=52) rfl hl rfl (by decide) (by decide) (kn (by decide)) nofun,?_⟩;refine⟨λx=>hX2.cell (by rwa [e 38 (by omega)] at x),λx=>hX2.row (by rwa [e 36 (by omega)] at x),λx y=>?_,λx y=>?_,λ_=>g52 _,λx=>hX2.fin (by rwa [e 38 (by omega)] at x)⟩
  .rw[gne _ 50 (by omega)];exact hX2.bs (by rwa [e 35 (by omega)] at x) (by rwa [e 36 (by omega)] at y)
  .rw[gne _ 51 (by omega)];exact hX2.ap (by rwa [e 36 (by omega)] at x) (by rwa [e 38 (by omega)] at y)
theorem gz.val{w:World}{v:Value}{m:List Bool}(h:gz d.toWkD w v m):(∃cap,v=.slice none cap 0)\/∃ao n c,v=.slice ao n c:=by
 rcases h.2 with ⟨h1,_⟩|⟨g,cap,cur,h1,_⟩
 .exact .inl ⟨0,h1⟩
 .exact .inr ⟨_,_,_,h1⟩
theorem s38:@jY (aV d.lo d.F d.i) r prog ck (cR d) Q (qW d ds l) 38 pf:=by
 letI:=aV d.lo d.F d.i
 intro L a w hinv hl he au rest N hk;obtain⟨hT,hX⟩:=hinv
 have aw:L.getD 38 false=false:=by rw[bQ,hl];rfl
 have bh:=he ⟨36,.data⟩ (by simp) rfl;have ct:=he ⟨37,.data⟩ (by simp) rfl;have s52:=hX.ix ct;refine nQ (bJ (o:=pf) (N:=N) rfl rfl (by simp) λw1 e1=>?_) (by simp);have ha:=hT.world.mv e1;have hX1:=hX.mv e1;have ag:=hX1.ap bh aw;have cl:=hX1.cell aw;obtain⟨cF,c1,c2,c3⟩:=id cl
 obtain⟨ao,n,c,hv⟩:∃ao n c,a.tmps[51]?.getD undef=.slice ao n c:=by
  rcases ag.2 with ⟨h1,_⟩|⟨g,cap,cur,h1,_⟩
  .exact⟨_,_,_,h1⟩
  simp_all
 have hy:=cl.cell
 have c6:w1.frozen? ⟨d.F,d.i,none⟩=false:=by simp[World.frozen?,c1]
 refine⟨λf ev h9=>?_,?_⟩
 .have hm:=mem_listed h9;simp[go_sem,s52,hv,storedEv,hy,c6] at hm;rw[events_store _ _ _ _ _ _ rfl] at hm;simp[storedEv,hy,c6] at hm;subst hm;exact JW rfl rfl
 .have hr:(execOp a.eval pf).run prog w1=.ok .skip (w1.setCell ⟨d.F,d.i,none⟩ (.slice ao n c)):=by
   simp[go_sem,s52,hv,stored,hy,c6]
  rw[hr]
  have ay:∀b,b≠d.F->(w1.setCell ⟨d.F,d.i,none⟩ (.slice ao n c)).heap[b]?=w1.heap[b]?:=λb hb=>by
   simp[World.setCell,dZ,bT hb]
  have bl:w1.heap.size<=(w1.setCell ⟨d.F,d.i,none⟩ (.slice ao n c)).heap.size:=by simp
  have hF:(w1.setCell ⟨d.F,d.i,none⟩ (.slice ao n c)).heap[d.F]?=some (.cells (cF.setIfInBounds d.i (.slice ao n c)) 136):=by
   simp[World.setCell,dZ,c1]
  generalize (w1.setCell ⟨d.F,d.i,none⟩ (.slice ao n c))=w2 at ay bl hF ⊢;have aa:RdW d w2:=⟨ha.wk.mvF bl ay,ha.i,ha.cb0,(World.cell?_of_block (ay _ ha.cbF)).trans ha.cb1,(World.cell?_of_block (ay _ ha.cbF)).trans ha.cb2⟩;have e38:=Qv hl;have bc:(L.setIfInBounds 38 true).getD 36 false=true:=(getD_set_ne false (by omega)).trans bh;refine hk _ _ ⟨(hT.qT aa).G4 aa (i:=38) (o:=pf) rfl rfl,?_⟩;refine⟨λx=>(by rw[e38] at x;cases x),λx=>(by rw[bc] at x;cases x),λ_ y=>(by rw[bc] at y;cases y),λ_ y=>(by rw[e38] at y;cases y),λ_=>s52,λ_=>⟨.slice ao n c,⟨_,hF,by grind,by simp[c2]⟩,?_⟩⟩;rw[hv] at ag;refine⟨ag.1,ag.2.imp id ?_⟩
  rintro⟨q,cap,cur,a1,a2,a3,a4⟩
  have hq:q≠d.F:=by have:=ha.wk.low.1;omega
  exact⟨q,cap,cur,a1,a2,(ay q hq).trans a3,a4⟩
theorem J2(bd:d.zs.length<=64)(co:l.length<=1000)(bg:d.hd.ownBlock≠some d.cb){a:Act}{w:World}(hw:RdW d w)(ar:a.tmps.size=54)(az:a.defers=ds)(hb:∀t,Base t->a.tmps[t]?.getD undef=gT d t)(hc:iu d.toWkD w d.hd)(hr:gz d.toWkD w d.hd l){id:Nat}(hQ:∀a w,RdW d w->a.tmps.size=54->a.defers=ds->(∀t,Base t->a.tmps[t]?.getD undef=gT d t)->(∃v,iu d.toWkD w v/\gz d.toWkD w v (l++[d.fit]))->Q .normal a w):@Code.wpN (aV d.lo d.F d.i) r prog (.region id ck true) (39*cR d+1+1) Q a w:=by
 letI:=aV d.lo d.F d.i
 have b9:ck.size=39:=rfl
 have rep:∀k,(Array.replicate 39 false).getD k false=false:=λk=>by
  rw[bQ]
  grind
 refine DI (ops:=ck) (by rfl) (cR d) (RdW d) 54 ds Base Qs (gT d) (aG d) (RdX d l) (by decide) (λ_ _ h e=>h.mv e) (λ_ _ h=>h.drew) hw ar az hb ?_ ?_ ?_
 .intro w1 e1;have cx:=hc.mv e1;have d3:=hr.mv e1;refine⟨λ_=>cx,λ_=>d3,λx=>?_,λx=>?_,λx=>?_,λx=>?_⟩
  .exact absurd (rep 35) (by rw[b9] at x;rw[x];simp)
  .exact absurd (rep 36) (by rw[b9] at x;rw[x];simp)
  .exact absurd (rep 37) (by rw[b9] at x;rw[x];simp)
  trivial
 .intro L a w br hT hX;exact hQ a w hT.world hT.size hT.defers hT.base (hX.fin (br 38 (by decide)))
 .intro i o ho;have hi:i<39:=(a8.1 ho).1
  match i,ho,hi with
  |0,ho,_=>exact sqg 15 ho (o0:=Bo) rfl (by simp) rfl (by decide) λ_ _ _ hT _ _ he _=>PQ hT he
  |1,ho,_=>exact sqg 16 ho (o0:=Bp) rfl (by simp) rfl (by decide) λ_ _ _ hT _ _ he _=>PR hT he
  |2,ho,_=>exact sqg 17 ho (o0:=Bq) rfl (by simp) rfl (by decide) λ_ _ _ hT _ _ he _=>PS hT he
  |3,ho,_=>exact sqg 18 ho (o0:=Br) rfl (by simp) rfl (by decide) λ_ _ _ hT _ _ he _=>PT hT he
  |4,ho,_=>exact sqg 19 ho (o0:=Bs) rfl (by simp) rfl (by decide) λ_ _ _ hT _ _ he _=>PU hT he
  |5,ho,_=>exact sqg 20 ho (o0:=Bt) rfl (by simp) rfl (by decide) λ_ _ _ hT _ _ he _=>PW hT he
  |6,ho,_=>exact sqg 21 ho (o0:=Bu) rfl (by simp) rfl (by decide) λ_ _ _ hT _ _ he _=>PX hT he
  |7,ho,_=>exact sqg 22 ho (o0:=Bv) rfl (by simp) rfl (by decide) λ_ _ _ hT _ _ he _=>PY hT he
  |8,ho,_=>exact sqg 23 ho (o0:=Bw) rfl (by simp) rfl (by decide) λ_ _ _ hT _ _ he _=>PZ hT he
  |9,ho,_=>exact sqg 24 ho (o0:=Bx) rfl (by simp) rfl (by decide) λ_ _ _ hT _ _ he _=>P4 hT he
  |10,ho,_=>exact sqg 25 ho (o0:=yN) rfl (by simp) rfl (by decide) λ_ _ _ hT _ _ he _=>P5 hT he
  |11,ho,_=>exact sqg 26 ho (o0:=qw) rfl (by simp) rfl (by decide) λ_ _ _ hT hX hl he au=>P6 hT (hX.cell (Qu hl au)).cell he
  |12,ho,_=>exact sqg 27 ho (o0:=yO) rfl (by simp) rfl (by decide) λ_ _ _ hT _ _ he _=>P7 hT he
  |13,ho,_=>exact sqg 28 ho (o0:=yP) rfl (by simp) rfl (by decide) λ_ _ _ hT _ _ he _=>P8 hT he
  |14,ho,_=>exact sqg 29 ho (o0:=yQ) rfl (by simp) rfl (by decide) λ_ _ _ hT _ _ he _=>P9 hT he
  |15,ho,_=>exact sqg 30 ho (o0:=yR) rfl (by simp) rfl (by decide) λ_ _ _ hT _ _ he _=>Qa hT he
  |16,ho,_=>exact sqg 31 ho (o0:=yS) rfl (by simp) rfl (by decide) λ_ _ _ hT _ _ he _=>Qb hT he
  |17,ho,_=>exact sqg 32 ho (o0:=yT) rfl (by simp) rfl (by decide) λ_ _ _ hT _ _ he _=>Qc hT he
  |18,ho,_=>exact sqg 33 ho (o0:=uY) rfl (by simp) rfl (by decide) λ_ _ _ hT _ _ he _=>Qd hT he
  |19,ho,_=>exact sqg 34 ho (o0:=uZ) rfl (by simp) rfl (by decide) λ_ _ _ hT _ _ he _=>Qe hT he
  |20,ho,_=>exact sqg 35 ho (o0:=u5) rfl (by simp) rfl (by decide) λ_ _ _ hT _ _ he _=>Qf hT he
  |21,ho,_=>exact sqg 36 ho (o0:=u6) rfl (by simp) rfl (by decide) λ_ _ _ hT _ _ he _=>Qg hT he
  |22,ho,_=>exact sqg 37 ho (o0:=u7) rfl (by simp) rfl (by decide) λ_ _ _ hT _ _ he _=>Qh hT he
  |23,ho,_=>exact sqg 38 ho (o0:=u9) rfl (by simp) rfl (by decide) λ_ _ _ hT _ _ he _=>Qi hT he
  |24,ho,_=>exact sqg 39 ho (o0:=va) rfl (by simp) rfl (by decide) λ_ _ _ hT _ _ he _=>Qj hT he
  |25,ho,_=>exact sqg 40 ho (o0:=yU) rfl (by simp) rfl (by decide) λ_ _ _ hT _ _ he _=>Qk hT he
  |26,ho,_=>exact sqg 41 ho (o0:=yV) rfl (by simp) rfl (by decide) λ_ _ _ hT _ _ he _=>Ql hT he
  |27,ho,_=>exact sqg 42 ho (o0:=vc) rfl (by simp) rfl (by decide) λ_ _ _ hT _ _ he _=>Qm hT he
  |28,ho,_=>exact sqg 43 ho (o0:=vd) rfl (by simp) rfl (by decide) λ_ _ _ hT _ _ he _=>Qn hT he
  |29,ho,_=>exact sqg 44 ho (o0:=ve) rfl (by simp) rfl (by decide) λ_ _ _ hT _ _ he _=>Qo hT he
  |30,ho,_=>exact sqg 45 ho (o0:=vg) rfl (by simp) rfl (by decide) λ_ _ _ hT _ _ he _=>Qp hT he
  |31,ho,_=>exact sqg 46 ho (o0:=vh) rfl (by simp) rfl (by decide) λ_ _ _ hT _ _ he _=>Qq hT he
  |32,ho,_=>obtain rfl:=eJ (ho.symm.trans (rfl:ck[32]?=some qx));exact s32 bd
  |33,ho,_=>exact sqg 48 ho (o0:=vi) rfl (by simp) rfl (by decide) λ_ _ _ hT _ _ he _=>Qr hT he
  |34,ho,_=>exact sqg 49 ho (o0:=yW) rfl (by simp) rfl (by decide) λ_ _ _ hT _ _ he _=>Qt hT he
  |35,ho,_=>obtain rfl:=eJ (ho.symm.trans (rfl:ck[35]?=some se));exact s35
  |36,ho,_=>obtain rfl:=eJ (ho.symm.trans (rfl:ck[36]?=some si));exact s36 co bg
  |37,ho,_=>obtain rfl:=eJ (ho.symm.trans (rfl:ck[37]?=some sj));exact s37
  |38,ho,_=>obtain rfl:=eJ (ho.symm.trans (rfl:ck[38]?=some pf));exact s38
  |i+39,_,hi=>omega
end
abbrev yX:Oper:=⟨some 7,(.fieldAddr 27 (.tmp 1) 0),0, "dispatch.go:121",#[],none⟩
abbrev yY:Oper:=⟨some 8,(.load 22 (.tmp 7)),22, "dispatch.go:121",#[⟨0,.data⟩],none⟩
abbrev yZ:Oper:=⟨some 9,(.call ⟨(.builtin .len),#[(.tmp 8)],#[22]⟩),3, "dispatch.go:121",#[⟨1,.data⟩],none⟩
abbrev y9:Oper:=⟨some 10,(.move (.const (.int .i64 0))),3, "dispatch.go:121",#[],none⟩
abbrev qy:Array Oper:=#[yX,yY,yZ,y9]
abbrev za:Oper:=⟨some 11,(.binOp .lss 3 (.tmp 10) (.tmp 9) 3),0, "dispatch.go:121",#[],none⟩
abbrev zb:Array Oper:=#[za]
abbrev zc:Oper:=⟨some 12,(.move (.tmp 10)),3, "dispatch.go:121",#[],none⟩
abbrev ze:Oper:=⟨some 13,(.indexAddr 22 (.tmp 8) (.tmp 10)),0, "dispatch.go:121",#[],none⟩
abbrev zg:Oper:=⟨some 14,(.load 89 (.tmp 13)),89, "dispatch.go:121",#[⟨1,.data⟩],none⟩
abbrev zh:Oper:=⟨some 6,(.alloc 89),0, "dispatch.go:121",#[],none⟩
abbrev zi:Oper:=⟨some 5,(.assign (.tmp 12)),3, "dispatch.go:121",#[⟨0,.data⟩,⟨0,.phase⟩,⟨1,.phase⟩,⟨2,.phase⟩,⟨3,.phase⟩],none⟩
abbrev zj:Oper:=⟨none,(.store 89 (.tmp 6) (.tmp 14)),0, "dispatch.go:121",#[⟨3,.data⟩,⟨2,.data⟩,⟨4,.chain⟩,⟨0,.phase⟩,⟨1,.phase⟩,⟨2,.phase⟩,⟨3,.phase⟩,⟨4,.phase⟩],none⟩
abbrev mR:Array Oper:=#[zc,ze,zg,zh,zi,zj]
abbrev zk:Oper:=⟨some 53,(.binOp .add 3 (.tmp 10) (.const (.int .i64 1)) 3),3, "dispatch.go:121",#[],none⟩
abbrev zl:Oper:=⟨some 10,(.move (.tmp 53)),3, "dispatch.go:121",#[⟨0,.data⟩],none⟩
abbrev vj:Array Oper:=#[zk,zl]
theorem J3:lZ=.seq (.region 1 qy false) (.block 0 (.loop (.seq (.region 2 zb false) (.seq (.cond (.tmp 11) .skip (.exit 0)) (.seq (.block 1 (.seq (.region 3 mR false) (.region 4 ck true))) (.region 5 vj false)))))):=rfl
structure Sl(ds:List Deferred)(S:Nat->Option Value)(a:Act):Prop where
 size:a.tmps.size=54
 defers:a.defers=ds
 get:∀t v,S t=some v->a.tmps[t]?.getD undef=v
abbrev ups(S:Nat->Option Value)(t:Nat)(v:Value):Nat->Option Value:=λu=>if u=t then some v else S u
theorem Sl.put{ds:List Deferred}{S:Nat->Option Value}{a:Act}(h:Sl ds S a){t:Nat}(ht:t<54)(v:Value):Sl ds (ups S t v) (a.put (some t) v):=by
 refine⟨uW.trans h.size,uX.trans h.defers,λu x hx=>?_⟩;rw[jO (by rw[h.size];exact ht)];unfold ups at hx;by_cases e:t=u
 .simp_all
 .rw[ai (bT e)] at hx;rw[ai e];exact h.get u x hx
theorem Sl.G4{ds:List Deferred}{S:Nat->Option Value}{a:Act}(h:Sl ds S a)(v:Value):Sl ds S (a.put none v):=h
def S0(d:WkD)(wg kk:Nat):Nat->Option Value:=λt=>match t with
 |0=>some (.pointer (some ⟨wg,0,none⟩))|1=>some (.pointer (some ⟨d.rb,0,none⟩))|2=>some (.pointer (some ⟨d.xv,0,none⟩))|3=>some (.pointer (some ⟨d.ib,0,none⟩))|4=>some (.pointer (some ⟨d.ob,0,none⟩))
 |8=>some (.slice d.ca d.ab.length d.jA)|9=>some (.int .i64 d.ab.length)|10=>some (.int .i64 kk)|_=>none
def jB(d:WkD)(kk:Nat):List Bool:=(List.range kk).map (Bn d)
section
variable{d:WkD}{wg kk:Nat}{ds:List Deferred}{r:Option Nat}{Q:Exit->Act->World->Prop}
theorem J4(hk:kk<d.ab.length){a:Act}{w:World}(hS:Sl ds (S0 d wg kk) a)(hw:WkW d w){v:Value}(hc:iu d w v)(hr:gz d w v (jB d kk)){id:Nat}(hQ:∀a w cb,Sl ds (ups (ups (S0 d wg kk) 5 (.int .i64 kk)) 6 (.pointer (some ⟨cb,0,none⟩))) a->WkW d w->iu d w v->gz d w v (jB d kk)->d.lo<=cb->v.ownBlock≠some cb->w.cell? ⟨cb,1,none⟩=some (.int .i64 (d.ab.getD kk (default,0,false)).2.1)->w.cell? ⟨cb,2,none⟩=some (.bool (d.ab.getD kk (default,0,false)).2.2)->Q .normal a w):@Code.wpN (aV d.lo d.F d.i) r prog (.region id mR false) 8 Q a w:=by
 letI:=aV d.lo d.F d.i
 obtain⟨b,off,cj,hbF,bu,_,_,_⟩:=hw.ab kk hk
 have bi:∀w,WkW d w->w.cell? ⟨b,off+kk*3,none⟩=some (.string (d.ab.getD kk (default,0,false)).1)/\w.cell? ⟨b,off+kk*3+1,none⟩=some (.int .i64 (d.ab.getD kk (default,0,false)).2.1)/\w.cell? ⟨b,off+kk*3+2,none⟩=some (.bool (d.ab.getD kk (default,0,false)).2.2):=λw hw=>by
  obtain⟨b',c8,e,_,_,h4,h5,h6⟩:=hw.ab kk hk;rw[cj] at e;simp_all
 generalize (d.ab.getD kk (default,0,false)).1=nm,(d.ab.getD kk (default,0,false)).2.1=sn,(d.ab.getD kk (default,0,false)).2.2=ch at bi hQ;refine ij (N:=7) ?_;show bH r prog mR [0,1,2,3,4,5] 7 Q a w;have s10:=hS.get 10 _ rfl;have s8:=hS.get 8 _ rfl
 refine bJ (o:=zc) (N:=6) rfl rfl (by simp) λw e1=>?_
 replace hw:=hw.mv e1;replace hc:=hc.mv e1;replace hr:=hr.mv e1;refine⟨λf ev h9=>?_,?_⟩
 .have hm:=mem_listed h9;simp[go_sem,s10] at hm
 have h8:(execOp a.eval zc).run prog w=.ok (.value (.int .i64 kk)) w:=by
  simp[go_sem,s10]
 rw[h8];show bH r prog mR _ 6 Q (a.put (some 12) (.int .i64 kk)) w;replace hS:=hS.put (t:=12) (by decide) (.int .i64 kk);generalize a.put (some 12) (.int .i64 kk)=a at hS ⊢;clear h8 e1;have s10:=hS.get 10 _ rfl;have s8:=hS.get 8 _ rfl;rw[cj] at s8
 refine bJ (o:=ze) (N:=5) rfl rfl (by simp) λw e1=>?_
 replace hw:=hw.mv e1;replace hc:=hc.mv e1;replace hr:=hr.mv e1;refine⟨λf ev h9=>?_,?_⟩
 .have hm:=mem_listed h9;simp[go_sem,s10,s8,hk] at hm
 have h8:(execOp a.eval ze).run prog w=.ok (.value (.pointer (some ⟨b,off+kk*3,none⟩))) w:=by
  simp[go_sem,s10,s8,hk]
 rw[h8];show bH r prog mR _ 5 Q (a.put (some 13) (.pointer (some ⟨b,off+kk*3,none⟩))) w;replace hS:=hS.put (t:=13) (by decide) (.pointer (some ⟨b,off+kk*3,none⟩));generalize a.put (some 13) (.pointer (some ⟨b,off+kk*3,none⟩))=a at hS ⊢;clear h8 e1;have s13:=hS.get 13 _ rfl
 refine bJ (o:=zg) (N:=4) rfl rfl (by simp) λw e1=>?_
 replace hw:=hw.mv e1;replace hc:=hc.mv e1;replace hr:=hr.mv e1;obtain⟨z1,z2,z3⟩:=bi w hw;refine⟨λf ev h9=>?_,?_⟩
 .have hm:=mem_listed h9;simp[go_sem,s13,z1,z2,z3] at hm
  rcases hm with rfl|rfl|rfl<;>exact pd (λe=>absurd e hbF)
 have h8:(execOp a.eval zg).run prog w=.ok (.value (.agg #[.string nm,.int .i64 sn,.bool ch])) w:=by
  simp[go_sem,s13,z1,z2,z3]
 rw[h8];show bH r prog mR _ 4 Q (a.put (some 14) (.agg #[.string nm,.int .i64 sn,.bool ch])) w;replace hS:=hS.put (t:=14) (by decide) (.agg #[.string nm,.int .i64 sn,.bool ch]);generalize a.put (some 14) (.agg #[.string nm,.int .i64 sn,.bool ch])=a at hS ⊢;clear h8 e1;clear z1 z2 z3
 refine bJ (o:=zh) (N:=3) rfl rfl (by simp) λw e1=>?_
 replace hw:=hw.mv e1;replace hc:=hc.mv e1;replace hr:=hr.mv e1;refine⟨λf ev h9=>?_,?_⟩
 .have hm:=mem_listed h9;simp[go_sem] at hm
 have h8:(execOp a.eval zh).run prog w=.ok (.value (.pointer (some ⟨w.heap.size,0,none⟩))) (w.alloc (.cells #[.string default,.int .i64 0,.bool false] 89)):=by
  rfl
 rw[h8];clear h8 e1
 have a6:v.ownBlock≠some w.heap.size:=by
  intro e
  rcases hr.2 with ⟨h1,_⟩|⟨g,cap,cur,h1,_,h3,_⟩
  .rw[h1] at e;cases e
  .rw[h1] at e;have:=(a8.1 h3).1;simp only[Value.ownBlock,a7] at e;omega
 have a5:Bel w.heap.size w (w.alloc (.cells #[.string default,.int .i64 0,.bool false] 89)):=(Bel.refl _ _).alloc (aD _) _
 have h':(w.alloc (.cells #[.string default,.int .i64 0,.bool false] 89)).heap[w.heap.size]?=some (.cells #[.string default,.int .i64 0,.bool false] 89):=by
  show (w.heap.push _)[w.heap.size]?=_;simp
 have hh:=hw.size;replace hw:=hw.mv a5;replace hc:=hc.mv a5;replace hr:=hr.mv a5;show bH r prog mR _ 3 Q (a.put (some 6) (.pointer (some ⟨w.heap.size,0,none⟩))) _;replace hS:=hS.put (t:=6) (by decide) (.pointer (some ⟨w.heap.size,0,none⟩));generalize a.put (some 6) (.pointer (some ⟨w.heap.size,0,none⟩))=a at hS ⊢;generalize w.heap.size=cb at hS a6 hh h';generalize (w.alloc (.cells #[.string default,.int .i64 0,.bool false] 89))=w at hw hc hr h' ⊢;have s12:=hS.get 12 _ rfl
 refine bJ (o:=zi) (N:=2) rfl rfl (by simp) λw e1=>?_
 replace hw:=hw.mv e1;replace hc:=hc.mv e1;replace hr:=hr.mv e1;replace h':=(e1.block _ (a8.1 h').1).trans h';refine⟨λf ev h9=>?_,?_⟩
 .have hm:=mem_listed h9;simp[go_sem,s12] at hm
 have h8:(execOp a.eval zi).run prog w=.ok (.value (.int .i64 kk)) w:=by
  simp[go_sem,s12]
 rw[h8];show bH r prog mR _ 2 Q (a.put (some 5) (.int .i64 kk)) w;replace hS:=hS.put (t:=5) (by decide) (.int .i64 kk);generalize a.put (some 5) (.int .i64 kk)=a at hS ⊢;clear h8 e1;have s6:=hS.get 6 _ rfl;have s14:=hS.get 14 _ rfl
 refine bJ (o:=zj) (N:=1) rfl rfl (by simp) λw e1=>?_
 replace hw:=hw.mv e1;replace hc:=hc.mv e1;replace hr:=hr.mv e1;replace h':=(e1.block _ (a8.1 h').1).trans h'
 have y0:w.cell? ⟨cb,0,none⟩=some (.string default):=by simp[World.cell?,h']
 have k0:w.frozen? ⟨cb,0,none⟩=false:=by simp[World.frozen?,h']
 have bn:(w.setCell ⟨cb,0,none⟩ (.string nm)).heap[cb]?=some (.cells #[.string nm,.int .i64 0,.bool false] 89):=by simp[World.setCell,dZ,h']
 have b1:Bel d.lo w (w.setCell ⟨cb,0,none⟩ (.string nm)):=(Bel.refl _ _).setCell hh _
 have n1:∀q,q≠cb->(w.setCell ⟨cb,0,none⟩ (.string nm)).heap[q]?=w.heap[q]?:=λq hq=>by simp[World.setCell,dZ,bT hq]
 generalize ha:w.setCell ⟨cb,0,none⟩ (.string nm)=w1 at bn b1 n1
 have y1:w1.cell? ⟨cb,1,none⟩=some (.int .i64 0):=by simp[World.cell?,bn]
 have k1:w1.frozen? ⟨cb,1,none⟩=false:=by simp[World.frozen?,bn]
 have bo:(w1.setCell ⟨cb,1,none⟩ (.int .i64 sn)).heap[cb]?=some (.cells #[.string nm,.int .i64 sn,.bool false] 89):=by simp[World.setCell,dZ,bn]
 have b2:Bel d.lo w (w1.setCell ⟨cb,1,none⟩ (.int .i64 sn)):=b1.setCell hh _
 have n2:∀q,q≠cb->(w1.setCell ⟨cb,1,none⟩ (.int .i64 sn)).heap[q]?=w.heap[q]?:=λq hq=>by simp[World.setCell,dZ,bT hq,n1 q hq]
 generalize aa:w1.setCell ⟨cb,1,none⟩ (.int .i64 sn)=w2 at bo b2 n2
 have y2:w2.cell? ⟨cb,2,none⟩=some (.bool false):=by simp[World.cell?,bo]
 have k2:w2.frozen? ⟨cb,2,none⟩=false:=by simp[World.frozen?,bo]
 have cm:(w2.setCell ⟨cb,2,none⟩ (.bool ch)).heap[cb]?=some (.cells #[.string nm,.int .i64 sn,.bool ch] 89):=by simp[World.setCell,dZ,bo]
 have b3:Bel d.lo w (w2.setCell ⟨cb,2,none⟩ (.bool ch)):=b2.setCell hh _
 have n3:∀q,q≠cb->(w2.setCell ⟨cb,2,none⟩ (.bool ch)).heap[q]?=w.heap[q]?:=λq hq=>by simp[World.setCell,dZ,bT hq,n2 q hq]
 have hcbF:cb≠d.F:=by have:=hw.low.1;omega
 have es0:∀w es,(store (⟨cb,0,none⟩:Addr) (.string nm)).events prog w es=storedEv prog w es ⟨cb,0,none⟩ (.string nm) .plain:=λ_ _=>events_store _ _ _ _ _ _ rfl
 have es1:∀w es,(store (⟨cb,1,none⟩:Addr) (.int .i64 sn)).events prog w es=storedEv prog w es ⟨cb,1,none⟩ (.int .i64 sn) .plain:=λ_ _=>events_store _ _ _ _ _ _ rfl
 have es2:∀w es,(store (⟨cb,2,none⟩:Addr) (.bool ch)).events prog w es=storedEv prog w es ⟨cb,2,none⟩ (.bool ch) .plain:=λ_ _=>events_store _ _ _ _ _ _ rfl
 refine⟨λf ev h9=>?_,?_⟩
 .have hm:=mem_listed h9;simp[go_sem,s6,s14,y0,k0,ha,y1,k1,aa,y2,k2,es0,es1,es2,storedEv,stored] at hm
  rcases hm with rfl|rfl|rfl<;>exact yG hh hcbF
 have h8:(execOp a.eval zj).run prog w=.ok .skip (w2.setCell ⟨cb,2,none⟩ (.bool ch)):=by
  simp[go_sem,s6,s14,y0,k0,ha,y1,k1,aa,y2,k2,stored]
 rw[h8];show bH r prog mR [] 1 Q (a.put none undef) _;apply gv;refine hQ _ _ cb ⟨hS.size,hS.defers,λt x hx=>hS.get t x ?_⟩ (hw.wH b3) ?_ ?_ hh a6 (by simp[World.cell?,cm]) (by simp[World.cell?,cm])
 .unfold ups at hx ⊢;by_cases t5:t=5
  .simpa[t5] using hx
  by_cases t6:t=6
  .simpa[t5,t6] using hx
  by_cases t12:t=12
  .subst t12;simp[S0] at hx
  by_cases t13:t=13
  .subst t13;simp[S0] at hx
  by_cases t14:t=14
  .subst t14;simp[S0] at hx
  simp_all
 .obtain⟨c,c1,c2⟩:=hc;exact⟨c,(n3 _ (bT hcbF)).trans c1,c2⟩
 .refine⟨hr.1,hr.2.imp (λh=>h) ?_⟩
  rintro⟨q,cap,cur,a1,a2,a3,a4⟩
  refine⟨q,cap,cur,a1,a2,(n3 q λe=>a6 ?_).trans a3,a4⟩;rw[a1,e];rfl
def bz(d:WkD)(wg cb kk:Nat)(v:Value):RdD:={ d with cb:=cb,kk:=kk,wg:=wg,name:=(d.ab.getD kk (default,0,false)).1,cs:=(d.ab.getD kk (default,0,false)).2.1,cc:=(d.ab.getD kk (default,0,false)).2.2,hd:=v }
theorem J5:jB d (kk+1)=jB d kk++[Bn d kk]:=by simp[jB,xx]
def rN(d:WkD):Nat:=(4+((39*(tD d.zs.length+1)+1+1)+8+1+2)+1)+2+1+3+1
theorem J6(bd:d.zs.length<=64)(d4:d.ab.length<=1000)(hin:d.i<d.n){a:Act}{w:World}(ar:a.tmps.size=54)(az:a.defers=ds)(bv:∀t,t<5->∀v,S0 d wg 0 t=some v->a.tmps[t]?.getD undef=v)(hw:WkW d w)(hc:iu d w (.slice none 0 0))(hQ:∀a w,a.defers=ds->WkW d w->(∃v,iu d w v/\gz d w v (jB d d.ab.length))->Q .normal a w):@Code.wpN (aV d.lo d.F d.i) r prog lZ ((d.ab.length*(rN d+1)+rN d+1+2)+6+1) Q a w:=by
 letI:=aV d.lo d.F d.i
 rw[J3];obtain⟨R0,hR0⟩:∃R0,R0=rN d:=⟨_,rfl⟩;rw[<-hR0];obtain⟨M0,hM0⟩:∃M0,M0=d.ab.length*(R0+1)+R0+1+2:=⟨_,rfl⟩;rw[<-hM0];refine gI (N:=6) (M:=M0) ?_;refine ij (N:=5) ?_;show bH r prog qy [0,1,2,3] 5 _ a w;generalize hQ1:Exit.then _ _=Q1;have hr:gz d w (.slice none 0 0) (jB d 0):=⟨rfl,.inl ⟨rfl,rfl⟩⟩
 have hS:Sl ds (λt=>if t<5 then S0 d wg 0 t else none) a:=⟨ar,az,λt v h=>by
  simp_all⟩
 have s1:=hS.get 1 _ rfl
 refine bJ (o:=yX) (N:=4) rfl rfl (by simp) λw e1=>?_
 replace hw:=hw.mv e1;replace hc:=hc.mv e1;replace hr:=hr.mv e1;refine⟨λf ev h9=>?_,?_⟩
 .have hm:=mem_listed h9;simp[go_sem,s1] at hm
 have h8:(execOp a.eval yX).run prog w=.ok (.value (.pointer (some ⟨d.rb,0,none⟩))) w:=by
  simp[go_sem,s1]
 rw[h8];show bH r prog qy _ 4 Q1 (a.put (some 7) (.pointer (some ⟨d.rb,0,none⟩))) w;replace hS:=hS.put (t:=7) (by decide) (.pointer (some ⟨d.rb,0,none⟩));generalize a.put (some 7) (.pointer (some ⟨d.rb,0,none⟩))=a at hS ⊢;clear h8 e1;have s7:=hS.get 7 _ rfl
 refine bJ (o:=yY) (N:=3) rfl rfl (by simp) λw e1=>?_
 replace hw:=hw.mv e1;replace hc:=hc.mv e1;replace hr:=hr.mv e1;have z1:=hw.qV;refine⟨λf ev h9=>?_,?_⟩
 .have hm:=mem_listed h9;simp[go_sem,s7,z1] at hm;subst hm;exact jq hw.apart.1
 have h8:(execOp a.eval yY).run prog w=.ok (.value (.slice d.ca d.ab.length d.jA)) w:=by
  simp[go_sem,s7,z1]
 rw[h8];show bH r prog qy _ 3 Q1 (a.put (some 8) (.slice d.ca d.ab.length d.jA)) w;replace hS:=hS.put (t:=8) (by decide) (.slice d.ca d.ab.length d.jA);generalize a.put (some 8) (.slice d.ca d.ab.length d.jA)=a at hS ⊢;clear h8 e1;clear z1;have s8:=hS.get 8 _ rfl
 refine bJ (o:=yZ) (N:=2) rfl rfl (by simp) λw e1=>?_
 replace hw:=hw.mv e1;replace hc:=hc.mv e1;replace hr:=hr.mv e1;refine⟨λf ev h9=>?_,?_⟩
 .have hm:=mem_listed h9;simp[go_sem,s8] at hm
 have h8:(execOp a.eval yZ).run prog w=.ok (.value (.int .i64 d.ab.length)) w:=by
  simp[go_sem,s8]
 rw[h8];show bH r prog qy _ 2 Q1 (a.put (some 9) (.int .i64 d.ab.length)) w;replace hS:=hS.put (t:=9) (by decide) (.int .i64 d.ab.length);generalize a.put (some 9) (.int .i64 d.ab.length)=a at hS ⊢;clear h8 e1
 refine bJ (o:=y9) (N:=1) rfl rfl (by simp) λw e1=>?_
 replace hw:=hw.mv e1;replace hc:=hc.mv e1;replace hr:=hr.mv e1;refine⟨λf ev h9=>?_,?_⟩
 .have hm:=mem_listed h9;simp[go_sem] at hm
 have h8:(execOp a.eval y9).run prog w=.ok (.value (.int .i64 0)) w:=by
  simp[go_sem]
 rw[h8];show bH r prog qy _ 1 Q1 (a.put (some 10) (.int .i64 0)) w;replace hS:=hS.put (t:=10) (by decide) (.int .i64 0);generalize a.put (some 10) (.int .i64 0)=a at hS ⊢;clear h8 e1;subst hQ1;apply gv;show Code.wpN r prog _ _ _ _ _;rw[hM0];refine uq (N:=d.ab.length*(R0+1)+R0+1) ?_
 have hS0:Sl ds (S0 d wg 0) a:=⟨hS.size,hS.defers,λt v h=>hS.get t v (by
  unfold S0 at h;unfold ups
  match t with
  |0=>trivial
  |1=>trivial
  |2=>trivial
  |3=>trivial
  |4=>trivial
  |5=>cases h
  |6=>cases h
  |7=>cases h
  |8=>simpa using h
  |9=>simpa using h
  |10=>simpa using h
  |t+11=>cases h)⟩
 clear hS s1 s7 s8 bv ar az;refine CG (I:=λm a w=>∃kk v,m+kk=d.ab.length/\Sl ds (S0 d wg kk) a/\WkW d w/\iu d w v/\gz d w v (jB d kk)) d.ab.length R0 ⟨0,_,by omega,hS0,hw,hc,hr⟩ ?_;clear hS0 hw hc hr
 rintro m a w ⟨kk,v,hm,hS,hw,hc,hr⟩
 obtain⟨C,hC⟩:∃C,C=tD d.zs.length+1:=⟨_,rfl⟩
 have hR1:R0=(4+((39*C+1+1)+8+1+2)+1)+2+1+3+1:=by rw[hR0,hC];rfl
 rw[hR1];refine gI (N:=3) (M:=(4+((39*C+1+1)+8+1+2)+1)+2+1) ?_;refine ij (N:=2) ?_;show bH r prog zb [0] 2 _ a w;generalize hQ1:Exit.then _ _=Q1;have s10:=hS.get 10 _ rfl;have s9:=hS.get 9 _ rfl
 refine bJ (o:=za) (N:=1) rfl rfl (by simp) λw e1=>?_
 replace hw:=hw.mv e1;replace hc:=hc.mv e1;replace hr:=hr.mv e1;refine⟨λf ev h9=>?_,?_⟩
 .have hm:=mem_listed h9;simp[go_sem,s10,s9] at hm
 have h8:(execOp a.eval za).run prog w=.ok (.value (.bool (decide ((kk:Int)<(d.ab.length:Int))))) w:=by
  simp[go_sem,s10,s9]
 rw[h8];show bH r prog zb _ 1 Q1 (a.put (some 11) (.bool (decide ((kk:Int)<(d.ab.length:Int))))) w;replace hS:=hS.put (t:=11) (by decide) (.bool (decide ((kk:Int)<(d.ab.length:Int))));generalize a.put (some 11) (.bool (decide ((kk:Int)<(d.ab.length:Int))))=a at hS ⊢;clear h8 e1;subst hQ1;apply gv;refine gI (N:=2) (M:=4+((39*C+1+1)+8+1+2)+1) ?_;have s11:=hS.get 11 _ rfl;refine x9 (N:=1) (t:=decide ((kk:Int)<(d.ab.length:Int))) (by simpa[Act.eval] using s11) ?_
 have cg:Sl ds (S0 d wg kk) a:=⟨hS.size,hS.defers,λt v h=>hS.get t v (by
  unfold ups;by_cases e:t=11
  .subst e;simp[S0] at h
  simp_all)⟩
 clear hS s10 s9 s11;by_cases b5:kk<d.ab.length
 .have b6:decide ((kk:Int)<(d.ab.length:Int))=true:=by grind
  simp only[b6,aJ];apply xY;refine gI (N:=(39*C+1+1)+8+1+2) (M:=4) ?_;refine uq (N:=(39*C+1+1)+8+1) ?_;refine gI (N:=8) (M:=39*C+1+1) ?_
  refine J4 b5 cg hw hc hr λa w cb hS hw hc hr bg a6 y1 y2=>?_
  show Code.wpN r prog _ _ _ _ _;have bq:RdW (bz d wg cb kk v) w:=⟨hw,hin,bg,y1,y2⟩;rw[hC]
  refine J2 (d:=bz d wg cb kk v) (ds:=ds) (l:=jB d kk) bd (by simp[jB];omega) a6 bq hS.size hS.defers (λt ht=>?_) hc hr λa w bq ar az hb c5=>?_
  .obtain⟨h1,h2⟩:=ht
   match t with
   |0=>exact hS.get 0 _ rfl
   |1=>exact hS.get 1 _ rfl
   |2=>exact hS.get 2 _ rfl
   |3=>exact hS.get 3 _ rfl
   |4=>exact hS.get 4 _ rfl
   |5=>exact hS.get 5 _ rfl
   |6=>exact hS.get 6 _ rfl
   |7=>trivial
   |8=>exact hS.get 8 _ rfl
   |9=>exact hS.get 9 _ rfl
   |10=>exact hS.get 10 _ rfl
   |t+11=>omega
  obtain⟨v',hc,hr⟩:=c5;have hw:WkW d w:=bq.wk;replace hc:iu d w v':=hc
  replace hr:gz d w v' (jB d (kk+1)):=by rw[J5];exact hr
  have hS:Sl ds (S0 d wg kk) a:=⟨ar,az,λt x hx=>by
   unfold S0 at hx
   match t with
   |0=>cases hx;exact hb 0 (by decide)
   |1=>cases hx;exact hb 1 (by decide)
   |2=>cases hx;exact hb 2 (by decide)
   |3=>cases hx;exact hb 3 (by decide)
   |4=>cases hx;exact hb 4 (by decide)
   |5=>cases hx
   |6=>cases hx
   |7=>cases hx
   |8=>cases hx;exact hb 8 (by decide)
   |9=>cases hx;exact hb 9 (by decide)
   |10=>cases hx;exact hb 10 (by decide)
   |t+11=>cases hx⟩
  clear hb ar az bq;show Code.wpN r prog _ _ _ _ _;refine ij (N:=3) ?_;show bH r prog vj [0,1] 3 _ a w;generalize hQ1:Exit.then _ _=Q1;have s10:=hS.get 10 _ rfl
  have bb:IntKind.i64.wrap ((kk:Int)+1)=((kk+1:Nat):Int):=by rw[IntKind.wrap_i64];omega
  refine bJ (o:=zk) (N:=2) rfl rfl (by simp) λw e1=>?_
  replace hw:=hw.mv e1;replace hc:=hc.mv e1;replace hr:=hr.mv e1;refine⟨λf ev h9=>?_,?_⟩
  .have hm:=mem_listed h9;simp[go_sem,s10,bb] at hm
  have h8:(execOp a.eval zk).run prog w=.ok (.value (.int .i64 ((kk+1:Nat):Int))) w:=by
   simp[go_sem,s10,bb]
  rw[h8];show bH r prog vj _ 2 Q1 (a.put (some 53) (.int .i64 ((kk+1:Nat):Int))) w;replace hS:=hS.put (t:=53) (by decide) (.int .i64 ((kk+1:Nat):Int));generalize a.put (some 53) (.int .i64 ((kk+1:Nat):Int))=a at hS ⊢;clear h8 e1;have s53:=hS.get 53 _ rfl
  refine bJ (o:=zl) (N:=1) rfl rfl (by simp) λw e1=>?_
  replace hw:=hw.mv e1;replace hc:=hc.mv e1;replace hr:=hr.mv e1;refine⟨λf ev h9=>?_,?_⟩
  .have hm:=mem_listed h9;simp[go_sem,s53] at hm
  have h8:(execOp a.eval zl).run prog w=.ok (.value (.int .i64 ((kk+1:Nat):Int))) w:=by
   simp[go_sem,s53]
  rw[h8];show bH r prog vj _ 1 Q1 (a.put (some 10) (.int .i64 ((kk+1:Nat):Int))) w;replace hS:=hS.put (t:=10) (by decide) (.int .i64 ((kk+1:Nat):Int));generalize a.put (some 10) (.int .i64 ((kk+1:Nat):Int))=a at hS ⊢;clear h8 e1;subst hQ1;apply gv;refine⟨m-1,by omega,kk+1,v',by omega,⟨hS.size,hS.defers,λt x hx=>hS.get t x ?_⟩,hw,hc,hr⟩;unfold S0 at hx;unfold ups
  match t with
  |0=>trivial
  |1=>trivial
  |2=>trivial
  |3=>trivial
  |4=>trivial
  |5=>cases hx
  |6=>cases hx
  |7=>cases hx
  |8=>trivial
  |9=>trivial
  |10=>trivial
  |t+11=>cases hx
 .have b6:decide ((kk:Int)<(d.ab.length:Int))=false:=by grind
  simp only[b6,bw,aQ];refine uo (N:=0) ?_ (by decide);apply CE;show Exit.inBlock 0 Q (.exit 0) a w;simp only[Exit.inBlock,aJ]
  have hk:kk=d.ab.length:=by omega
  subst hk;exact hQ a w cg.defers hw ⟨v,hc,hr⟩
end
abbrev zm:Oper:=⟨some 25,(.fieldAddr 27 (.tmp 1) 1),0, "dispatch.go:117",#[],none⟩
abbrev zn:Oper:=⟨some 26,(.load 23 (.tmp 25)),23, "dispatch.go:117",#[⟨0,.data⟩],none⟩
abbrev zo:Oper:=⟨some 27,(.call ⟨(.builtin .len),#[(.tmp 26)],#[23]⟩),3, "dispatch.go:117",#[⟨1,.data⟩],none⟩
abbrev zp:Oper:=⟨some 28,(.move (.const (.int .i64 0))),3, "dispatch.go:117",#[],none⟩
abbrev DJ:Array Oper:=#[zm,zn,zo,zp]
abbrev zq:Oper:=⟨some 29,(.binOp .lss 3 (.tmp 28) (.tmp 27) 3),0, "dispatch.go:117",#[],none⟩
abbrev vk:Array Oper:=#[zq]
abbrev zt:Oper:=⟨some 30,(.move (.tmp 28)),3, "dispatch.go:117",#[],none⟩
abbrev zu:Oper:=⟨some 31,(.indexAddr 23 (.tmp 26) (.tmp 28)),0, "dispatch.go:117",#[],none⟩
abbrev zv:Oper:=⟨some 32,(.load 91 (.tmp 31)),91, "dispatch.go:117",#[⟨1,.data⟩],none⟩
abbrev zw:Oper:=⟨some 8,(.alloc 3),0, "dispatch.go:117",#[],none⟩
abbrev zy:Oper:=⟨some 9,(.alloc 91),0, "dispatch.go:117",#[],none⟩
abbrev zA:Oper:=⟨none,(.store 3 (.tmp 8) (.tmp 30)),0, "dispatch.go:117",#[⟨3,.data⟩,⟨0,.data⟩,⟨0,.phase⟩,⟨1,.phase⟩,⟨2,.phase⟩,⟨3,.phase⟩,⟨4,.phase⟩],none⟩
abbrev zB:Oper:=⟨none,(.store 91 (.tmp 9) (.tmp 32)),0, "dispatch.go:117",#[⟨4,.data⟩,⟨2,.data⟩,⟨5,.chain⟩,⟨0,.phase⟩,⟨1,.phase⟩,⟨2,.phase⟩,⟨3,.phase⟩,⟨4,.phase⟩,⟨5,.phase⟩],none⟩
abbrev ky:Array Oper:=#[zt,zu,zv,zw,zy,zA,zB]
abbrev DK:Oper:=⟨some 33,(.call ⟨(.value (.func 112)),#[.tmp 7,(.const (.int .i64 1))],#[147,3]⟩),0, "dispatch.go:118",#[],none⟩
abbrev sr:Array Oper:=#[DK]
abbrev zC:Oper:=⟨some 34,(.makeFunc (.func 113) #[] #[.tmp 7,.tmp 1,.tmp 6,.tmp 8,(.tmp 9)]),1, "dispatch.go:119",#[],none⟩
abbrev qz:Oper:=⟨none,(.go ⟨(.value (.tmp 34)),#[],#[]⟩),0, "dispatch.go:119",#[⟨0,.data⟩],none⟩
abbrev mT:Array Oper:=#[zC,qz]
abbrev zD:Oper:=⟨some 35,(.binOp .add 3 (.tmp 28) (.const (.int .i64 1)) 3),3, "dispatch.go:117",#[],none⟩
abbrev zE:Oper:=⟨some 28,(.move (.tmp 35)),3, "dispatch.go:117",#[⟨0,.data⟩],none⟩
abbrev jP:Array Oper:=#[zD,zE]
abbrev DN:Oper:=⟨some 36,(.call ⟨(.value (.func 115)),#[(.tmp 7)],#[147]⟩),0, "dispatch.go:126",#[],none⟩
abbrev pg:Array Oper:=#[DN]
abbrev DO:Oper:=⟨some 37,(.load 92 (.tmp 6)),92, "dispatch.go:127",#[],none⟩
abbrev DQ:Oper:=⟨some 2,(.assign (.tmp 37)),92, "dispatch.go:127",#[⟨0,.data⟩,⟨0,.phase⟩],none⟩
abbrev DR:Oper:=⟨some 3,(.assign (.const (.int .i64 0))),33, "dispatch.go:127",#[⟨1,.chain⟩,⟨0,.phase⟩,⟨1,.phase⟩],none⟩
abbrev nW:Array Oper:=#[DO,DQ,DR]
structure SlS(S:Nat->Option Value)(a:Act):Prop where
 size:a.tmps.size=38
 defers:a.defers=[]
 get:∀t v,S t=some v->a.tmps[t]?.getD undef=v
theorem SlS.put{S:Nat->Option Value}{a:Act}(h:SlS S a){t:Nat}(ht:t<38)(v:Value):SlS (ups S t v) (a.put (some t) v):=by
 refine⟨uW.trans h.size,uX.trans h.defers,λu x hx=>?_⟩;rw[jO (by rw[h.size];exact ht)];unfold ups at hx;by_cases e:t=u
 .simp_all
 .rw[ai (bT e)] at hx;rw[ai e];exact h.get u x hx
def l8(F:Nat)(w:World)(a0:Option Addr)(os:List (ByteArray×Int×Bool×Int)):Prop:=
 ∀j,j<os.length->∃b off,a0=some ⟨b,off,none⟩/\b≠F/\w.cell? ⟨b,off+j*4,none⟩=some (.string (os.getD j (default,0,false,0)).1)/\w.cell? ⟨b,off+j*4+1,none⟩=some (.int .i64 (os.getD j (default,0,false,0)).2.1) /\
  w.cell? ⟨b,off+j*4+2,none⟩=some (.bool (os.getD j (default,0,false,0)).2.2.1)/\w.cell? ⟨b,off+j*4+3,none⟩=some (.int .i64 (os.getD j (default,0,false,0)).2.2.2)
theorem l8.mv{F:Nat}{w w1:World}{a0:Option Addr}{os:List (ByteArray×Int×Bool×Int)}(h:l8 F w a0 os)(e:Bel w.heap.size w w1):l8 F w1 a0 os:=
 λj hj=>let ⟨b,off,h1,h2,h3,h4,h5,h6⟩:=h j hj;⟨b,off,h1,h2,e.cellAt h3,e.cellAt h4,e.cellAt h5,e.cellAt h6⟩
def S20(wg rb xv:Nat)(oa:Option Addr)(a9 n kk:Nat):Nat->Option Value:=λt=>match t with
 |1=>some (.pointer (some ⟨rb,0,none⟩))|6=>some (.pointer (some ⟨xv,0,none⟩))|7=>some (.pointer (some ⟨wg,0,none⟩))|26=>some (.slice oa n a9)|27=>some (.int .i64 n)|28=>some (.int .i64 kk)|_=>none
section
variable{F lo k wg rb xv a9 kk:Nat}{oa:Option Addr}{os:List (ByteArray×Int×Bool×Int)}{r:Option Nat}{Q:Exit->Act->World->Prop}
theorem J7{n:Nat}(hn:n<=1000)(cy:kk<=n){a:Act}{w:World}(hS:SlS (S20 wg rb xv oa a9 n kk) a)(I:World->Prop)(hI:∀w w1,I w->Bel w.heap.size w w1->I w1)(hw:I w){id:Nat}(hQ:∀a w,SlS (S20 wg rb xv oa a9 n kk) a->a.tmps[29]?.getD undef=.bool (decide (kk<n))->I w->Q .normal a w):@Code.wpN (aV lo F k) r prog (.region id vk false) 3 Q a w:=by
 letI:=aV lo F k
 refine ij (N:=2) ?_;show bH r prog vk [0] 2 Q a w;have s28:=hS.get 28 _ rfl;have s27:=hS.get 27 _ rfl
 refine bJ (o:=zq) (N:=1) rfl rfl (by intro c h;cases h) λw1 e1=>?_
 replace hw:=hI _ _ hw e1;refine⟨λf ev h9=>?_,?_⟩
 .have hm:=mem_listed h9;simp[go_sem,s28,s27] at hm
 have h8:(execOp a.eval zq).run prog w1=.ok (.value (.bool (decide (kk<n)))) w1:=by
  simp[go_sem,s28,s27]
 rw[h8];show bH r prog vk _ 1 Q (a.put (some 29) _) w1;apply gv;have hS2:=hS.put (t:=29) (by decide) (.bool (decide (kk<n)));refine hQ _ _ ⟨hS2.size,hS2.defers,λt v h=>hS2.get t v ?_⟩ (hS2.get 29 _ rfl) hw;unfold ups;by_cases e:t=29
 .subst e;simp[S20] at h
 simp_all
theorem J8{n:Nat}(hn:n<=1000)(cy:kk<=n){a:Act}{w:World}(hS:SlS (S20 wg rb xv oa a9 n kk) a)(I:World->Prop)(hI:∀w w1,I w->Bel w.heap.size w w1->I w1)(hw:I w){id:Nat}(hQ:∀a w,SlS (S20 wg rb xv oa a9 n (kk+1)) a->I w->Q .normal a w):@Code.wpN (aV lo F k) r prog (.region id jP false) 4 Q a w:=by
 letI:=aV lo F k
 refine ij (N:=3) ?_;show bH r prog jP [0,1] 3 Q a w;have s28:=hS.get 28 _ rfl
 have bb:IntKind.i64.wrap ((kk:Int)+1)=((kk+1:Nat):Int):=by rw[IntKind.wrap_i64];omega
 refine bJ (o:=zD) (N:=2) rfl rfl (by simp) λw1 e1=>?_
 replace hw:=hI _ _ hw e1;refine⟨λf ev h9=>?_,?_⟩
 .have hm:=mem_listed h9;simp[go_sem,s28,bb] at hm
 have h8:(execOp a.eval zD).run prog w1=.ok (.value (.int .i64 ((kk+1:Nat):Int))) w1:=by
  simp[go_sem,s28,bb]
 rw[h8];show bH r prog jP _ 2 Q (a.put (some 35) _) w1;replace hS:=hS.put (t:=35) (by decide) (.int .i64 ((kk+1:Nat):Int));generalize a.put (some 35) (.int .i64 ((kk+1:Nat):Int))=a at hS ⊢;have sx:=hS.get 35 _ rfl
 refine bJ (o:=zE) (N:=1) rfl rfl (by simp) λw2 e2=>?_
 replace hw:=hI _ _ hw e2;refine⟨λf ev h9=>?_,?_⟩
 .have hm:=mem_listed h9;simp[go_sem,sx] at hm
 have h8:(execOp a.eval zE).run prog w2=.ok (.value (.int .i64 ((kk+1:Nat):Int))) w2:=by
  simp[go_sem,sx]
 rw[h8];show bH r prog jP _ 1 Q (a.put (some 28) _) w2;replace hS:=hS.put (t:=28) (by decide) (.int .i64 ((kk+1:Nat):Int));apply gv;refine hQ _ _ ⟨hS.size,hS.defers,λt v h=>hS.get t v ?_⟩ hw;unfold S20 at h;unfold ups
 match t with
 |1=>trivial
 |6=>trivial
 |7=>trivial
 |26=>trivial
 |27=>trivial
 |28=>trivial
 |0|2|3|4|5|8|9|10|11|12|13|14|15|16|17|18|19|20|21|22|23|24|25=>cases h
 |t+29=>cases h
end
section
variable{F lo k wg rb xv a9 kk:Nat}{oa:Option Addr}{os:List (ByteArray×Int×Bool×Int)}{r:Option Nat}{Q:Exit->Act->World->Prop}
theorem J9(hF:F<lo){n:Nat}(hn:n=os.length)(hk:kk<n){a:Act}{w:World}(hS:SlS (S20 wg rb xv oa a9 n kk) a)(hh:lo<=w.heap.size)(I:World->Prop)(hI:∀w w1,I w->Bel w.heap.size w w1->I w1)(hI2:∀w w1,I w->lo<=w.heap.size->Bel lo w w1->I w1)(hw:I w)(ho:l8 F w oa os){id:Nat}(hQ:∀a w ib ob,SlS (ups (ups (S20 wg rb xv oa a9 n kk) 8 (.pointer (some ⟨ib,0,none⟩))) 9 (.pointer (some ⟨ob,0,none⟩))) a->I w->lo<=w.heap.size->lo<=ib->lo<=ob->ib≠ob->w.heap[ib]?=some (.cells #[.int .i64 kk] 3)->w.heap[ob]?=some (.cells #[.string (os.getD kk (default,0,false,0)).1,.int .i64 (os.getD kk (default,0,false,0)).2.1,.bool (os.getD kk (default,0,false,0)).2.2.1,.int .i64 (os.getD kk (default,0,false,0)).2.2.2] 91)->Q .normal a w):@Code.wpN (aV lo F k) r prog (.region id ky false) 9 Q a w:=by
 letI:=aV lo F k
 obtain⟨b,off,cp,hbF,_,_,_,_⟩:=ho kk (by omega)
 have bi:∀w,l8 F w oa os->w.cell? ⟨b,off+kk*4,none⟩=some (.string (os.getD kk (default,0,false,0)).1)/\w.cell? ⟨b,off+kk*4+1,none⟩=some (.int .i64 (os.getD kk (default,0,false,0)).2.1)/\w.cell? ⟨b,off+kk*4+2,none⟩=some (.bool (os.getD kk (default,0,false,0)).2.2.1)/\w.cell? ⟨b,off+kk*4+3,none⟩=some (.int .i64 (os.getD kk (default,0,false,0)).2.2.2):=λw hw=>by
  obtain⟨b',c8,e,_,h4,h5,h6,h7⟩:=hw kk (by omega);rw[cp] at e;cases e;exact⟨h4,h5,h6,h7⟩
 generalize (os.getD kk (default,0,false,0)).1=nm,(os.getD kk (default,0,false,0)).2.1=sn,(os.getD kk (default,0,false,0)).2.2.1=ch,(os.getD kk (default,0,false,0)).2.2.2=pr at bi hQ;refine ij (N:=8) ?_;show bH r prog ky [0,1,2,3,4,5,6] 8 Q a w;have s28:=hS.get 28 _ rfl
 refine bJ (o:=zt) (N:=7) rfl rfl (by intro c h;cases h) λw1 e1=>?_
 replace hw:=hI _ _ hw e1;replace ho:=ho.mv e1;replace hh:=b7 hh e1.size;refine⟨λf ev h9=>?_,?_⟩
 .have hm:=mem_listed h9;simp[go_sem,s28] at hm
 have h8:(execOp a.eval zt).run prog w1=.ok (.value (.int .i64 kk)) w1:=by
  simp[go_sem,s28]
 rw[h8];show bH r prog ky _ 7 Q (a.put (some 30) (.int .i64 kk)) w1;replace hS:=hS.put (t:=30) (by decide) (.int .i64 kk);generalize a.put (some 30) (.int .i64 kk)=a at hS ⊢;clear h8 e1;generalize w1=w at *;have s28:=hS.get 28 _ rfl;have s26:=hS.get 26 _ rfl;rw[cp] at s26
 refine bJ (o:=zu) (N:=6) rfl rfl (by intro c h;cases h) λw1 e1=>?_
 replace hw:=hI _ _ hw e1;replace ho:=ho.mv e1;replace hh:=b7 hh e1.size;refine⟨λf ev h9=>?_,?_⟩
 .have hm:=mem_listed h9;simp[go_sem,s28,s26,hk] at hm
 have h8:(execOp a.eval zu).run prog w1=.ok (.value (.pointer (some ⟨b,off+kk*4,none⟩))) w1:=by
  simp[go_sem,s28,s26,hk]
 rw[h8];show bH r prog ky _ 6 Q (a.put (some 31) (.pointer (some ⟨b,off+kk*4,none⟩))) w1;replace hS:=hS.put (t:=31) (by decide) (.pointer (some ⟨b,off+kk*4,none⟩));generalize a.put (some 31) (.pointer (some ⟨b,off+kk*4,none⟩))=a at hS ⊢;clear h8 e1;generalize w1=w at *;have s31:=hS.get 31 _ rfl
 refine bJ (o:=zv) (N:=5) rfl rfl (by intro c h;cases h) λw1 e1=>?_
 replace hw:=hI _ _ hw e1;replace ho:=ho.mv e1;replace hh:=b7 hh e1.size;obtain⟨z1,z2,z3,z4⟩:=bi w1 ho;refine⟨λf ev h9=>?_,?_⟩
 .have hm:=mem_listed h9;simp[go_sem,s31,z1,z2,z3,z4] at hm
  rcases hm with rfl|rfl|rfl|rfl<;>exact pd (λe=>absurd e hbF)
 have h8:(execOp a.eval zv).run prog w1=.ok (.value (.agg #[.string nm,.int .i64 sn,.bool ch,.int .i64 pr])) w1:=by
  simp[go_sem,s31,z1,z2,z3,z4]
 rw[h8];show bH r prog ky _ 5 Q (a.put (some 32) (.agg #[.string nm,.int .i64 sn,.bool ch,.int .i64 pr])) w1;replace hS:=hS.put (t:=32) (by decide) (.agg #[.string nm,.int .i64 sn,.bool ch,.int .i64 pr]);generalize a.put (some 32) (.agg #[.string nm,.int .i64 sn,.bool ch,.int .i64 pr])=a at hS ⊢;clear h8 e1;generalize w1=w at *;clear z1 z2 z3 z4
 refine bJ (o:=zw) (N:=4) rfl rfl (by intro c h;cases h) λw1 e1=>?_
 replace hw:=hI _ _ hw e1;replace ho:=ho.mv e1;replace hh:=b7 hh e1.size;refine⟨λf ev h9=>?_,?_⟩
 .have hm:=mem_listed h9;simp[go_sem] at hm
 have h8:(execOp a.eval zw).run prog w1=.ok (.value (.pointer (some ⟨w1.heap.size,0,none⟩))) (w1.alloc (.cells #[.int .i64 0] 3)):=by
  simp[go_sem]
  try rfl
 rw[h8];clear h8 e1;have a5:Bel w1.heap.size w1 (w1.alloc (.cells #[.int .i64 0] 3)):=(Bel.refl _ _).alloc (aD _) _
 have a':(w1.alloc (.cells #[.int .i64 0] 3)).heap[w1.heap.size]?=some (.cells #[.int .i64 0] 3):=by
  show (w1.heap.push _)[w1.heap.size]?=_;simp
 have lib:=hh;replace hw:=hI _ _ hw a5;replace ho:=ho.mv a5;replace hh:=b7 hh a5.size;show bH r prog ky _ 4 Q (a.put (some 8) (.pointer (some ⟨w1.heap.size,0,none⟩))) _;replace hS:=hS.put (t:=8) (by decide) (.pointer (some ⟨w1.heap.size,0,none⟩));generalize a.put (some 8) (.pointer (some ⟨w1.heap.size,0,none⟩))=a at hS ⊢;clear a5;generalize w1.heap.size=ib at *;generalize (w1.alloc (.cells #[.int .i64 0] 3))=w at *
 refine bJ (o:=zy) (N:=3) rfl rfl (by intro c h;cases h) λw1 e1=>?_
 replace hw:=hI _ _ hw e1;replace ho:=ho.mv e1;replace hh:=b7 hh e1.size;replace a':=(e1.block _ (a8.1 a').1).trans a';refine⟨λf ev h9=>?_,?_⟩
 .have hm:=mem_listed h9;simp[go_sem] at hm
 have h8:(execOp a.eval zy).run prog w1=.ok (.value (.pointer (some ⟨w1.heap.size,0,none⟩))) (w1.alloc (.cells #[.string default,.int .i64 0,.bool false,.int .i64 0] 91)):=by
  simp[go_sem]
  try rfl
 rw[h8];clear h8 e1;have a5:Bel w1.heap.size w1 (w1.alloc (.cells #[.string default,.int .i64 0,.bool false,.int .i64 0] 91)):=(Bel.refl _ _).alloc (aD _) _
 have bk:(w1.alloc (.cells #[.string default,.int .i64 0,.bool false,.int .i64 0] 91)).heap[w1.heap.size]?=some (.cells #[.string default,.int .i64 0,.bool false,.int .i64 0] 91):=by
  show (w1.heap.push _)[w1.heap.size]?=_;simp
 have lob:=hh;replace hw:=hI _ _ hw a5;replace ho:=ho.mv a5;replace hh:=b7 hh a5.size
 have ba:ib≠w1.heap.size:=by have:=(a8.1 a').1;omega
 replace a':=(a5.block _ (a8.1 a').1).trans a';show bH r prog ky _ 3 Q (a.put (some 9) (.pointer (some ⟨w1.heap.size,0,none⟩))) _;replace hS:=hS.put (t:=9) (by decide) (.pointer (some ⟨w1.heap.size,0,none⟩));generalize a.put (some 9) (.pointer (some ⟨w1.heap.size,0,none⟩))=a at hS ⊢;clear a5;generalize w1.heap.size=ob at *;generalize (w1.alloc (.cells #[.string default,.int .i64 0,.bool false,.int .i64 0] 91))=w at *;have s8:=hS.get 8 _ rfl;have s9:=hS.get 9 _ rfl;have s30:=hS.get 30 _ rfl;have s32:=hS.get 32 _ rfl
 have hibF:ib≠F:=by omega
 have hobF:ob≠F:=by omega
 refine bJ (o:=zA) (N:=2) rfl rfl (by intro c h;cases h) λw1 e1=>?_
 replace hw:=hI _ _ hw e1;replace hh:=b7 hh e1.size;replace a':=(e1.block _ (a8.1 a').1).trans a';replace bk:=(e1.block _ (a8.1 bk).1).trans bk
 have y0:w1.cell? ⟨ib,0,none⟩=some (.int .i64 0):=by simp[World.cell?,a']
 have k0:w1.frozen? ⟨ib,0,none⟩=false:=by simp[World.frozen?,a']
 have es0:∀w es,(store (⟨ib,0,none⟩:Addr) (.int .i64 (kk:Int))).events prog w es=storedEv prog w es ⟨ib,0,none⟩ (.int .i64 (kk:Int)) .plain:=λ_ _=>events_store _ _ _ _ _ _ rfl
 refine⟨λf ev h9=>?_,?_⟩
 .have hm:=mem_listed h9;simp[go_sem,s8,s30,y0,k0,es0,storedEv,stored] at hm;subst hm;exact yG lib hibF
 have h8:(execOp a.eval zA).run prog w1=.ok .skip (w1.setCell ⟨ib,0,none⟩ (.int .i64 kk)):=by
  simp[go_sem,s8,s30,y0,k0,stored]
 rw[h8];show bH r prog ky _ 2 Q (a.put none undef) _;have b1:Bel lo w1 (w1.setCell ⟨ib,0,none⟩ (.int .i64 kk)):=(Bel.refl _ _).setCell lib _
 have av:(w1.setCell ⟨ib,0,none⟩ (.int .i64 kk)).heap[ib]?=some (.cells #[.int .i64 kk] 3):=by simp[World.setCell,dZ,a']
 have af:(w1.setCell ⟨ib,0,none⟩ (.int .i64 kk)).heap[ob]?=some (.cells #[.string default,.int .i64 0,.bool false,.int .i64 0] 91):=by simp[World.setCell,dZ,ba,bk]
 replace hw:=hI2 _ _ hw hh b1;replace hh:=b7 hh b1.size;clear h8 y0 k0 es0 b1 a' bk e1;generalize w1.setCell ⟨ib,0,none⟩ (.int .i64 kk)=w at *;show bH r prog ky _ 2 Q a w
 refine bJ (o:=zB) (N:=1) rfl rfl (by intro c h;cases h) λw2 e1=>?_
 replace hw:=hI _ _ hw e1;replace hh:=b7 hh e1.size;replace av:=(e1.block _ (a8.1 av).1).trans av;replace af:=(e1.block _ (a8.1 af).1).trans af
 have y0:w2.cell? ⟨ob,0,none⟩=some (.string default):=by simp[World.cell?,af]
 have k0:w2.frozen? ⟨ob,0,none⟩=false:=by simp[World.frozen?,af]
 have h1:(w2.setCell ⟨ob,0,none⟩ (.string nm)).heap[ob]?=some (.cells #[.string nm,.int .i64 0,.bool false,.int .i64 0] 91):=by simp[World.setCell,dZ,af]
 have n1:(w2.setCell ⟨ob,0,none⟩ (.string nm)).heap[ib]?=w2.heap[ib]?:=by simp[World.setCell,dZ,bT ba]
 have b1:Bel lo w2 (w2.setCell ⟨ob,0,none⟩ (.string nm)):=(Bel.refl _ _).setCell lob _;generalize ha:w2.setCell ⟨ob,0,none⟩ (.string nm)=wa at h1 n1 b1
 have y1:wa.cell? ⟨ob,1,none⟩=some (.int .i64 0):=by simp[World.cell?,h1]
 have k1:wa.frozen? ⟨ob,1,none⟩=false:=by simp[World.frozen?,h1]
 have h2:(wa.setCell ⟨ob,1,none⟩ (.int .i64 sn)).heap[ob]?=some (.cells #[.string nm,.int .i64 sn,.bool false,.int .i64 0] 91):=by simp[World.setCell,dZ,h1]
 have n2:(wa.setCell ⟨ob,1,none⟩ (.int .i64 sn)).heap[ib]?=w2.heap[ib]?:=by simp[World.setCell,dZ,bT ba,n1]
 have b2:Bel lo w2 (wa.setCell ⟨ob,1,none⟩ (.int .i64 sn)):=b1.setCell lob _;generalize aa:wa.setCell ⟨ob,1,none⟩ (.int .i64 sn)=wb at h2 n2 b2
 have y2:wb.cell? ⟨ob,2,none⟩=some (.bool false):=by simp[World.cell?,h2]
 have k2:wb.frozen? ⟨ob,2,none⟩=false:=by simp[World.frozen?,h2]
 have h3:(wb.setCell ⟨ob,2,none⟩ (.bool ch)).heap[ob]?=some (.cells #[.string nm,.int .i64 sn,.bool ch,.int .i64 0] 91):=by simp[World.setCell,dZ,h2]
 have n3:(wb.setCell ⟨ob,2,none⟩ (.bool ch)).heap[ib]?=w2.heap[ib]?:=by simp[World.setCell,dZ,bT ba,n2]
 have b3:Bel lo w2 (wb.setCell ⟨ob,2,none⟩ (.bool ch)):=b2.setCell lob _;generalize cq:wb.setCell ⟨ob,2,none⟩ (.bool ch)=wc at h3 n3 b3
 have y3:wc.cell? ⟨ob,3,none⟩=some (.int .i64 0):=by simp[World.cell?,h3]
 have k3:wc.frozen? ⟨ob,3,none⟩=false:=by simp[World.frozen?,h3]
 have h4:(wc.setCell ⟨ob,3,none⟩ (.int .i64 pr)).heap[ob]?=some (.cells #[.string nm,.int .i64 sn,.bool ch,.int .i64 pr] 91):=by simp[World.setCell,dZ,h3]
 have n4:(wc.setCell ⟨ob,3,none⟩ (.int .i64 pr)).heap[ib]?=w2.heap[ib]?:=by simp[World.setCell,dZ,bT ba,n3]
 have b4:Bel lo w2 (wc.setCell ⟨ob,3,none⟩ (.int .i64 pr)):=b3.setCell lob _
 have es0:∀w es,(store (⟨ob,0,none⟩:Addr) (.string nm)).events prog w es=storedEv prog w es ⟨ob,0,none⟩ (.string nm) .plain:=λ_ _=>events_store _ _ _ _ _ _ rfl
 have es1:∀w es,(store (⟨ob,1,none⟩:Addr) (.int .i64 sn)).events prog w es=storedEv prog w es ⟨ob,1,none⟩ (.int .i64 sn) .plain:=λ_ _=>events_store _ _ _ _ _ _ rfl
 have es2:∀w es,(store (⟨ob,2,none⟩:Addr) (.bool ch)).events prog w es=storedEv prog w es ⟨ob,2,none⟩ (.bool ch) .plain:=λ_ _=>events_store _ _ _ _ _ _ rfl
 have es3:∀w es,(store (⟨ob,3,none⟩:Addr) (.int .i64 pr)).events prog w es=storedEv prog w es ⟨ob,3,none⟩ (.int .i64 pr) .plain:=λ_ _=>events_store _ _ _ _ _ _ rfl
 refine⟨λf ev h9=>?_,?_⟩
 .have hm:=mem_listed h9;simp[go_sem,s9,s32,y0,k0,ha,y1,k1,aa,y2,k2,cq,y3,k3,es0,es1,es2,es3,storedEv,stored] at hm
  rcases hm with rfl|rfl|rfl|rfl<;>exact yG lob hobF
 have h8:(execOp a.eval zB).run prog w2=.ok .skip (wc.setCell ⟨ob,3,none⟩ (.int .i64 pr)):=by
  simp[go_sem,s9,s32,y0,k0,ha,y1,k1,aa,y2,k2,cq,y3,k3,stored]
 rw[h8];show bH r prog ky [] 1 Q (a.put none undef) _;apply gv;refine hQ _ _ ib ob ⟨hS.size,hS.defers,λt x hx=>hS.get t x ?_⟩ (hI2 _ _ hw hh b4) (b7 hh b4.size) lib lob ba (n4.trans av) h4;unfold ups at hx ⊢;by_cases t9:t=9
 .simpa[t9] using hx
 by_cases t8:t=8
 .simpa[t8,t9] using hx
 by_cases t30:t=30
 .subst t30;simp[S20] at hx
 by_cases t31:t=31
 .subst t31;simp[S20] at hx
 by_cases t32:t=32
 .subst t32;simp[S20] at hx
 simp_all
end
end Go.Proofs.Tw
