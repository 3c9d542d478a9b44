/- Lemmas. -/
import Derived.Test.YthpkmilhiganjaaGreatPWb
import Derived.Conc.AppendWalk
import Derived.Maps.AppendAt
set_option linter.all false
set_option maxHeartbeats 32000000
set_option maxRecDepth 100000
namespace Go.Proofs.Tw
open Go Go.Fi Go.Conc Go.RowKit
def RdD.fit(d:RdD):Bool:=d.g && !d.h
structure RdX(d:RdD)(l:List Bool)(L:Array Bool)(a:Act)(w:World):Prop where
 cell:L.getD 38 false=false->iQ d.toWkD w d.hd
 row:L.getD 36 false=false->g8 d.toWkD w d.hd l
 bs:L.getD 35 false=true->L.getD 36 false=false->∃b,a.tmps[50]?.getD undef=.slice (some ⟨b,0,none⟩) 1 1/\w.cell? ⟨b,0,none⟩=some (.bool d.fit)/\d.lo<=b
 ap:L.getD 36 false=true->L.getD 38 false=false->g8 d.toWkD w (a.tmps[51]?.getD undef) (l++[d.fit])
 ix:L.getD 37 false=true->a.tmps[52]?.getD undef=.pointer (some ⟨d.F,d.i,none⟩)
 fin:L.getD 38 false=true->∃v,iQ d.toWkD w v/\g8 d.toWkD w v (l++[d.fit])
section
variable{d:RdD}{ds:List Deferred}{l:List Bool}
theorem RdX.mv{L:Array Bool}{a:Act}{w w1:World}(h:RdX d l L a w)(e:Bel w.heap.size w w1):RdX d l L a w1:=
 ⟨λx=>(h.cell x).mv e,λx=>(h.row x).mv e,λx y=>let ⟨b,h1,h2,h3⟩:=h.bs x y;⟨b,h1,e.cellAt h2,h3⟩,λx y=>(h.ap x y).mv e,h.ix,λx=>let ⟨v,h1,h2⟩:=h.fin x;⟨v,h1.mv e,h2.mv e⟩⟩
theorem RdX.put{L:Array Bool}{a:Act}{w:World}(h:RdX d l L a w){i t:Nat}(hi:i<35)(ht:t<50)(v:Value):RdX d l (L.setIfInBounds i true) (a.put (some t) v) w:=by
 have e:∀k,35<=k->(L.setIfInBounds i true).getD k false=L.getD k false:=λk hk=>getD_set_ne false ab
 have g:∀u,50<=u->(a.put (some t) v).tmps[u]?.getD undef=a.tmps[u]?.getD undef:=λu hu=>by
  simp only[Act.put,iX];rw[bN ab]
 refine⟨λx=>h.cell (by rwa [e 38 ab] at x),λx=>h.row (by rwa [e 36 ab] at x),λx y=>?_,λx y=>?_,λx=>?_,λx=>h.fin (by rwa [e 38 ab] at x)⟩
 .rw[g 50 ab];exact h.bs (by rwa [e 35 ab] at x) (by rwa [e 36 ab] at y)
 .rw[g 51 ab];exact h.ap (by rwa [e 36 ab] at x) (by rwa [e 38 ab] at y)
 .rw[g 52 ab];exact h.ix (by rwa [e 37 ab] at x)
theorem RV{L:Array Bool}(hl:L[11]?=some false)(ay:Fi.Closed dM L):L.getD 38 false=false:=by
 cases b6:L.getD 38 false with
 |false=>rfl
 |true=>
  have h:=ay 38 p9 rfl b6 ⟨11,.phase⟩ ae rfl;rw[dC] at h;have e:(⟨11,.phase⟩:Edge).on=11:=rfl;rw[e,hl] at h;cases h
abbrev cR(d:RdD):Nat:=uz d.zs.length+1
variable{r:Option Nat}{Q:Exit->Act->World->Prop}
abbrev rX(d:RdD)(ds:List Deferred)(l:List Bool)(L:Array Bool)(a:Act)(w:World):Prop:=gP (RdW d) 54 ds dM Base Qs (iC d) (b7 d) L a w/\RdX d l L a w
theorem Lc{E:EnvD}{P:Program}{ops:Array Oper}{c c':Nat}{Inv:Array Bool->Act->World->Prop}{i:Nat}{o:Oper}(h:@lC E r P ops c Q Inv i o)(hc:c<=c'):@lC E r P ops c' Q Inv i o:=
 λL a w h1 h2 h3 h4 rest N hk=>@oK E P r Q a w ops (i::rest) _ _ (h L a w h1 h2 h3 h4 rest N hk) ab
theorem sqg{i:Nat}(t:Nat){o o0:Oper}(ho:dM[i]?=some o)(h0:dM[i]?=some o0)(hd:∀c,o0.op≠.defer c)(c7:o0.dst=some t)(hk:i<35/\t<50/\¬Base t/\BS dM i t=true)(hq:∀(L:Array Bool)(a:Act)(w:World),TQ d ds L a w->RdX d l L a w->L[i]?=some false->HE o0 L->Fi.Closed dM L->QC d o0 t a w):@lC (cO d.lo d.F d.i) r prog dM (cR d) Q (rX d ds l) i o:=by
 letI:=cO d.lo d.F d.i
 obtain rfl:=fK (ho.symm.trans h0);obtain⟨h1,h2,h3,h4⟩:=hk
 exact Lc (c:=1) (Er (t:=t) (RdX d l) (λ_ _ h e=>h.mv e) (λ_ _ _ _ h e=>h.mv e) (λ_ _ _ _ h=>h.put h1 h2 _) ho ab hd c7 ab h3 (lT h4)
  hq) ae
theorem s32(bk:d.zs.length<=64):@lC (cO d.lo d.F d.i) r prog dM (cR d) Q (rX d ds l) 32 re:=by
 letI:=cO d.lo d.F d.i
 intro L a w hinv hl he ay rest N hk;obtain⟨hT,hX⟩:=hinv;have sg:=hT.run 26 _ 41 rfl rfl af (he ⟨26,.guard⟩ ae rfl);have br:=jz (ops:=dM) (o:=re) (tmps:=a.tmps) (j:=26) (t:=41) (want:=true) rfl rfl sg;simp only[b7,isB] at br
 have nx:∀w' v,Bel w.heap.size w w'->v=b7 d 47->du r prog dM rest N Q (a.put (some 47) v) w':=λw' v e hv=>
  hk _ _ ⟨(hT.rU (hT.world.mv e)).put (hT.world.mv e) (i:=32) (o:=re) (t:=47) rfl hl rfl af af (lT af) (λ_=>hv),(hX.mv e).put af af v⟩
 cases hg:d.g with
 |false=>
  rw[hg] at br;refine oK (Dt (o:=re) (N:=N) rfl br ?_) ae;exact nx w undef (Bel.refl _ _) (by simp[b7,hg])
 |true=>
  rw[hg] at br;have s43:=hT.run 28 _ 43 rfl rfl af (he ⟨28,.data⟩ ae rfl);have s46:=hT.run 31 _ 46 rfl rfl af (he ⟨31,.data⟩ ae rfl);simp only[b7,hg,cz] at s43 s46
  refine Du (o:=re) (N:=uz d.zs.length) (M:=N) (f:=107) (args:=#[.slice d.fa d.zs.length d.ng,.agg #[.int .i64 d.i,.int .i64 d.kk]]) rfl br ae λw1 e1=>?_
  have ha:=hT.world.mv e1;refine⟨λf ev h9=>?_,?_,?_⟩
  .have hm:=mem_listed h9;simp[go_sem,s43,s46] at hm
  .simp[go_sem,s43,s46]
  .refine Dq (Lb ha.wk.low.1 d.zs.length bk d.fa d.ng d.zs d.i d.kk w1 rfl ha.wk.size ha.wk.lE) ?_
   rintro v w' ⟨rfl,hb⟩
   exact nx w' _ (oM e1 hb) (by simp[b7,hg,RdD.h])
theorem s35:@lC (cO d.lo d.F d.i) r prog dM (cR d) Q (rX d ds l) 35 tB:=by
 letI:=cO d.lo d.F d.i
 intro L a w hinv hl he ay rest N hk;obtain⟨hT,hX⟩:=hinv;have s49:=hT.run 34 _ 49 rfl rfl af (he ⟨34,.data⟩ ae rfl);simp only[b7] at s49;refine oK (dA (o:=tB) (N:=N) rfl rfl ae λw1 e1=>?_) ae;refine⟨λf ev h9=>?_,?_⟩
 .have hm:=mem_listed h9;simp[go_sem,s49] at hm
 .have hr:(execOp a.eval tB).run prog w1=.ok (.value (.slice (some ⟨w1.heap.size,0,none⟩) 1 1)) (w1.alloc (.cells #[.bool d.fit] 4)):=by
   simp[go_sem,s49];rfl
  rw[hr];have a5:Bel w1.heap.size w1 (w1.alloc (.cells #[.bool d.fit] 4)):=(Bel.refl _ _).alloc (bU _) _;have e2:=oM e1 a5;have a':=hT.world.mv e2;have ax:a.tmps.size=54:=hT.size
  have e:∀k,k≠35->(L.setIfInBounds 35 true).getD k false=L.getD k false:=λk hk=>getD_set_ne false ab
  have g50:∀v,(a.put (some 50) v).tmps[50]?.getD undef=v:=λv=>by rw[kZ ab];simp
  have gne:∀v u,u≠50->(a.put (some 50) v).tmps[u]?.getD undef=a.tmps[u]?.getD undef:=λv u hu=>by rw[kZ ab,bN ab]
  refine hk _ _ ⟨(hT.rU a').put a' (i:=35) (o:=tB) (t:=50) rfl hl rfl af af (lT af) nofun,?_⟩;have hX2:=hX.mv e2;refine⟨λx=>hX2.cell (by rwa [e 38 ab] at x),λx=>hX2.row (by rwa [e 36 ab] at x),λ_ _=>⟨w1.heap.size,g50 _,?_,?_⟩,λx y=>?_,λx=>?_,λx=>hX2.fin (by rwa [e 38 ab] at x)⟩
  .simp
  .exact (hT.world.mv e1).wk.size
  .rw[gne _ 51 ab];exact hX2.ap (by rwa [e 36 ab] at x) (by rwa [e 38 ab] at y)
  .rw[gne _ 52 ab];exact hX2.ix (by rwa [e 37 ab] at x)
theorem H9:prog.info? 4=some Tryz.t4:=aj
theorem Ia:Tryz.t4.zero=some (.bool false):=aj
theorem Ib:Tryz.t4.size=1:=aj
theorem Ic:Tryz.t4.bytes=1:=aj
theorem s36(cu:l.length<=1000)(bm:d.hd.ownBlock≠some d.cb):@lC (cO d.lo d.F d.i) r prog dM (cR d) Q (rX d ds l) 36 tD:=by
 letI:=cO d.lo d.F d.i
 intro L a w hinv hl he ay rest N hk;obtain⟨hT,hX⟩:=hinv
 have bf:L.getD 36 false=false:=by rw[dC,hl];rfl
 have b6:L.getD 38 false=false:=by
  cases b6:L.getD 38 false with
  |false=>rfl
  |true=>
   have h:=ay 38 p9 rfl b6 ⟨36,.data⟩ ae rfl;rw[bf] at h;cases h
 have s26:=hT.run 11 _ 26 rfl rfl af (he ⟨11,.data⟩ ae rfl);simp only[b7] at s26;obtain⟨b,s50,cy,c5⟩:=hX.bs (he ⟨35,.data⟩ ae rfl) bf;have ag:=hX.row bf;refine oK (dA (o:=tD) (N:=N) rfl rfl ae λw1 e1=>?_) ae;have aw:=ag.mv e1;have ha:=hT.world.mv e1
 have b8:∀j u,[Value.bool d.fit][j]?=some u->w1.cell? ((⟨b,0,none⟩:Addr).add j)=some u:=by
  intro j u hj;have d2:=e1.cellAt cy
  match j,hj with
  |0,hj=>simp at hj;subst hj;trivial
 have bo:l.length+1<=maxLen:=by simp only[maxLen];omega
 obtain⟨v',w',h8,a6,aq,_,cf⟩:=run_append_own_at (P:=prog) w1 d.lo 136 136 4 Tryz.t4 (.bool false) 1 1 underlying136 H9 Ia Ib Ic rfl af d.hd l.length (l.map Value.bool) aw ⟨b,0,none⟩ 1 1 [Value.bool d.fit] rfl b8 (by simp[Value.oneCell']) bo ab ha.wk.size
 have hh:∀k,d.hd.ownBlock=some k->d.lo<=k:=by
  intro k bv
  rcases aw.2 with ⟨h1,_⟩|⟨g,cap,cur,h1,h2,_⟩
  .rw[h1] at bv;cases bv
  .rw[h1] at bv;cases bv;exact h2
 have bl:Bel d.lo w1 w':=(Bel.refl _ _).grown aq ha.wk.size hh;refine⟨λf ev h9=>?_,?_⟩
 .have hm:=mem_listed h9;rw[events_append_op (.tmp 26) (.tmp 50) 136 rfl (show a.eval (.tmp 26)=d.hd by simpa[Act.eval] using s26) (show a.eval (.tmp 50)=.slice (some ⟨b,0,none⟩) 1 1 by simpa[Act.eval] using s50)] at hm
  rcases events_append_where (P:=prog) w1 d.lo 136 136 4 Tryz.t4 (.bool false) 1 1 underlying136 H9 Ia Ib Ic d.hd l.length (l.map Value.bool) aw ⟨b,0,none⟩ 1 1 [Value.bool d.fit] rfl b8 (by simp[Value.oneCell']) bo ab ev hm with ⟨ad,h1,h2⟩|⟨m,rfl,_⟩
  .refine .inl ⟨ad,h1,λhF=>?_,λbi=>?_⟩
   .exfalso;have d5:=ha.wk.low.1
    rcases h2 with ⟨_,h2⟩|h2
    .simp only at h2;omega
    .have:=hh _ h2.symm;omega
   simp_all
  .exact .inr ⟨_,rfl⟩
 .have hr:(execOp a.eval tD).run prog w1=.ok (.value v') w':=by
   have cl:a.eval (.tmp 26)=d.hd:=by simpa[Act.eval] using s26
   have cm:a.eval (.tmp 50)=.slice (some ⟨b,0,none⟩) 1 1:=by simpa[Act.eval] using s50
   unfold execOp;simp only[resolve,invoke,builtin,Sem.run_bind,Sem.run_pure,Result.andThen_ok,List.map_toArray,jr,xZ,cl,cm,h8]
  rw[hr]
  have hy:∀o v,w1.cell? ⟨d.cb,o,none⟩=some v->w'.cell? ⟨d.cb,o,none⟩=some v:=λo v hv=>by
   have ba:d.cb<w1.heap.size:=by
    unfold World.cell? at hv
    rcases hx:w1.heap[d.cb]? with _|ob
    .simp only[hx] at hv;cases hv
    .exact (cT.1 hx).1
   have b9:w'.heap[d.cb]?=w1.heap[d.cb]?:=aq.block d.cb ba (λe=>bm e.symm);rw[World.cell?_of_block b9];exact hv
  have a':RdW d w':=⟨ha.wk.xr bl,ha.i,ha.cb0,hy _ _ ha.cb1,hy _ _ ha.cb2⟩;have ax:a.tmps.size=54:=hT.size
  have e:∀k,k≠36->(L.setIfInBounds 36 true).getD k false=L.getD k false:=λk hk=>getD_set_ne false ab
  have e36:(L.setIfInBounds 36 true).getD 36 false=true:=by
   have ba:36<L.size:=(cT.1 hl).1;rw[dC];simp[ba]
  have g51:∀v,(a.put (some 51) v).tmps[51]?.getD undef=v:=λv=>by rw[kZ ab];simp
  have gne:∀v u,u≠51->(a.put (some 51) v).tmps[u]?.getD undef=a.tmps[u]?.getD undef:=λv u hu=>by rw[kZ ab,bN ab]
  refine hk _ _ ⟨(hT.rU a').put a' (i:=36) (o:=tD) (t:=51) rfl hl rfl af af (lT af) nofun,?_⟩;refine⟨λ_=>?_,λx=>?_,λ_ y=>?_,λ_ _=>?_,λx=>?_,λx=>?_⟩
  .obtain⟨c,c1,c2⟩:=(hX.cell b6).mv e1;exact⟨c,(bl.block _ ha.wk.low.1).trans c1,c2⟩
  .rw[e36] at x;cases x
  .rw[e36] at y;cases y
  .rw[g51];unfold g8;simpa using a6
  .rw[gne _ 52 ab];exact hX.ix (by rwa [e 37 ab] at x)
  simp_all
theorem RX{L:Array Bool}{i:Nat}(hl:L[i]?=some false):(L.setIfInBounds i true).getD i false=true:=by
 have ba:i<L.size:=(cT.1 hl).1;rw[dC];simp[ba]
theorem s37:@lC (cO d.lo d.F d.i) r prog dM (cR d) Q (rX d ds l) 37 tF:=by
 letI:=cO d.lo d.F d.i
 intro L a w hinv hl he ay rest N hk;obtain⟨hT,hX⟩:=hinv;have s18:=hT.run 3 _ 18 rfl rfl af (he ⟨3,.data⟩ ae rfl);have s19:=hT.run 4 _ 19 rfl rfl af (he ⟨4,.data⟩ ae rfl);simp only[b7] at s18 s19;refine oK (dA (o:=tF) (N:=N) rfl rfl ae λw1 e1=>?_) ae;have ha:=hT.world.mv e1;have hi:=ha.i;refine⟨λf ev h9=>?_,?_⟩
 .have hm:=mem_listed h9;simp[go_sem,s18,s19] at hm;rw[events_indexAt_slice 103 _ _ _ _ _ rfl ⟨Int.natCast_nonneg _,ab⟩] at hm;simp at hm
 .have hr:(execOp a.eval tF).run prog w1=.ok (.value (.pointer (some ⟨d.F,d.i,none⟩))) w1:=by
   simp[go_sem,s18,s19,hi]
  rw[hr];have ax:a.tmps.size=54:=hT.size
  have e:∀k,k≠37->(L.setIfInBounds 37 true).getD k false=L.getD k false:=λk hk=>getD_set_ne false ab
  have g52:∀v,(a.put (some 52) v).tmps[52]?.getD undef=v:=λv=>by rw[kZ ab];simp
  have gne:∀v u,u≠52->(a.put (some 52) v).tmps[u]?.getD undef=a.tmps[u]?.getD undef:=λv u hu=>by rw[kZ ab,bN ab]
  have hX2:=hX.mv e1;refine hk _ _ ⟨(hT.rU ha).put ha (i:=37) (o:=tF) (t:=52) rfl hl rfl af af (lT af) nofun,?_⟩;refine⟨λx=>hX2.cell (by rwa [e 38 ab] at x),λx=>hX2.row (by rwa [e 36 ab] at x),λx y=>?_,λx y=>?_,λ_=>g52 _,λx=>hX2.fin (by rwa [e 38 ab] at x)⟩
  .rw[gne _ 50 ab];exact hX2.bs (by rwa [e 35 ab] at x) (by rwa [e 36 ab] at y)
  .rw[gne _ 51 ab];exact hX2.ap (by rwa [e 36 ab] at x) (by rwa [e 38 ab] at y)
theorem g8.val{w:World}{v:Value}{m:List Bool}(h:g8 d.toWkD w v m):(∃cap,v=.slice none cap 0)\/∃ao n c,v=.slice ao n c:=by
 rcases h.2 with ⟨h1,_⟩|⟨g,cap,cur,h1,_⟩
 .exact .inl ⟨0,h1⟩
 .exact .inr ⟨_,_,_,h1⟩
theorem s38:@lC (cO d.lo d.F d.i) r prog dM (cR d) Q (rX d ds l) 38 p9:=by
 letI:=cO d.lo d.F d.i
 intro L a w hinv hl he ay rest N hk;obtain⟨hT,hX⟩:=hinv
 have b6:L.getD 38 false=false:=by rw[dC,hl];rfl
 have bf:=he ⟨36,.data⟩ ae rfl;have cx:=he ⟨37,.data⟩ ae rfl;have s52:=hX.ix cx;refine oK (dA (o:=p9) (N:=N) rfl rfl ae λw1 e1=>?_) ae;have ha:=hT.world.mv e1;have hX1:=hX.mv e1;have ag:=hX1.ap bf b6;have cq:=hX1.cell b6;obtain⟨cF,c1,c2,c3⟩:=id cq
 obtain⟨ao,n,c,hv⟩:∃ao n c,a.tmps[51]?.getD undef=.slice ao n c:=by
  rcases ag.2 with ⟨h1,_⟩|⟨g,cap,cur,h1,_⟩
  .exact⟨_,_,_,h1⟩
  simp_all
 have hy:=cq.cell
 have c9:w1.frozen? ⟨d.F,d.i,none⟩=false:=by simp[World.frozen?,c1]
 refine⟨λf ev h9=>?_,?_⟩
 .have hm:=mem_listed h9;simp[go_sem,s52,hv,storedEv,hy,c9] at hm;rw[events_store _ _ _ _ _ _ rfl] at hm;simp[storedEv,hy,c9] at hm;subst hm;exact K6 rfl rfl
 .have hr:(execOp a.eval p9).run prog w1=.ok .skip (w1.setCell ⟨d.F,d.i,none⟩ (.slice ao n c)):=by
   simp[go_sem,s52,hv,stored,hy,c9]
  rw[hr]
  have b9:∀b,b≠d.F->(w1.setCell ⟨d.F,d.i,none⟩ (.slice ao n c)).heap[b]?=w1.heap[b]?:=λb hb=>by
   simp[World.setCell,fB,gH hb]
  have bq:w1.heap.size<=(w1.setCell ⟨d.F,d.i,none⟩ (.slice ao n c)).heap.size:=ae
  have hF:(w1.setCell ⟨d.F,d.i,none⟩ (.slice ao n c)).heap[d.F]?=some (.cells (cF.setIfInBounds d.i (.slice ao n c)) 136):=by
   simp[World.setCell,fB,c1]
  generalize (w1.setCell ⟨d.F,d.i,none⟩ (.slice ao n c))=w2 at b9 bq hF ⊢;have a':RdW d w2:=⟨ha.wk.mvF bq b9,ha.i,ha.cb0,(World.cell?_of_block (b9 _ ha.cbF)).trans ha.cb1,(World.cell?_of_block (b9 _ ha.cbF)).trans ha.cb2⟩;have e38:=RX hl;have bj:(L.setIfInBounds 38 true).getD 36 false=true:=(getD_set_ne false ab).trans bf;refine hk _ _ ⟨(hT.rU a').H5 a' (i:=38) (o:=p9) rfl rfl,?_⟩;refine⟨λx=>(by rw[e38] at x;cases x),λx=>(by rw[bj] at x;cases x),λ_ y=>(by rw[bj] at y;cases y),λ_ y=>(by rw[e38] at y;cases y),λ_=>s52,λ_=>⟨.slice ao n c,⟨_,hF,ak,by simp[c2]⟩,?_⟩⟩;rw[hv] at ag;refine⟨ag.1,ag.2.imp id ?_⟩
  rintro⟨q,cap,cur,a1,a2,a3,a4⟩
  have hq:q≠d.F:=by have:=ha.wk.low.1;omega
  exact⟨q,cap,cur,a1,a2,(b9 q hq).trans a3,a4⟩
theorem Ld(bk:d.zs.length<=64)(cu:l.length<=1000)(bm:d.hd.ownBlock≠some d.cb){a:Act}{w:World}(hw:RdW d w)(ax:a.tmps.size=54)(bh:a.defers=ds)(hb:∀t,Base t->a.tmps[t]?.getD undef=iC d t)(hc:iQ d.toWkD w d.hd)(hr:g8 d.toWkD w d.hd l){id:Nat}(hQ:∀a w,RdW d w->a.tmps.size=54->a.defers=ds->(∀t,Base t->a.tmps[t]?.getD undef=iC d t)->(∃v,iQ d.toWkD w v/\g8 d.toWkD w v (l++[d.fit]))->Q .normal a w):@Code.wpN (cO d.lo d.F d.i) r prog (.region id dM true) (39*cR d+1+1) Q a w:=by
 letI:=cO d.lo d.F d.i
 have bc:dM.size=39:=rfl
 have rep:∀k,(Array.replicate 39 false).getD k false=false:=λk=>by
  rw[dC]
  grind
 refine Et (ops:=dM) (by rfl) (cR d) (RdW d) 54 ds Base Qs (iC d) (b7 d) (RdX d l) af (λ_ _ h e=>h.mv e) (λ_ _ h=>h.drew) hw ax bh hb ?_ ?_ ?_
 .intro w1 e1;have d3:=hc.mv e1;have d6:=hr.mv e1;refine⟨λ_=>d3,λ_=>d6,λx=>?_,λx=>?_,λx=>?_,λx=>?_⟩
  .exact absurd (rep 35) (by rw[bc] at x;rw[x];simp)
  .exact absurd (rep 36) (by rw[bc] at x;rw[x];simp)
  .exact absurd (rep 37) (by rw[bc] at x;rw[x];simp)
  trivial
 .intro L a w c4 hT hX;exact hQ a w hT.world hT.size hT.defers hT.base (hX.fin (c4 38 af))
 .intro i o ho;have hi:i<39:=(cT.1 ho).1
  match i,ho,hi with
  |0,ho,_=>exact sqg 15 ho (o0:=BU) rfl ae rfl af λ_ _ _ hT _ _ he _=>Re hT he
  |1,ho,_=>exact sqg 16 ho (o0:=BV) rfl ae rfl af λ_ _ _ hT _ _ he _=>Rf hT he
  |2,ho,_=>exact sqg 17 ho (o0:=BW) rfl ae rfl af λ_ _ _ hT _ _ he _=>Rg hT he
  |3,ho,_=>exact sqg 18 ho (o0:=BX) rfl ae rfl af λ_ _ _ hT _ _ he _=>Rh hT he
  |4,ho,_=>exact sqg 19 ho (o0:=BY) rfl ae rfl af λ_ _ _ hT _ _ he _=>Ri hT he
  |5,ho,_=>exact sqg 20 ho (o0:=BZ) rfl ae rfl af λ_ _ _ hT _ _ he _=>Rj hT he
  |6,ho,_=>exact sqg 21 ho (o0:=B7) rfl ae rfl af λ_ _ _ hT _ _ he _=>Rk hT he
  |7,ho,_=>exact sqg 22 ho (o0:=B8) rfl ae rfl af λ_ _ _ hT _ _ he _=>Rl hT he
  |8,ho,_=>exact sqg 23 ho (o0:=B9) rfl ae rfl af λ_ _ _ hT _ _ he _=>Rm hT he
  |9,ho,_=>exact sqg 24 ho (o0:=Ca) rfl ae rfl af λ_ _ _ hT _ _ he _=>Rn hT he
  |10,ho,_=>exact sqg 25 ho (o0:=zp) rfl ae rfl af λ_ _ _ hT _ _ he _=>Ro hT he
  |11,ho,_=>exact sqg 26 ho (o0:=ra) rfl ae rfl af λ_ _ _ hT hX hl he ay=>Rp hT (hX.cell (RV hl ay)).cell he
  |12,ho,_=>exact sqg 27 ho (o0:=zq) rfl ae rfl af λ_ _ _ hT _ _ he _=>Rq hT he
  |13,ho,_=>exact sqg 28 ho (o0:=zt) rfl ae rfl af λ_ _ _ hT _ _ he _=>Rr hT he
  |14,ho,_=>exact sqg 29 ho (o0:=zu) rfl ae rfl af λ_ _ _ hT _ _ he _=>Rs hT he
  |15,ho,_=>exact sqg 30 ho (o0:=zv) rfl ae rfl af λ_ _ _ hT _ _ he _=>Ru hT he
  |16,ho,_=>exact sqg 31 ho (o0:=zw) rfl ae rfl af λ_ _ _ hT _ _ he _=>Rv hT he
  |17,ho,_=>exact sqg 32 ho (o0:=zy) rfl ae rfl af λ_ _ _ hT _ _ he _=>Rw hT he
  |18,ho,_=>exact sqg 33 ho (o0:=vM) rfl ae rfl af λ_ _ _ hT _ _ he _=>Rx hT he
  |19,ho,_=>exact sqg 34 ho (o0:=vN) rfl ae rfl af λ_ _ _ hT _ _ he _=>Ry hT he
  |20,ho,_=>exact sqg 35 ho (o0:=vO) rfl ae rfl af λ_ _ _ hT _ _ he _=>Rz hT he
  |21,ho,_=>exact sqg 36 ho (o0:=vP) rfl ae rfl af λ_ _ _ hT _ _ he _=>RA hT he
  |22,ho,_=>exact sqg 37 ho (o0:=vQ) rfl ae rfl af λ_ _ _ hT _ _ he _=>RB hT he
  |23,ho,_=>exact sqg 38 ho (o0:=vR) rfl ae rfl af λ_ _ _ hT _ _ he _=>RD hT he
  |24,ho,_=>exact sqg 39 ho (o0:=vS) rfl ae rfl af λ_ _ _ hT _ _ he _=>RF hT he
  |25,ho,_=>exact sqg 40 ho (o0:=zA) rfl ae rfl af λ_ _ _ hT _ _ he _=>RG hT he
  |26,ho,_=>exact sqg 41 ho (o0:=zB) rfl ae rfl af λ_ _ _ hT _ _ he _=>RH hT he
  |27,ho,_=>exact sqg 42 ho (o0:=vU) rfl ae rfl af λ_ _ _ hT _ _ he _=>RJ hT he
  |28,ho,_=>exact sqg 43 ho (o0:=vV) rfl ae rfl af λ_ _ _ hT _ _ he _=>RK hT he
  |29,ho,_=>exact sqg 44 ho (o0:=vW) rfl ae rfl af λ_ _ _ hT _ _ he _=>RO hT he
  |30,ho,_=>exact sqg 45 ho (o0:=vX) rfl ae rfl af λ_ _ _ hT _ _ he _=>RP hT he
  |31,ho,_=>exact sqg 46 ho (o0:=vY) rfl ae rfl af λ_ _ _ hT _ _ he _=>RQ hT he
  |32,ho,_=>obtain rfl:=fK (ho.symm.trans (rfl:dM[32]?=some re));exact s32 bk
  |33,ho,_=>exact sqg 48 ho (o0:=vZ) rfl ae rfl af λ_ _ _ hT _ _ he _=>RS hT he
  |34,ho,_=>exact sqg 49 ho (o0:=zC) rfl ae rfl af λ_ _ _ hT _ _ he _=>RU hT he
  |35,ho,_=>obtain rfl:=fK (ho.symm.trans (rfl:dM[35]?=some tB));exact s35
  |36,ho,_=>obtain rfl:=fK (ho.symm.trans (rfl:dM[36]?=some tD));exact s36 cu bm
  |37,ho,_=>obtain rfl:=fK (ho.symm.trans (rfl:dM[37]?=some tF));exact s37
  |38,ho,_=>obtain rfl:=fK (ho.symm.trans (rfl:dM[38]?=some p9));exact s38
  |i+39,_,hi=>omega
end
abbrev zD:Oper:=⟨some 7,(.fieldAddr 27 (.tmp 1) 0),0, "dispatch.go:121",#[],none⟩
abbrev zE:Oper:=⟨some 8,(.load 22 (.tmp 7)),22, "dispatch.go:121",#[⟨0,.data⟩],none⟩
abbrev zF:Oper:=⟨some 9,(.call ⟨(.builtin .len),#[(.tmp 8)],#[22]⟩),3, "dispatch.go:121",#[⟨1,.data⟩],none⟩
abbrev zG:Oper:=⟨some 10,(.move (.const (.int .i64 0))),3, "dispatch.go:121",#[],none⟩
abbrev rh:Array Oper:=#[zD,zE,zF,zG]
abbrev zH:Oper:=⟨some 11,(.binOp .lss 3 (.tmp 10) (.tmp 9) 3),0, "dispatch.go:121",#[],none⟩
abbrev zI:Array Oper:=#[zH]
abbrev zJ:Oper:=⟨some 12,(.move (.tmp 10)),3, "dispatch.go:121",#[],none⟩
abbrev zK:Oper:=⟨some 13,(.indexAddr 22 (.tmp 8) (.tmp 10)),0, "dispatch.go:121",#[],none⟩
abbrev zL:Oper:=⟨some 14,(.load 89 (.tmp 13)),89, "dispatch.go:121",#[⟨1,.data⟩],none⟩
abbrev zM:Oper:=⟨some 6,(.alloc 89),0, "dispatch.go:121",#[],none⟩
abbrev zN:Oper:=⟨some 5,(.assign (.tmp 12)),3, "dispatch.go:121",#[⟨0,.data⟩,⟨0,.phase⟩,⟨1,.phase⟩,⟨2,.phase⟩,⟨3,.phase⟩],none⟩
abbrev zO:Oper:=⟨none,(.store 89 (.tmp 6) (.tmp 14)),0, "dispatch.go:121",#[⟨3,.data⟩,⟨2,.data⟩,⟨4,.chain⟩,⟨0,.phase⟩,⟨1,.phase⟩,⟨2,.phase⟩,⟨3,.phase⟩,⟨4,.phase⟩],none⟩
abbrev nM:Array Oper:=#[zJ,zK,zL,zM,zN,zO]
abbrev zP:Oper:=⟨some 53,(.binOp .add 3 (.tmp 10) (.const (.int .i64 1)) 3),3, "dispatch.go:121",#[],none⟩
abbrev zQ:Oper:=⟨some 10,(.move (.tmp 53)),3, "dispatch.go:121",#[⟨0,.data⟩],none⟩
abbrev wh:Array Oper:=#[zP,zQ]
theorem Le:nh=.seq (.region 1 rh false) (.block 0 (.loop (.seq (.region 2 zI false) (.seq (.cond (.tmp 11) .skip (.exit 0)) (.seq (.block 1 (.seq (.region 3 nM false) (.region 4 dM true))) (.region 5 wh false)))))):=rfl
structure Sl(ds:List Deferred)(S:Nat->Option Value)(a:Act):Prop where
 size:a.tmps.size=54
 defers:a.defers=ds
 get:∀t v,S t=some v->a.tmps[t]?.getD undef=v
abbrev ups(S:Nat->Option Value)(t:Nat)(v:Value):Nat->Option Value:=λu=>if u=t then some v else S u
theorem Sl.put{ds:List Deferred}{S:Nat->Option Value}{a:Act}(h:Sl ds S a){t:Nat}(ht:t<54)(v:Value):Sl ds (ups S t v) (a.put (some t) v):=by
 refine⟨vK.trans h.size,vL.trans h.defers,λu x hx=>?_⟩;rw[kZ aP];unfold ups at hx;by_cases e:t=u
 .simp_all
 .rw[bN (gH e)] at hx;rw[bN e];exact h.get u x hx
theorem Sl.H5{ds:List Deferred}{S:Nat->Option Value}{a:Act}(h:Sl ds S a)(v:Value):Sl ds S (a.put none v):=h
def S0(d:WkD)(wg kk:Nat):Nat->Option Value:=λt=>match t with
 |0=>some (.pointer (some ⟨wg,0,none⟩))|1=>some (.pointer (some ⟨d.rb,0,none⟩))|2=>some (.pointer (some ⟨d.xv,0,none⟩))|3=>some (.pointer (some ⟨d.ib,0,none⟩))|4=>some (.pointer (some ⟨d.ob,0,none⟩))
 |8=>some (.slice d.ca d.bD.length d.j6)|9=>some (.int .i64 d.bD.length)|10=>some (.int .i64 kk)|_=>none
def lG(d:WkD)(kk:Nat):List Bool:=(List.range kk).map (H6 d)
section
variable{d:WkD}{wg kk:Nat}{ds:List Deferred}{r:Option Nat}{Q:Exit->Act->World->Prop}
theorem Lf(hk:kk<d.bD.length){a:Act}{w:World}(hS:Sl ds (S0 d wg kk) a)(hw:WkW d w){v:Value}(hc:iQ d w v)(hr:g8 d w v (lG d kk)){id:Nat}(hQ:∀a w cb,Sl ds (ups (ups (S0 d wg kk) 5 (.int .i64 kk)) 6 (.pointer (some ⟨cb,0,none⟩))) a->WkW d w->iQ d w v->g8 d w v (lG d kk)->d.lo<=cb->v.ownBlock≠some cb->w.cell? ⟨cb,1,none⟩=some (.int .i64 (d.bD.getD kk (default,0,false)).2.1)->w.cell? ⟨cb,2,none⟩=some (.bool (d.bD.getD kk (default,0,false)).2.2)->Q .normal a w):@Code.wpN (cO d.lo d.F d.i) r prog (.region id nM false) 8 Q a w:=by
 letI:=cO d.lo d.F d.i
 obtain⟨b,off,cp,hbF,c5,_,_,_⟩:=hw.bD kk hk
 have bn:∀w,WkW d w->w.cell? ⟨b,off+kk*3,none⟩=some (.string (d.bD.getD kk (default,0,false)).1)/\w.cell? ⟨b,off+kk*3+1,none⟩=some (.int .i64 (d.bD.getD kk (default,0,false)).2.1)/\w.cell? ⟨b,off+kk*3+2,none⟩=some (.bool (d.bD.getD kk (default,0,false)).2.2):=λw hw=>by
  obtain⟨b',cg,e,_,_,h4,h5,h6⟩:=hw.bD kk hk;rw[cp] at e;simp_all
 generalize (d.bD.getD kk (default,0,false)).1=nm,(d.bD.getD kk (default,0,false)).2.1=sn,(d.bD.getD kk (default,0,false)).2.2=ch at bn hQ;refine iK (N:=7) ?_;show du r prog nM [0,1,2,3,4,5] 7 Q a w;have s10:=hS.get 10 _ rfl;have s8:=hS.get 8 _ rfl
 refine dA (o:=zJ) (N:=6) rfl rfl ae λw e1=>?_
 replace hw:=hw.mv e1;replace hc:=hc.mv e1;replace hr:=hr.mv e1;refine⟨λf ev h9=>?_,?_⟩
 .have hm:=mem_listed h9;simp[go_sem,s10] at hm
 have h8:(execOp a.eval zJ).run prog w=.ok (.value (.int .i64 kk)) w:=by
  simp[go_sem,s10]
 rw[h8];show du r prog nM _ 6 Q (a.put (some 12) (.int .i64 kk)) w;replace hS:=hS.put (t:=12) af (.int .i64 kk);generalize a.put (some 12) (.int .i64 kk)=a at hS ⊢;clear h8 e1;have s10:=hS.get 10 _ rfl;have s8:=hS.get 8 _ rfl;rw[cp] at s8
 refine dA (o:=zK) (N:=5) rfl rfl ae λw e1=>?_
 replace hw:=hw.mv e1;replace hc:=hc.mv e1;replace hr:=hr.mv e1;refine⟨λf ev h9=>?_,?_⟩
 .have hm:=mem_listed h9;simp[go_sem,s10,s8,hk] at hm
 have h8:(execOp a.eval zK).run prog w=.ok (.value (.pointer (some ⟨b,off+kk*3,none⟩))) w:=by
  simp[go_sem,s10,s8,hk]
 rw[h8];show du r prog nM _ 5 Q (a.put (some 13) (.pointer (some ⟨b,off+kk*3,none⟩))) w;replace hS:=hS.put (t:=13) af (.pointer (some ⟨b,off+kk*3,none⟩));generalize a.put (some 13) (.pointer (some ⟨b,off+kk*3,none⟩))=a at hS ⊢;clear h8 e1;have s13:=hS.get 13 _ rfl
 refine dA (o:=zL) (N:=4) rfl rfl ae λw e1=>?_
 replace hw:=hw.mv e1;replace hc:=hc.mv e1;replace hr:=hr.mv e1;obtain⟨z1,z2,z3⟩:=bn w hw;refine⟨λf ev h9=>?_,?_⟩
 .have hm:=mem_listed h9;simp[go_sem,s13,z1,z2,z3] at hm
  rcases hm with rfl|rfl|rfl<;>exact pZ (λe=>absurd e hbF)
 have h8:(execOp a.eval zL).run prog w=.ok (.value (.agg #[.string nm,.int .i64 sn,.bool ch])) w:=by
  simp[go_sem,s13,z1,z2,z3]
 rw[h8];show du r prog nM _ 4 Q (a.put (some 14) (.agg #[.string nm,.int .i64 sn,.bool ch])) w;replace hS:=hS.put (t:=14) af (.agg #[.string nm,.int .i64 sn,.bool ch]);generalize a.put (some 14) (.agg #[.string nm,.int .i64 sn,.bool ch])=a at hS ⊢;clear h8 e1;clear z1 z2 z3
 refine dA (o:=zM) (N:=3) rfl rfl ae λw e1=>?_
 replace hw:=hw.mv e1;replace hc:=hc.mv e1;replace hr:=hr.mv e1;refine⟨λf ev h9=>?_,?_⟩
 .have hm:=mem_listed h9;simp[go_sem] at hm
 have h8:(execOp a.eval zM).run prog w=.ok (.value (.pointer (some ⟨w.heap.size,0,none⟩))) (w.alloc (.cells #[.string default,.int .i64 0,.bool false] 89)):=by
  rfl
 rw[h8];clear h8 e1
 have a6:v.ownBlock≠some w.heap.size:=by
  intro e
  rcases hr.2 with ⟨h1,_⟩|⟨g,cap,cur,h1,_,h3,_⟩
  .rw[h1] at e;cases e
  .rw[h1] at e;have:=(cT.1 h3).1;simp only[Value.ownBlock,cV] at e;omega
 have a5:Bel w.heap.size w (w.alloc (.cells #[.string default,.int .i64 0,.bool false] 89)):=(Bel.refl _ _).alloc (bU _) _
 have h':(w.alloc (.cells #[.string default,.int .i64 0,.bool false] 89)).heap[w.heap.size]?=some (.cells #[.string default,.int .i64 0,.bool false] 89):=by
  show (w.heap.push _)[w.heap.size]?=_;simp
 have hh:=hw.size;replace hw:=hw.mv a5;replace hc:=hc.mv a5;replace hr:=hr.mv a5;show du r prog nM _ 3 Q (a.put (some 6) (.pointer (some ⟨w.heap.size,0,none⟩))) _;replace hS:=hS.put (t:=6) af (.pointer (some ⟨w.heap.size,0,none⟩));generalize a.put (some 6) (.pointer (some ⟨w.heap.size,0,none⟩))=a at hS ⊢;generalize w.heap.size=cb at hS a6 hh h';generalize (w.alloc (.cells #[.string default,.int .i64 0,.bool false] 89))=w at hw hc hr h' ⊢;have s12:=hS.get 12 _ rfl
 refine dA (o:=zN) (N:=2) rfl rfl ae λw e1=>?_
 replace hw:=hw.mv e1;replace hc:=hc.mv e1;replace hr:=hr.mv e1;replace h':=(e1.block _ (cT.1 h').1).trans h';refine⟨λf ev h9=>?_,?_⟩
 .have hm:=mem_listed h9;simp[go_sem,s12] at hm
 have h8:(execOp a.eval zN).run prog w=.ok (.value (.int .i64 kk)) w:=by
  simp[go_sem,s12]
 rw[h8];show du r prog nM _ 2 Q (a.put (some 5) (.int .i64 kk)) w;replace hS:=hS.put (t:=5) af (.int .i64 kk);generalize a.put (some 5) (.int .i64 kk)=a at hS ⊢;clear h8 e1;have s6:=hS.get 6 _ rfl;have s14:=hS.get 14 _ rfl
 refine dA (o:=zO) (N:=1) rfl rfl ae λw e1=>?_
 replace hw:=hw.mv e1;replace hc:=hc.mv e1;replace hr:=hr.mv e1;replace h':=(e1.block _ (cT.1 h').1).trans h'
 have y0:w.cell? ⟨cb,0,none⟩=some (.string default):=by simp[World.cell?,h']
 have k0:w.frozen? ⟨cb,0,none⟩=false:=by simp[World.frozen?,h']
 have bt:(w.setCell ⟨cb,0,none⟩ (.string nm)).heap[cb]?=some (.cells #[.string nm,.int .i64 0,.bool false] 89):=by simp[World.setCell,fB,h']
 have b1:Bel d.lo w (w.setCell ⟨cb,0,none⟩ (.string nm)):=(Bel.refl _ _).setCell hh _
 have n1:∀q,q≠cb->(w.setCell ⟨cb,0,none⟩ (.string nm)).heap[q]?=w.heap[q]?:=λq hq=>by simp[World.setCell,fB,gH hq]
 generalize ha:w.setCell ⟨cb,0,none⟩ (.string nm)=w1 at bt b1 n1
 have y1:w1.cell? ⟨cb,1,none⟩=some (.int .i64 0):=by simp[World.cell?,bt]
 have k1:w1.frozen? ⟨cb,1,none⟩=false:=by simp[World.frozen?,bt]
 have bu:(w1.setCell ⟨cb,1,none⟩ (.int .i64 sn)).heap[cb]?=some (.cells #[.string nm,.int .i64 sn,.bool false] 89):=by simp[World.setCell,fB,bt]
 have b2:Bel d.lo w (w1.setCell ⟨cb,1,none⟩ (.int .i64 sn)):=b1.setCell hh _
 have n2:∀q,q≠cb->(w1.setCell ⟨cb,1,none⟩ (.int .i64 sn)).heap[q]?=w.heap[q]?:=λq hq=>by simp[World.setCell,fB,gH hq,n1 q hq]
 generalize a':w1.setCell ⟨cb,1,none⟩ (.int .i64 sn)=w2 at bu b2 n2
 have y2:w2.cell? ⟨cb,2,none⟩=some (.bool false):=by simp[World.cell?,bu]
 have k2:w2.frozen? ⟨cb,2,none⟩=false:=by simp[World.frozen?,bu]
 have ct:(w2.setCell ⟨cb,2,none⟩ (.bool ch)).heap[cb]?=some (.cells #[.string nm,.int .i64 sn,.bool ch] 89):=by simp[World.setCell,fB,bu]
 have b3:Bel d.lo w (w2.setCell ⟨cb,2,none⟩ (.bool ch)):=b2.setCell hh _
 have n3:∀q,q≠cb->(w2.setCell ⟨cb,2,none⟩ (.bool ch)).heap[q]?=w.heap[q]?:=λq hq=>by simp[World.setCell,fB,gH hq,n2 q hq]
 have hcbF:cb≠d.F:=by have:=hw.low.1;omega
 have es0:∀w es,(store (⟨cb,0,none⟩:Addr) (.string nm)).events prog w es=storedEv prog w es ⟨cb,0,none⟩ (.string nm) .plain:=λ_ _=>events_store _ _ _ _ _ _ rfl
 have es1:∀w es,(store (⟨cb,1,none⟩:Addr) (.int .i64 sn)).events prog w es=storedEv prog w es ⟨cb,1,none⟩ (.int .i64 sn) .plain:=λ_ _=>events_store _ _ _ _ _ _ rfl
 have es2:∀w es,(store (⟨cb,2,none⟩:Addr) (.bool ch)).events prog w es=storedEv prog w es ⟨cb,2,none⟩ (.bool ch) .plain:=λ_ _=>events_store _ _ _ _ _ _ rfl
 refine⟨λf ev h9=>?_,?_⟩
 .have hm:=mem_listed h9;simp[go_sem,s6,s14,y0,k0,ha,y1,k1,a',y2,k2,es0,es1,es2,storedEv,stored] at hm
  rcases hm with rfl|rfl|rfl<;>exact zk hh hcbF
 have h8:(execOp a.eval zO).run prog w=.ok .skip (w2.setCell ⟨cb,2,none⟩ (.bool ch)):=by
  simp[go_sem,s6,s14,y0,k0,ha,y1,k1,a',y2,k2,stored]
 rw[h8];show du r prog nM [] 1 Q (a.put none undef) _;apply gX;refine hQ _ _ cb ⟨hS.size,hS.defers,λt x hx=>hS.get t x ?_⟩ (hw.xr b3) ?_ ?_ hh a6 (by simp[World.cell?,ct]) (by simp[World.cell?,ct])
 .unfold ups at hx ⊢;by_cases t5:t=5
  .simpa[t5] using hx
  by_cases t6:t=6
  .simpa[t5,t6] using hx
  by_cases t12:t=12
  .subst t12;simp[S0] at hx
  by_cases t13:t=13
  .subst t13;simp[S0] at hx
  by_cases t14:t=14
  .subst t14;simp[S0] at hx
  simp_all
 .obtain⟨c,c1,c2⟩:=hc;exact⟨c,(n3 _ (gH hcbF)).trans c1,c2⟩
 .refine⟨hr.1,hr.2.imp (λh=>h) ?_⟩
  rintro⟨q,cap,cur,a1,a2,a3,a4⟩
  refine⟨q,cap,cur,a1,a2,(n3 q λe=>a6 ?_).trans a3,a4⟩;rw[a1,e];rfl
def ni(d:WkD)(wg cb kk:Nat)(v:Value):RdD:={ d with cb:=cb,kk:=kk,wg:=wg,name:=(d.bD.getD kk (default,0,false)).1,cs:=(d.bD.getD kk (default,0,false)).2.1,cc:=(d.bD.getD kk (default,0,false)).2.2,hd:=v }
theorem Lg:lG d (kk+1)=lG d kk++[H6 d kk]:=by simp[lG,List.range_succ]
def rN(d:WkD):Nat:=(4+((39*(uz d.zs.length+1)+1+1)+8+1+2)+1)+2+1+3+1
theorem Lh(bk:d.zs.length<=64)(d7:d.bD.length<=1000)(hin:d.i<d.n){a:Act}{w:World}(ax:a.tmps.size=54)(bh:a.defers=ds)(c6:∀t,t<5->∀v,S0 d wg 0 t=some v->a.tmps[t]?.getD undef=v)(hw:WkW d w)(hc:iQ d w (.slice none 0 0))(hQ:∀a w,a.defers=ds->WkW d w->(∃v,iQ d w v/\g8 d w v (lG d d.bD.length))->Q .normal a w):@Code.wpN (cO d.lo d.F d.i) r prog nh ((d.bD.length*(rN d+1)+rN d+1+2)+6+1) Q a w:=by
 letI:=cO d.lo d.F d.i
 rw[Le];obtain⟨R0,hR0⟩:∃R0,R0=rN d:=⟨_,rfl⟩;rw[<-hR0];obtain⟨M0,hM0⟩:∃M0,M0=d.bD.length*(R0+1)+R0+1+2:=⟨_,rfl⟩;rw[<-hM0];refine ik (N:=6) (M:=M0) ?_;refine iK (N:=5) ?_;show du r prog rh [0,1,2,3] 5 _ a w;generalize hQ1:Exit.then _ _=Q1;have hr:g8 d w (.slice none 0 0) (lG d 0):=⟨rfl,.inl ⟨rfl,rfl⟩⟩
 have hS:Sl ds (λt=>if t<5 then S0 d wg 0 t else none) a:=⟨ax,bh,λt v h=>by
  simp_all⟩
 have s1:=hS.get 1 _ rfl
 refine dA (o:=zD) (N:=4) rfl rfl ae λw e1=>?_
 replace hw:=hw.mv e1;replace hc:=hc.mv e1;replace hr:=hr.mv e1;refine⟨λf ev h9=>?_,?_⟩
 .have hm:=mem_listed h9;simp[go_sem,s1] at hm
 have h8:(execOp a.eval zD).run prog w=.ok (.value (.pointer (some ⟨d.rb,0,none⟩))) w:=by
  simp[go_sem,s1]
 rw[h8];show du r prog rh _ 4 Q1 (a.put (some 7) (.pointer (some ⟨d.rb,0,none⟩))) w;replace hS:=hS.put (t:=7) af (.pointer (some ⟨d.rb,0,none⟩));generalize a.put (some 7) (.pointer (some ⟨d.rb,0,none⟩))=a at hS ⊢;clear h8 e1;have s7:=hS.get 7 _ rfl
 refine dA (o:=zE) (N:=3) rfl rfl ae λw e1=>?_
 replace hw:=hw.mv e1;replace hc:=hc.mv e1;replace hr:=hr.mv e1;have z1:=hw.rW;refine⟨λf ev h9=>?_,?_⟩
 .have hm:=mem_listed h9;simp[go_sem,s7,z1] at hm;subst hm;exact jV hw.apart.1
 have h8:(execOp a.eval zE).run prog w=.ok (.value (.slice d.ca d.bD.length d.j6)) w:=by
  simp[go_sem,s7,z1]
 rw[h8];show du r prog rh _ 3 Q1 (a.put (some 8) (.slice d.ca d.bD.length d.j6)) w;replace hS:=hS.put (t:=8) af (.slice d.ca d.bD.length d.j6);generalize a.put (some 8) (.slice d.ca d.bD.length d.j6)=a at hS ⊢;clear h8 e1;clear z1;have s8:=hS.get 8 _ rfl
 refine dA (o:=zF) (N:=2) rfl rfl ae λw e1=>?_
 replace hw:=hw.mv e1;replace hc:=hc.mv e1;replace hr:=hr.mv e1;refine⟨λf ev h9=>?_,?_⟩
 .have hm:=mem_listed h9;simp[go_sem,s8] at hm
 have h8:(execOp a.eval zF).run prog w=.ok (.value (.int .i64 d.bD.length)) w:=by
  simp[go_sem,s8]
 rw[h8];show du r prog rh _ 2 Q1 (a.put (some 9) (.int .i64 d.bD.length)) w;replace hS:=hS.put (t:=9) af (.int .i64 d.bD.length);generalize a.put (some 9) (.int .i64 d.bD.length)=a at hS ⊢;clear h8 e1
 refine dA (o:=zG) (N:=1) rfl rfl ae λw e1=>?_
 replace hw:=hw.mv e1;replace hc:=hc.mv e1;replace hr:=hr.mv e1;refine⟨λf ev h9=>?_,?_⟩
 .have hm:=mem_listed h9;simp[go_sem] at hm
 have h8:(execOp a.eval zG).run prog w=.ok (.value (.int .i64 0)) w:=by
  simp[go_sem]
 rw[h8];show du r prog rh _ 1 Q1 (a.put (some 10) (.int .i64 0)) w;replace hS:=hS.put (t:=10) af (.int .i64 0);generalize a.put (some 10) (.int .i64 0)=a at hS ⊢;clear h8 e1;subst hQ1;apply gX;show Code.wpN r prog _ _ _ _ _;rw[hM0];refine va (N:=d.bD.length*(R0+1)+R0+1) ?_
 have hS0:Sl ds (S0 d wg 0) a:=⟨hS.size,hS.defers,λt v h=>hS.get t v (by
  unfold S0 at h;unfold ups
  match t with
  |0=>trivial
  |1=>trivial
  |2=>trivial
  |3=>trivial
  |4=>trivial
  |5=>cases h
  |6=>cases h
  |7=>cases h
  |8=>simpa using h
  |9=>simpa using h
  |10=>simpa using h
  |t+11=>cases h)⟩
 clear hS s1 s7 s8 c6 ax bh;refine Ds (I:=λm a w=>∃kk v,m+kk=d.bD.length/\Sl ds (S0 d wg kk) a/\WkW d w/\iQ d w v/\g8 d w v (lG d kk)) d.bD.length R0 ⟨0,_,ab,hS0,hw,hc,hr⟩ ?_;clear hS0 hw hc hr
 rintro m a w ⟨kk,v,hm,hS,hw,hc,hr⟩
 obtain⟨C,hC⟩:∃C,C=uz d.zs.length+1:=⟨_,rfl⟩
 have hR1:R0=(4+((39*C+1+1)+8+1+2)+1)+2+1+3+1:=by rw[hR0,hC];rfl
 rw[hR1];refine ik (N:=3) (M:=(4+((39*C+1+1)+8+1+2)+1)+2+1) ?_;refine iK (N:=2) ?_;show du r prog zI [0] 2 _ a w;generalize hQ1:Exit.then _ _=Q1;have s10:=hS.get 10 _ rfl;have s9:=hS.get 9 _ rfl
 refine dA (o:=zH) (N:=1) rfl rfl ae λw e1=>?_
 replace hw:=hw.mv e1;replace hc:=hc.mv e1;replace hr:=hr.mv e1;refine⟨λf ev h9=>?_,?_⟩
 .have hm:=mem_listed h9;simp[go_sem,s10,s9] at hm
 have h8:(execOp a.eval zH).run prog w=.ok (.value (.bool (decide ((kk:Int)<(d.bD.length:Int))))) w:=by
  simp[go_sem,s10,s9]
 rw[h8];show du r prog zI _ 1 Q1 (a.put (some 11) (.bool (decide ((kk:Int)<(d.bD.length:Int))))) w;replace hS:=hS.put (t:=11) af (.bool (decide ((kk:Int)<(d.bD.length:Int))));generalize a.put (some 11) (.bool (decide ((kk:Int)<(d.bD.length:Int))))=a at hS ⊢;clear h8 e1;subst hQ1;apply gX;refine ik (N:=2) (M:=4+((39*C+1+1)+8+1+2)+1) ?_;have s11:=hS.get 11 _ rfl;refine yH (N:=1) (t:=decide ((kk:Int)<(d.bD.length:Int))) (by simpa[Act.eval] using s11) ?_
 have co:Sl ds (S0 d wg kk) a:=⟨hS.size,hS.defers,λt v h=>hS.get t v (by
  unfold ups;by_cases e:t=11
  .subst e;simp[S0] at h
  simp_all)⟩
 clear hS s10 s9 s11;by_cases ba:kk<d.bD.length
 .have bb:decide ((kk:Int)<(d.bD.length:Int))=true:=ak
  simp only[bb,cz];apply yE;refine ik (N:=(39*C+1+1)+8+1+2) (M:=4) ?_;refine va (N:=(39*C+1+1)+8+1) ?_;refine ik (N:=8) (M:=39*C+1+1) ?_
  refine Lf ba co hw hc hr λa w cb hS hw hc hr bm a6 y1 y2=>?_
  show Code.wpN r prog _ _ _ _ _;have bw:RdW (ni d wg cb kk v) w:=⟨hw,hin,bm,y1,y2⟩;rw[hC]
  refine Ld (d:=ni d wg cb kk v) (ds:=ds) (l:=lG d kk) bk (by simp[lG];omega) a6 bw hS.size hS.defers (λt ht=>?_) hc hr λa w bw ax bh hb c8=>?_
  .obtain⟨h1,h2⟩:=ht
   match t with
   |0=>exact hS.get 0 _ rfl
   |1=>exact hS.get 1 _ rfl
   |2=>exact hS.get 2 _ rfl
   |3=>exact hS.get 3 _ rfl
   |4=>exact hS.get 4 _ rfl
   |5=>exact hS.get 5 _ rfl
   |6=>exact hS.get 6 _ rfl
   |7=>trivial
   |8=>exact hS.get 8 _ rfl
   |9=>exact hS.get 9 _ rfl
   |10=>exact hS.get 10 _ rfl
   |t+11=>omega
  obtain⟨v',hc,hr⟩:=c8;have hw:WkW d w:=bw.wk;replace hc:iQ d w v':=hc
  replace hr:g8 d w v' (lG d (kk+1)):=by rw[Lg];exact hr
  have hS:Sl ds (S0 d wg kk) a:=⟨ax,bh,λt x hx=>by
   unfold S0 at hx
   match t with
   |0=>cases hx;exact hb 0 af
   |1=>cases hx;exact hb 1 af
   |2=>cases hx;exact hb 2 af
   |3=>cases hx;exact hb 3 af
   |4=>cases hx;exact hb 4 af
   |5=>cases hx
   |6=>cases hx
   |7=>cases hx
   |8=>cases hx;exact hb 8 af
   |9=>cases hx;exact hb 9 af
   |10=>cases hx;exact hb 10 af
   |t+11=>cases hx⟩
  clear hb ax bh bw;show Code.wpN r prog _ _ _ _ _;refine iK (N:=3) ?_;show du r prog wh [0,1] 3 _ a w;generalize hQ1:Exit.then _ _=Q1;have s10:=hS.get 10 _ rfl
  have bi:IntKind.i64.wrap ((kk:Int)+1)=((kk+1:Nat):Int):=by rw[IntKind.wrap_i64];omega
  refine dA (o:=zP) (N:=2) rfl rfl ae λw e1=>?_
  replace hw:=hw.mv e1;replace hc:=hc.mv e1;replace hr:=hr.mv e1;refine⟨λf ev h9=>?_,?_⟩
  .have hm:=mem_listed h9;simp[go_sem,s10,bi] at hm
  have h8:(execOp a.eval zP).run prog w=.ok (.value (.int .i64 ((kk+1:Nat):Int))) w:=by
   simp[go_sem,s10,bi]
  rw[h8];show du r prog wh _ 2 Q1 (a.put (some 53) (.int .i64 ((kk+1:Nat):Int))) w;replace hS:=hS.put (t:=53) af (.int .i64 ((kk+1:Nat):Int));generalize a.put (some 53) (.int .i64 ((kk+1:Nat):Int))=a at hS ⊢;clear h8 e1;have s53:=hS.get 53 _ rfl
  refine dA (o:=zQ) (N:=1) rfl rfl ae λw e1=>?_
  replace hw:=hw.mv e1;replace hc:=hc.mv e1;replace hr:=hr.mv e1;refine⟨λf ev h9=>?_,?_⟩
  .have hm:=mem_listed h9;simp[go_sem,s53] at hm
  have h8:(execOp a.eval zQ).run prog w=.ok (.value (.int .i64 ((kk+1:Nat):Int))) w:=by
   simp[go_sem,s53]
  rw[h8];show du r prog wh _ 1 Q1 (a.put (some 10) (.int .i64 ((kk+1:Nat):Int))) w;replace hS:=hS.put (t:=10) af (.int .i64 ((kk+1:Nat):Int));generalize a.put (some 10) (.int .i64 ((kk+1:Nat):Int))=a at hS ⊢;clear h8 e1;subst hQ1;apply gX;refine⟨m-1,ab,kk+1,v',ab,⟨hS.size,hS.defers,λt x hx=>hS.get t x ?_⟩,hw,hc,hr⟩;unfold S0 at hx;unfold ups
  match t with
  |0=>trivial
  |1=>trivial
  |2=>trivial
  |3=>trivial
  |4=>trivial
  |5=>cases hx
  |6=>cases hx
  |7=>cases hx
  |8=>trivial
  |9=>trivial
  |10=>trivial
  |t+11=>cases hx
 .have bb:decide ((kk:Int)<(d.bD.length:Int))=false:=ak
  simp only[bb,dB,cP];refine u9 (N:=0) ?_ af;apply Dr;show Exit.inBlock 0 Q (.exit 0) a w;simp only[Exit.inBlock,cz]
  have hk:kk=d.bD.length:=ab
  subst hk;exact hQ a w co.defers hw ⟨v,hc,hr⟩
end
abbrev zR:Oper:=⟨some 25,(.fieldAddr 27 (.tmp 1) 1),0, "dispatch.go:117",#[],none⟩
abbrev zS:Oper:=⟨some 26,(.load 23 (.tmp 25)),23, "dispatch.go:117",#[⟨0,.data⟩],none⟩
abbrev zT:Oper:=⟨some 27,(.call ⟨(.builtin .len),#[(.tmp 26)],#[23]⟩),3, "dispatch.go:117",#[⟨1,.data⟩],none⟩
abbrev zU:Oper:=⟨some 28,(.move (.const (.int .i64 0))),3, "dispatch.go:117",#[],none⟩
abbrev Eu:Array Oper:=#[zR,zS,zT,zU]
abbrev zV:Oper:=⟨some 29,(.binOp .lss 3 (.tmp 28) (.tmp 27) 3),0, "dispatch.go:117",#[],none⟩
abbrev wi:Array Oper:=#[zV]
abbrev zW:Oper:=⟨some 30,(.move (.tmp 28)),3, "dispatch.go:117",#[],none⟩
abbrev zX:Oper:=⟨some 31,(.indexAddr 23 (.tmp 26) (.tmp 28)),0, "dispatch.go:117",#[],none⟩
abbrev zY:Oper:=⟨some 32,(.load 91 (.tmp 31)),91, "dispatch.go:117",#[⟨1,.data⟩],none⟩
abbrev zZ:Oper:=⟨some 8,(.alloc 3),0, "dispatch.go:117",#[],none⟩
abbrev z8:Oper:=⟨some 9,(.alloc 91),0, "dispatch.go:117",#[],none⟩
abbrev z9:Oper:=⟨none,(.store 3 (.tmp 8) (.tmp 30)),0, "dispatch.go:117",#[⟨3,.data⟩,⟨0,.data⟩,⟨0,.phase⟩,⟨1,.phase⟩,⟨2,.phase⟩,⟨3,.phase⟩,⟨4,.phase⟩],none⟩
abbrev Aa:Oper:=⟨none,(.store 91 (.tmp 9) (.tmp 32)),0, "dispatch.go:117",#[⟨4,.data⟩,⟨2,.data⟩,⟨5,.chain⟩,⟨0,.phase⟩,⟨1,.phase⟩,⟨2,.phase⟩,⟨3,.phase⟩,⟨4,.phase⟩,⟨5,.phase⟩],none⟩
abbrev lW:Array Oper:=#[zW,zX,zY,zZ,z8,z9,Aa]
abbrev Ev:Oper:=⟨some 33,(.call ⟨(.value (.func 112)),#[.tmp 7,(.const (.int .i64 1))],#[147,3]⟩),0, "dispatch.go:118",#[],none⟩
abbrev tG:Array Oper:=#[Ev]
abbrev Ab:Oper:=⟨some 34,(.makeFunc (.func 113) #[] #[.tmp 7,.tmp 1,.tmp 6,.tmp 8,(.tmp 9)]),1, "dispatch.go:119",#[],none⟩
abbrev rj:Oper:=⟨none,(.go ⟨(.value (.tmp 34)),#[],#[]⟩),0, "dispatch.go:119",#[⟨0,.data⟩],none⟩
abbrev nN:Array Oper:=#[Ab,rj]
abbrev Ac:Oper:=⟨some 35,(.binOp .add 3 (.tmp 28) (.const (.int .i64 1)) 3),3, "dispatch.go:117",#[],none⟩
abbrev Ad:Oper:=⟨some 28,(.move (.tmp 35)),3, "dispatch.go:117",#[⟨0,.data⟩],none⟩
abbrev k8:Array Oper:=#[Ac,Ad]
abbrev Ew:Oper:=⟨some 36,(.call ⟨(.value (.func 115)),#[(.tmp 7)],#[147]⟩),0, "dispatch.go:126",#[],none⟩
abbrev qb:Array Oper:=#[Ew]
abbrev Ex:Oper:=⟨some 37,(.load 92 (.tmp 6)),92, "dispatch.go:127",#[],none⟩
abbrev Ey:Oper:=⟨some 2,(.assign (.tmp 37)),92, "dispatch.go:127",#[⟨0,.data⟩,⟨0,.phase⟩],none⟩
abbrev Ez:Oper:=⟨some 3,(.assign (.const (.int .i64 0))),33, "dispatch.go:127",#[⟨1,.chain⟩,⟨0,.phase⟩,⟨1,.phase⟩],none⟩
abbrev oO:Array Oper:=#[Ex,Ey,Ez]
structure SlS(S:Nat->Option Value)(a:Act):Prop where
 size:a.tmps.size=38
 defers:a.defers=[]
 get:∀t v,S t=some v->a.tmps[t]?.getD undef=v
theorem SlS.put{S:Nat->Option Value}{a:Act}(h:SlS S a){t:Nat}(ht:t<38)(v:Value):SlS (ups S t v) (a.put (some t) v):=by
 refine⟨vK.trans h.size,vL.trans h.defers,λu x hx=>?_⟩;rw[kZ aP];unfold ups at hx;by_cases e:t=u
 .simp_all
 .rw[bN (gH e)] at hx;rw[bN e];exact h.get u x hx
def nj(F:Nat)(w:World)(a0:Option Addr)(os:List (ByteArray×Int×Bool×Int)):Prop:=
 ∀j,j<os.length->∃b off,a0=some ⟨b,off,none⟩/\b≠F/\w.cell? ⟨b,off+j*4,none⟩=some (.string (os.getD j (default,0,false,0)).1)/\w.cell? ⟨b,off+j*4+1,none⟩=some (.int .i64 (os.getD j (default,0,false,0)).2.1) /\
  w.cell? ⟨b,off+j*4+2,none⟩=some (.bool (os.getD j (default,0,false,0)).2.2.1)/\w.cell? ⟨b,off+j*4+3,none⟩=some (.int .i64 (os.getD j (default,0,false,0)).2.2.2)
theorem nj.mv{F:Nat}{w w1:World}{a0:Option Addr}{os:List (ByteArray×Int×Bool×Int)}(h:nj F w a0 os)(e:Bel w.heap.size w w1):nj F w1 a0 os:=
 λj hj=>let ⟨b,off,h1,h2,h3,h4,h5,h6⟩:=h j hj;⟨b,off,h1,h2,e.cellAt h3,e.cellAt h4,e.cellAt h5,e.cellAt h6⟩
def S20(wg rb xv:Nat)(oa:Option Addr)(cX n kk:Nat):Nat->Option Value:=λt=>match t with
 |1=>some (.pointer (some ⟨rb,0,none⟩))|6=>some (.pointer (some ⟨xv,0,none⟩))|7=>some (.pointer (some ⟨wg,0,none⟩))|26=>some (.slice oa n cX)|27=>some (.int .i64 n)|28=>some (.int .i64 kk)|_=>none
section
variable{F lo k wg rb xv cX kk:Nat}{oa:Option Addr}{os:List (ByteArray×Int×Bool×Int)}{r:Option Nat}{Q:Exit->Act->World->Prop}
theorem Ll{n:Nat}(hn:n<=1000)(d4:kk<=n){a:Act}{w:World}(hS:SlS (S20 wg rb xv oa cX n kk) a)(I:World->Prop)(hI:∀w w1,I w->Bel w.heap.size w w1->I w1)(hw:I w){id:Nat}(hQ:∀a w,SlS (S20 wg rb xv oa cX n kk) a->a.tmps[29]?.getD undef=.bool (decide (kk<n))->I w->Q .normal a w):@Code.wpN (cO lo F k) r prog (.region id wi false) 3 Q a w:=by
 letI:=cO lo F k
 refine iK (N:=2) ?_;show du r prog wi [0] 2 Q a w;have s28:=hS.get 28 _ rfl;have s27:=hS.get 27 _ rfl
 refine dA (o:=zV) (N:=1) rfl rfl aB λw1 e1=>?_
 replace hw:=hI _ _ hw e1;refine⟨λf ev h9=>?_,?_⟩
 .have hm:=mem_listed h9;simp[go_sem,s28,s27] at hm
 have h8:(execOp a.eval zV).run prog w1=.ok (.value (.bool (decide (kk<n)))) w1:=by
  simp[go_sem,s28,s27]
 rw[h8];show du r prog wi _ 1 Q (a.put (some 29) _) w1;apply gX;have hS2:=hS.put (t:=29) af (.bool (decide (kk<n)));refine hQ _ _ ⟨hS2.size,hS2.defers,λt v h=>hS2.get t v ?_⟩ (hS2.get 29 _ rfl) hw;unfold ups;by_cases e:t=29
 .subst e;simp[S20] at h
 simp_all
theorem Lm{n:Nat}(hn:n<=1000)(d4:kk<=n){a:Act}{w:World}(hS:SlS (S20 wg rb xv oa cX n kk) a)(I:World->Prop)(hI:∀w w1,I w->Bel w.heap.size w w1->I w1)(hw:I w){id:Nat}(hQ:∀a w,SlS (S20 wg rb xv oa cX n (kk+1)) a->I w->Q .normal a w):@Code.wpN (cO lo F k) r prog (.region id k8 false) 4 Q a w:=by
 letI:=cO lo F k
 refine iK (N:=3) ?_;show du r prog k8 [0,1] 3 Q a w;have s28:=hS.get 28 _ rfl
 have bi:IntKind.i64.wrap ((kk:Int)+1)=((kk+1:Nat):Int):=by rw[IntKind.wrap_i64];omega
 refine dA (o:=Ac) (N:=2) rfl rfl ae λw1 e1=>?_
 replace hw:=hI _ _ hw e1;refine⟨λf ev h9=>?_,?_⟩
 .have hm:=mem_listed h9;simp[go_sem,s28,bi] at hm
 have h8:(execOp a.eval Ac).run prog w1=.ok (.value (.int .i64 ((kk+1:Nat):Int))) w1:=by
  simp[go_sem,s28,bi]
 rw[h8];show du r prog k8 _ 2 Q (a.put (some 35) _) w1;replace hS:=hS.put (t:=35) af (.int .i64 ((kk+1:Nat):Int));generalize a.put (some 35) (.int .i64 ((kk+1:Nat):Int))=a at hS ⊢;have sx:=hS.get 35 _ rfl
 refine dA (o:=Ad) (N:=1) rfl rfl ae λw2 e2=>?_
 replace hw:=hI _ _ hw e2;refine⟨λf ev h9=>?_,?_⟩
 .have hm:=mem_listed h9;simp[go_sem,sx] at hm
 have h8:(execOp a.eval Ad).run prog w2=.ok (.value (.int .i64 ((kk+1:Nat):Int))) w2:=by
  simp[go_sem,sx]
 rw[h8];show du r prog k8 _ 1 Q (a.put (some 28) _) w2;replace hS:=hS.put (t:=28) af (.int .i64 ((kk+1:Nat):Int));apply gX;refine hQ _ _ ⟨hS.size,hS.defers,λt v h=>hS.get t v ?_⟩ hw;unfold S20 at h;unfold ups
 match t with
 |1=>trivial
 |6=>trivial
 |7=>trivial
 |26=>trivial
 |27=>trivial
 |28=>trivial
 |0|2|3|4|5|8|9|10|11|12|13|14|15|16|17|18|19|20|21|22|23|24|25=>cases h
 |t+29=>cases h
end
section
variable{F lo k wg rb xv cX kk:Nat}{oa:Option Addr}{os:List (ByteArray×Int×Bool×Int)}{r:Option Nat}{Q:Exit->Act->World->Prop}
theorem Ln(hF:F<lo){n:Nat}(hn:n=os.length)(hk:kk<n){a:Act}{w:World}(hS:SlS (S20 wg rb xv oa cX n kk) a)(hh:lo<=w.heap.size)(I:World->Prop)(hI:∀w w1,I w->Bel w.heap.size w w1->I w1)(hI2:∀w w1,I w->lo<=w.heap.size->Bel lo w w1->I w1)(hw:I w)(ho:nj F w oa os){id:Nat}(hQ:∀a w ib ob,SlS (ups (ups (S20 wg rb xv oa cX n kk) 8 (.pointer (some ⟨ib,0,none⟩))) 9 (.pointer (some ⟨ob,0,none⟩))) a->I w->lo<=w.heap.size->lo<=ib->lo<=ob->ib≠ob->w.heap[ib]?=some (.cells #[.int .i64 kk] 3)->w.heap[ob]?=some (.cells #[.string (os.getD kk (default,0,false,0)).1,.int .i64 (os.getD kk (default,0,false,0)).2.1,.bool (os.getD kk (default,0,false,0)).2.2.1,.int .i64 (os.getD kk (default,0,false,0)).2.2.2] 91)->Q .normal a w):@Code.wpN (cO lo F k) r prog (.region id lW false) 9 Q a w:=by
 letI:=cO lo F k
 obtain⟨b,off,cv,hbF,_,_,_,_⟩:=ho kk ab
 have bn:∀w,nj F w oa os->w.cell? ⟨b,off+kk*4,none⟩=some (.string (os.getD kk (default,0,false,0)).1)/\w.cell? ⟨b,off+kk*4+1,none⟩=some (.int .i64 (os.getD kk (default,0,false,0)).2.1)/\w.cell? ⟨b,off+kk*4+2,none⟩=some (.bool (os.getD kk (default,0,false,0)).2.2.1)/\w.cell? ⟨b,off+kk*4+3,none⟩=some (.int .i64 (os.getD kk (default,0,false,0)).2.2.2):=λw hw=>by
  obtain⟨b',cg,e,_,h4,h5,h6,h7⟩:=hw kk ab;rw[cv] at e;cases e;exact⟨h4,h5,h6,h7⟩
 generalize (os.getD kk (default,0,false,0)).1=nm,(os.getD kk (default,0,false,0)).2.1=sn,(os.getD kk (default,0,false,0)).2.2.1=ch,(os.getD kk (default,0,false,0)).2.2.2=pr at bn hQ;refine iK (N:=8) ?_;show du r prog lW [0,1,2,3,4,5,6] 8 Q a w;have s28:=hS.get 28 _ rfl
 refine dA (o:=zW) (N:=7) rfl rfl aB λw1 e1=>?_
 replace hw:=hI _ _ hw e1;replace ho:=ho.mv e1;replace hh:=dN hh e1.size;refine⟨λf ev h9=>?_,?_⟩
 .have hm:=mem_listed h9;simp[go_sem,s28] at hm
 have h8:(execOp a.eval zW).run prog w1=.ok (.value (.int .i64 kk)) w1:=by
  simp[go_sem,s28]
 rw[h8];show du r prog lW _ 7 Q (a.put (some 30) (.int .i64 kk)) w1;replace hS:=hS.put (t:=30) af (.int .i64 kk);generalize a.put (some 30) (.int .i64 kk)=a at hS ⊢;clear h8 e1;generalize w1=w at *;have s28:=hS.get 28 _ rfl;have s26:=hS.get 26 _ rfl;rw[cv] at s26
 refine dA (o:=zX) (N:=6) rfl rfl aB λw1 e1=>?_
 replace hw:=hI _ _ hw e1;replace ho:=ho.mv e1;replace hh:=dN hh e1.size;refine⟨λf ev h9=>?_,?_⟩
 .have hm:=mem_listed h9;simp[go_sem,s28,s26,hk] at hm
 have h8:(execOp a.eval zX).run prog w1=.ok (.value (.pointer (some ⟨b,off+kk*4,none⟩))) w1:=by
  simp[go_sem,s28,s26,hk]
 rw[h8];show du r prog lW _ 6 Q (a.put (some 31) (.pointer (some ⟨b,off+kk*4,none⟩))) w1;replace hS:=hS.put (t:=31) af (.pointer (some ⟨b,off+kk*4,none⟩));generalize a.put (some 31) (.pointer (some ⟨b,off+kk*4,none⟩))=a at hS ⊢;clear h8 e1;generalize w1=w at *;have s31:=hS.get 31 _ rfl
 refine dA (o:=zY) (N:=5) rfl rfl aB λw1 e1=>?_
 replace hw:=hI _ _ hw e1;replace ho:=ho.mv e1;replace hh:=dN hh e1.size;obtain⟨z1,z2,z3,z4⟩:=bn w1 ho;refine⟨λf ev h9=>?_,?_⟩
 .have hm:=mem_listed h9;simp[go_sem,s31,z1,z2,z3,z4] at hm
  rcases hm with rfl|rfl|rfl|rfl<;>exact pZ (λe=>absurd e hbF)
 have h8:(execOp a.eval zY).run prog w1=.ok (.value (.agg #[.string nm,.int .i64 sn,.bool ch,.int .i64 pr])) w1:=by
  simp[go_sem,s31,z1,z2,z3,z4]
 rw[h8];show du r prog lW _ 5 Q (a.put (some 32) (.agg #[.string nm,.int .i64 sn,.bool ch,.int .i64 pr])) w1;replace hS:=hS.put (t:=32) af (.agg #[.string nm,.int .i64 sn,.bool ch,.int .i64 pr]);generalize a.put (some 32) (.agg #[.string nm,.int .i64 sn,.bool ch,.int .i64 pr])=a at hS ⊢;clear h8 e1;generalize w1=w at *;clear z1 z2 z3 z4
 refine dA (o:=zZ) (N:=4) rfl rfl aB λw1 e1=>?_
 replace hw:=hI _ _ hw e1;replace ho:=ho.mv e1;replace hh:=dN hh e1.size;refine⟨λf ev h9=>?_,?_⟩
 .have hm:=mem_listed h9;simp[go_sem] at hm
 have h8:(execOp a.eval zZ).run prog w1=.ok (.value (.pointer (some ⟨w1.heap.size,0,none⟩))) (w1.alloc (.cells #[.int .i64 0] 3)):=by
  simp[go_sem]
  try rfl
 rw[h8];clear h8 e1;have a5:Bel w1.heap.size w1 (w1.alloc (.cells #[.int .i64 0] 3)):=(Bel.refl _ _).alloc (bU _) _
 have a9:(w1.alloc (.cells #[.int .i64 0] 3)).heap[w1.heap.size]?=some (.cells #[.int .i64 0] 3):=by
  show (w1.heap.push _)[w1.heap.size]?=_;simp
 have lib:=hh;replace hw:=hI _ _ hw a5;replace ho:=ho.mv a5;replace hh:=dN hh a5.size;show du r prog lW _ 4 Q (a.put (some 8) (.pointer (some ⟨w1.heap.size,0,none⟩))) _;replace hS:=hS.put (t:=8) af (.pointer (some ⟨w1.heap.size,0,none⟩));generalize a.put (some 8) (.pointer (some ⟨w1.heap.size,0,none⟩))=a at hS ⊢;clear a5;generalize w1.heap.size=ib at *;generalize (w1.alloc (.cells #[.int .i64 0] 3))=w at *
 refine dA (o:=z8) (N:=3) rfl rfl aB λw1 e1=>?_
 replace hw:=hI _ _ hw e1;replace ho:=ho.mv e1;replace hh:=dN hh e1.size;replace a9:=(e1.block _ (cT.1 a9).1).trans a9;refine⟨λf ev h9=>?_,?_⟩
 .have hm:=mem_listed h9;simp[go_sem] at hm
 have h8:(execOp a.eval z8).run prog w1=.ok (.value (.pointer (some ⟨w1.heap.size,0,none⟩))) (w1.alloc (.cells #[.string default,.int .i64 0,.bool false,.int .i64 0] 91)):=by
  simp[go_sem]
  try rfl
 rw[h8];clear h8 e1;have a5:Bel w1.heap.size w1 (w1.alloc (.cells #[.string default,.int .i64 0,.bool false,.int .i64 0] 91)):=(Bel.refl _ _).alloc (bU _) _
 have bp:(w1.alloc (.cells #[.string default,.int .i64 0,.bool false,.int .i64 0] 91)).heap[w1.heap.size]?=some (.cells #[.string default,.int .i64 0,.bool false,.int .i64 0] 91):=by
  show (w1.heap.push _)[w1.heap.size]?=_;simp
 have lob:=hh;replace hw:=hI _ _ hw a5;replace ho:=ho.mv a5;replace hh:=dN hh a5.size
 have bg:ib≠w1.heap.size:=by have:=(cT.1 a9).1;omega
 replace a9:=(a5.block _ (cT.1 a9).1).trans a9;show du r prog lW _ 3 Q (a.put (some 9) (.pointer (some ⟨w1.heap.size,0,none⟩))) _;replace hS:=hS.put (t:=9) af (.pointer (some ⟨w1.heap.size,0,none⟩));generalize a.put (some 9) (.pointer (some ⟨w1.heap.size,0,none⟩))=a at hS ⊢;clear a5;generalize w1.heap.size=ob at *;generalize (w1.alloc (.cells #[.string default,.int .i64 0,.bool false,.int .i64 0] 91))=w at *;have s8:=hS.get 8 _ rfl;have s9:=hS.get 9 _ rfl;have s30:=hS.get 30 _ rfl;have s32:=hS.get 32 _ rfl
 have hibF:ib≠F:=ab
 have hobF:ob≠F:=ab
 refine dA (o:=z9) (N:=2) rfl rfl aB λw1 e1=>?_
 replace hw:=hI _ _ hw e1;replace hh:=dN hh e1.size;replace a9:=(e1.block _ (cT.1 a9).1).trans a9;replace bp:=(e1.block _ (cT.1 bp).1).trans bp
 have y0:w1.cell? ⟨ib,0,none⟩=some (.int .i64 0):=by simp[World.cell?,a9]
 have k0:w1.frozen? ⟨ib,0,none⟩=false:=by simp[World.frozen?,a9]
 have es0:∀w es,(store (⟨ib,0,none⟩:Addr) (.int .i64 (kk:Int))).events prog w es=storedEv prog w es ⟨ib,0,none⟩ (.int .i64 (kk:Int)) .plain:=λ_ _=>events_store _ _ _ _ _ _ rfl
 refine⟨λf ev h9=>?_,?_⟩
 .have hm:=mem_listed h9;simp[go_sem,s8,s30,y0,k0,es0,storedEv,stored] at hm;subst hm;exact zk lib hibF
 have h8:(execOp a.eval z9).run prog w1=.ok .skip (w1.setCell ⟨ib,0,none⟩ (.int .i64 kk)):=by
  simp[go_sem,s8,s30,y0,k0,stored]
 rw[h8];show du r prog lW _ 2 Q (a.put none undef) _;have b1:Bel lo w1 (w1.setCell ⟨ib,0,none⟩ (.int .i64 kk)):=(Bel.refl _ _).setCell lib _
 have b5:(w1.setCell ⟨ib,0,none⟩ (.int .i64 kk)).heap[ib]?=some (.cells #[.int .i64 kk] 3):=by simp[World.setCell,fB,a9]
 have aa:(w1.setCell ⟨ib,0,none⟩ (.int .i64 kk)).heap[ob]?=some (.cells #[.string default,.int .i64 0,.bool false,.int .i64 0] 91):=by simp[World.setCell,fB,bg,bp]
 replace hw:=hI2 _ _ hw hh b1;replace hh:=dN hh b1.size;clear h8 y0 k0 es0 b1 a9 bp e1;generalize w1.setCell ⟨ib,0,none⟩ (.int .i64 kk)=w at *;show du r prog lW _ 2 Q a w
 refine dA (o:=Aa) (N:=1) rfl rfl aB λw2 e1=>?_
 replace hw:=hI _ _ hw e1;replace hh:=dN hh e1.size;replace b5:=(e1.block _ (cT.1 b5).1).trans b5;replace aa:=(e1.block _ (cT.1 aa).1).trans aa
 have y0:w2.cell? ⟨ob,0,none⟩=some (.string default):=by simp[World.cell?,aa]
 have k0:w2.frozen? ⟨ob,0,none⟩=false:=by simp[World.frozen?,aa]
 have h1:(w2.setCell ⟨ob,0,none⟩ (.string nm)).heap[ob]?=some (.cells #[.string nm,.int .i64 0,.bool false,.int .i64 0] 91):=by simp[World.setCell,fB,aa]
 have n1:(w2.setCell ⟨ob,0,none⟩ (.string nm)).heap[ib]?=w2.heap[ib]?:=by simp[World.setCell,fB,gH bg]
 have b1:Bel lo w2 (w2.setCell ⟨ob,0,none⟩ (.string nm)):=(Bel.refl _ _).setCell lob _;generalize ha:w2.setCell ⟨ob,0,none⟩ (.string nm)=wa at h1 n1 b1
 have y1:wa.cell? ⟨ob,1,none⟩=some (.int .i64 0):=by simp[World.cell?,h1]
 have k1:wa.frozen? ⟨ob,1,none⟩=false:=by simp[World.frozen?,h1]
 have h2:(wa.setCell ⟨ob,1,none⟩ (.int .i64 sn)).heap[ob]?=some (.cells #[.string nm,.int .i64 sn,.bool false,.int .i64 0] 91):=by simp[World.setCell,fB,h1]
 have n2:(wa.setCell ⟨ob,1,none⟩ (.int .i64 sn)).heap[ib]?=w2.heap[ib]?:=by simp[World.setCell,fB,gH bg,n1]
 have b2:Bel lo w2 (wa.setCell ⟨ob,1,none⟩ (.int .i64 sn)):=b1.setCell lob _;generalize a':wa.setCell ⟨ob,1,none⟩ (.int .i64 sn)=wb at h2 n2 b2
 have y2:wb.cell? ⟨ob,2,none⟩=some (.bool false):=by simp[World.cell?,h2]
 have k2:wb.frozen? ⟨ob,2,none⟩=false:=by simp[World.frozen?,h2]
 have h3:(wb.setCell ⟨ob,2,none⟩ (.bool ch)).heap[ob]?=some (.cells #[.string nm,.int .i64 sn,.bool ch,.int .i64 0] 91):=by simp[World.setCell,fB,h2]
 have n3:(wb.setCell ⟨ob,2,none⟩ (.bool ch)).heap[ib]?=w2.heap[ib]?:=by simp[World.setCell,fB,gH bg,n2]
 have b3:Bel lo w2 (wb.setCell ⟨ob,2,none⟩ (.bool ch)):=b2.setCell lob _;generalize cw:wb.setCell ⟨ob,2,none⟩ (.bool ch)=wc at h3 n3 b3
 have y3:wc.cell? ⟨ob,3,none⟩=some (.int .i64 0):=by simp[World.cell?,h3]
 have k3:wc.frozen? ⟨ob,3,none⟩=false:=by simp[World.frozen?,h3]
 have h4:(wc.setCell ⟨ob,3,none⟩ (.int .i64 pr)).heap[ob]?=some (.cells #[.string nm,.int .i64 sn,.bool ch,.int .i64 pr] 91):=by simp[World.setCell,fB,h3]
 have n4:(wc.setCell ⟨ob,3,none⟩ (.int .i64 pr)).heap[ib]?=w2.heap[ib]?:=by simp[World.setCell,fB,gH bg,n3]
 have b4:Bel lo w2 (wc.setCell ⟨ob,3,none⟩ (.int .i64 pr)):=b3.setCell lob _
 have es0:∀w es,(store (⟨ob,0,none⟩:Addr) (.string nm)).events prog w es=storedEv prog w es ⟨ob,0,none⟩ (.string nm) .plain:=λ_ _=>events_store _ _ _ _ _ _ rfl
 have es1:∀w es,(store (⟨ob,1,none⟩:Addr) (.int .i64 sn)).events prog w es=storedEv prog w es ⟨ob,1,none⟩ (.int .i64 sn) .plain:=λ_ _=>events_store _ _ _ _ _ _ rfl
 have es2:∀w es,(store (⟨ob,2,none⟩:Addr) (.bool ch)).events prog w es=storedEv prog w es ⟨ob,2,none⟩ (.bool ch) .plain:=λ_ _=>events_store _ _ _ _ _ _ rfl
 have es3:∀w es,(store (⟨ob,3,none⟩:Addr) (.int .i64 pr)).events prog w es=storedEv prog w es ⟨ob,3,none⟩ (.int .i64 pr) .plain:=λ_ _=>events_store _ _ _ _ _ _ rfl
 refine⟨λf ev h9=>?_,?_⟩
 .have hm:=mem_listed h9;simp[go_sem,s9,s32,y0,k0,ha,y1,k1,a',y2,k2,cw,y3,k3,es0,es1,es2,es3,storedEv,stored] at hm
  rcases hm with rfl|rfl|rfl|rfl<;>exact zk lob hobF
 have h8:(execOp a.eval Aa).run prog w2=.ok .skip (wc.setCell ⟨ob,3,none⟩ (.int .i64 pr)):=by
  simp[go_sem,s9,s32,y0,k0,ha,y1,k1,a',y2,k2,cw,y3,k3,stored]
 rw[h8];show du r prog lW [] 1 Q (a.put none undef) _;apply gX;refine hQ _ _ ib ob ⟨hS.size,hS.defers,λt x hx=>hS.get t x ?_⟩ (hI2 _ _ hw hh b4) (dN hh b4.size) lib lob bg (n4.trans b5) h4;unfold ups at hx ⊢;by_cases t9:t=9
 .simpa[t9] using hx
 by_cases t8:t=8
 .simpa[t8,t9] using hx
 by_cases t30:t=30
 .subst t30;simp[S20] at hx
 by_cases t31:t=31
 .subst t31;simp[S20] at hx
 by_cases t32:t=32
 .subst t32;simp[S20] at hx
 simp_all
end
end Go.Proofs.Tw
