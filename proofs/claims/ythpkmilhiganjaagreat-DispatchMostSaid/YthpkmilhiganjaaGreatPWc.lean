/- Lemmas. -/
import Derived.Test.YthpkmilhiganjaaGreatPWb
import Derived.Conc.AppendWalk
import Derived.Maps.AppendAt
set_option linter.all false
set_option maxHeartbeats 32000000
set_option maxRecDepth 100000
namespace Go.Proofs.Tw
open Go Go.Fi Go.Conc Go.RowKit
def RdD.fit(d:RdD):Bool:=d.g && !d.h
structure RdX(d:RdD)(l:List Bool)(L:Array Bool)(a:Act)(w:World):Prop where
 cell:L.getD 38 false=false->ji d.toWkD w d.hd
 row:L.getD 36 false=false->iD d.toWkD w d.hd l
 bs:L.getD 35 false=true->L.getD 36 false=false->∃b,a.tmps[50]?.getD undef=.slice (some ⟨b,0,none⟩) 1 1/\w.cell? ⟨b,0,none⟩=some (.bool d.fit)/\d.lo<=b
 ap:L.getD 36 false=true->L.getD 38 false=false->iD d.toWkD w (a.tmps[51]?.getD undef) (l++[d.fit])
 ix:L.getD 37 false=true->a.tmps[52]?.getD undef=.pointer (some ⟨d.F,d.i,none⟩)
 fin:L.getD 38 false=true->∃v,ji d.toWkD w v/\iD d.toWkD w v (l++[d.fit])
section
variable{d:RdD}{ds:List Deferred}{l:List Bool}
theorem RdX.mv{L:Array Bool}{a:Act}{w w1:World}(h:RdX d l L a w)(e:Bel w.heap.size w w1):RdX d l L a w1:=
 ⟨λx=>(h.cell x).mv e,λx=>(h.row x).mv e,λx y=>let ⟨b,h1,h2,h3⟩:=h.bs x y;⟨b,h1,e.cellAt h2,h3⟩,λx y=>(h.ap x y).mv e,h.ix,λx=>let ⟨v,h1,h2⟩:=h.fin x;⟨v,h1.mv e,h2.mv e⟩⟩
theorem RdX.put{L:Array Bool}{a:Act}{w:World}(h:RdX d l L a w){i t:Nat}(hi:i<35)(ht:t<50)(v:Value):RdX d l (L.setIfInBounds i true) (a.put (some t) v) w:=by
 have e:∀k,35<=k->(L.setIfInBounds i true).getD k false=L.getD k false:=λk hk=>getD_set_ne false ab
 have g:∀u,50<=u->(a.put (some t) v).tmps[u]?.getD undef=a.tmps[u]?.getD undef:=λu hu=>by
  simp only[Act.put,iU];rw[bP ab]
 refine⟨λx=>h.cell (by rwa [e 38 ab] at x),λx=>h.row (by rwa [e 36 ab] at x),λx y=>?_,λx y=>?_,λx=>?_,λx=>h.fin (by rwa [e 38 ab] at x)⟩
 .rw[g 50 ab];exact h.bs (by rwa [e 35 ab] at x) (by rwa [e 36 ab] at y)
 .rw[g 51 ab];exact h.ap (by rwa [e 36 ab] at x) (by rwa [e 38 ab] at y)
 .rw[g 52 ab];exact h.ix (by rwa [e 37 ab] at x)
theorem Sc{L:Array Bool}(hl:L[11]?=some false)(ay:Fi.Closed dO L):L.getD 38 false=false:=by
 cases b6:L.getD 38 false with
 |false=>rfl
 |true=>
  have h:=ay 38 qC rfl b6 ⟨11,.phase⟩ ae rfl;rw[dF] at h;have e:(⟨11,.phase⟩:Edge).on=11:=rfl;rw[e,hl] at h;cases h
abbrev cR(d:RdD):Nat:=uU d.zs.length+1
variable{r:Option Nat}{Q:Exit->Act->World->Prop}
abbrev sJ(d:RdD)(ds:List Deferred)(l:List Bool)(L:Array Bool)(a:Act)(w:World):Prop:=ia (RdW d) 54 ds dO Base Qs (iP d) (ck d) L a w/\RdX d l L a w
theorem Np{E:EnvD}{P:Program}{ops:Array Oper}{c c':Nat}{Inv:Array Bool->Act->World->Prop}{i:Nat}{o:Oper}(h:@lO E r P ops c Q Inv i o)(hc:c<=c'):@lO E r P ops c' Q Inv i o:=
 λL a w h1 h2 h3 h4 rest N hk=>@oZ E P r Q a w ops (i::rest) _ _ (h L a w h1 h2 h3 h4 rest N hk) ab
theorem sqg{i:Nat}(t:Nat){o o0:Oper}(ho:dO[i]?=some o)(h0:dO[i]?=some o0)(hd:∀c,o0.op≠.defer c)(c4:o0.dst=some t)(hk:i<35/\t<50/\¬Base t/\Cu dO i t=true)(hq:∀(L:Array Bool)(a:Act)(w:World),TQ d ds L a w->RdX d l L a w->L[i]?=some false->HE o0 L->Fi.Closed dO L->QC d o0 t a w):@lO (cQ d.lo d.F d.i) r prog dO (cR d) Q (sJ d ds l) i o:=by
 letI:=cQ d.lo d.F d.i
 obtain rfl:=fL (ho.symm.trans h0);obtain⟨h1,h2,h3,h4⟩:=hk
 exact Np (c:=1) (F0 (t:=t) (RdX d l) (λ_ _ h e=>h.mv e) (λ_ _ _ _ h e=>h.mv e) (λ_ _ _ _ h=>h.put h1 h2 _) ho ab hd c4 ab h3 (mh h4)
  hq) ae
theorem s32(bi:d.zs.length<=64):@lO (cQ d.lo d.F d.i) r prog dO (cR d) Q (sJ d ds l) 32 rR:=by
 letI:=cQ d.lo d.F d.i
 intro L a w hinv hl he ay rest N hk;obtain⟨hT,hX⟩:=hinv;have sg:=hT.run 26 _ 41 rfl rfl af (he ⟨26,.guard⟩ ae rfl);have bp:=jM (ops:=dO) (o:=rR) (tmps:=a.tmps) (j:=26) (t:=41) (want:=true) rfl rfl sg;simp only[ck,isB] at bp
 have nx:∀w' v,Bel w.heap.size w w'->v=ck d 47->dB r prog dO rest N Q (a.put (some 47) v) w':=λw' v e hv=>
  hk _ _ ⟨(hT.sG (hT.world.mv e)).put (hT.world.mv e) (i:=32) (o:=rR) (t:=47) rfl hl rfl af af (mh af) (λ_=>hv),(hX.mv e).put af af v⟩
 cases hg:d.g with
 |false=>
  rw[hg] at bp;refine oZ (Fa (o:=rR) (N:=N) rfl bp ?_) ae;exact nx w undef (Bel.refl _ _) (by simp[ck,hg])
 |true=>
  rw[hg] at bp;have s43:=hT.run 28 _ 43 rfl rfl af (he ⟨28,.data⟩ ae rfl);have s46:=hT.run 31 _ 46 rfl rfl af (he ⟨31,.data⟩ ae rfl);simp only[ck,hg,cz] at s43 s46
  refine Fb (o:=rR) (N:=uU d.zs.length) (M:=N) (f:=107) (args:=#[.slice d.fa d.zs.length d.nK,.agg #[.int .i64 d.i,.int .i64 d.kk]]) rfl bp ae λw1 e1=>?_
  have ha:=hT.world.mv e1;refine⟨λf ev h9=>?_,?_,?_⟩
  .have hm:=mem_listed h9;simp[go_sem,s43,s46] at hm
  .simp[go_sem,s43,s46]
  .refine E7 (No ha.wk.low.1 d.zs.length bi d.fa d.nK d.zs d.i d.kk w1 rfl ha.wk.size ha.wk.lQ) ?_
   rintro v w' ⟨rfl,hb⟩
   exact nx w' _ (o7 e1 hb) (by simp[ck,hg,RdD.h])
theorem s35:@lO (cQ d.lo d.F d.i) r prog dO (cR d) Q (sJ d ds l) 35 ua:=by
 letI:=cQ d.lo d.F d.i
 intro L a w hinv hl he ay rest N hk;obtain⟨hT,hX⟩:=hinv;have s49:=hT.run 34 _ 49 rfl rfl af (he ⟨34,.data⟩ ae rfl);simp only[ck] at s49;refine oZ (dD (o:=ua) (N:=N) rfl rfl ae λw1 e1=>?_) ae;refine⟨λf ev h9=>?_,?_⟩
 .have hm:=mem_listed h9;simp[go_sem,s49] at hm
 .have hr:(execOp a.eval ua).run prog w1=.ok (.value (.slice (some ⟨w1.heap.size,0,none⟩) 1 1)) (w1.alloc (.cells #[.bool d.fit] 4)):=by
   simp[go_sem,s49];rfl
  rw[hr];have a5:Bel w1.heap.size w1 (w1.alloc (.cells #[.bool d.fit] 4)):=(Bel.refl _ _).alloc (bS _) _;have e2:=o7 e1 a5;have a':=hT.world.mv e2;have ax:a.tmps.size=54:=hT.size
  have e:∀k,k≠35->(L.setIfInBounds 35 true).getD k false=L.getD k false:=λk hk=>getD_set_ne false ab
  have g50:∀v,(a.put (some 50) v).tmps[50]?.getD undef=v:=λv=>by rw[lE ab];simp
  have gne:∀v u,u≠50->(a.put (some 50) v).tmps[u]?.getD undef=a.tmps[u]?.getD undef:=λv u hu=>by rw[lE ab,bP ab]
  refine hk _ _ ⟨(hT.sG a').put a' (i:=35) (o:=ua) (t:=50) rfl hl rfl af af (mh af) nofun,?_⟩;have hX2:=hX.mv e2;refine⟨λx=>hX2.cell (by rwa [e 38 ab] at x),λx=>hX2.row (by rwa [e 36 ab] at x),λ_ _=>⟨w1.heap.size,g50 _,?_,?_⟩,λx y=>?_,λx=>?_,λx=>hX2.fin (by rwa [e 38 ab] at x)⟩
  .simp
  .exact (hT.world.mv e1).wk.size
  .rw[gne _ 51 ab];exact hX2.ap (by rwa [e 36 ab] at x) (by rwa [e 38 ab] at y)
  .rw[gne _ 52 ab];exact hX2.ix (by rwa [e 37 ab] at x)
theorem Iy:prog.info? 4=some Tryz.t4:=aj
theorem Iz:Tryz.t4.zero=some (.bool false):=aj
theorem IA:Tryz.t4.size=1:=aj
theorem IB:Tryz.t4.bytes=1:=aj
theorem s36(cp:l.length<=1000)(bk:d.hd.ownBlock≠some d.cb):@lO (cQ d.lo d.F d.i) r prog dO (cR d) Q (sJ d ds l) 36 ug:=by
 letI:=cQ d.lo d.F d.i
 intro L a w hinv hl he ay rest N hk;obtain⟨hT,hX⟩:=hinv
 have bc:L.getD 36 false=false:=by rw[dF,hl];rfl
 have b6:L.getD 38 false=false:=by
  cases b6:L.getD 38 false with
  |false=>rfl
  |true=>
   have h:=ay 38 qC rfl b6 ⟨36,.data⟩ ae rfl;rw[bc] at h;cases h
 have s26:=hT.run 11 _ 26 rfl rfl af (he ⟨11,.data⟩ ae rfl);simp only[ck] at s26;obtain⟨b,s50,cw,bw⟩:=hX.bs (he ⟨35,.data⟩ ae rfl) bc;have ag:=hX.row bc;refine oZ (dD (o:=ug) (N:=N) rfl rfl ae λw1 e1=>?_) ae;have aw:=ag.mv e1;have ha:=hT.world.mv e1
 have b7:∀j u,[Value.bool d.fit][j]?=some u->w1.cell? ((⟨b,0,none⟩:Addr).add j)=some u:=by
  intro j u hj;have cx:=e1.cellAt cw
  match j,hj with
  |0,hj=>simp at hj;subst hj;trivial
 have bm:l.length+1<=maxLen:=by simp only[maxLen];omega
 obtain⟨v',w',h8,a6,aq,_,c7⟩:=run_append_own_at (P:=prog) w1 d.lo 136 136 4 Tryz.t4 (.bool false) 1 1 underlying136 Iy Iz IA IB rfl af d.hd l.length (l.map Value.bool) aw ⟨b,0,none⟩ 1 1 [Value.bool d.fit] rfl b7 (by simp[Value.oneCell']) bm ab ha.wk.size
 have hh:∀k,d.hd.ownBlock=some k->d.lo<=k:=by
  intro k bt
  rcases aw.2 with ⟨h1,_⟩|⟨g,cap,cur,h1,h2,_⟩
  .rw[h1] at bt;cases bt
  .rw[h1] at bt;cases bt;exact h2
 have bj:Bel d.lo w1 w':=(Bel.refl _ _).grown aq ha.wk.size hh;refine⟨λf ev h9=>?_,?_⟩
 .have hm:=mem_listed h9;rw[events_append_op (.tmp 26) (.tmp 50) 136 rfl (show a.eval (.tmp 26)=d.hd by simpa[Act.eval] using s26) (show a.eval (.tmp 50)=.slice (some ⟨b,0,none⟩) 1 1 by simpa[Act.eval] using s50)] at hm
  rcases events_append_where (P:=prog) w1 d.lo 136 136 4 Tryz.t4 (.bool false) 1 1 underlying136 Iy Iz IA IB d.hd l.length (l.map Value.bool) aw ⟨b,0,none⟩ 1 1 [Value.bool d.fit] rfl b7 (by simp[Value.oneCell']) bm ab ev hm with ⟨ad,h1,h2⟩|⟨m,rfl,_⟩
  .refine .inl ⟨ad,h1,λhF=>?_,λbf=>?_⟩
   .exfalso;have d3:=ha.wk.low.1
    rcases h2 with ⟨_,h2⟩|h2
    .simp only at h2;omega
    .have:=hh _ h2.symm;omega
   simp_all
  .exact .inr ⟨_,rfl⟩
 .have hr:(execOp a.eval ug).run prog w1=.ok (.value v') w':=by
   have c9:a.eval (.tmp 26)=d.hd:=by simpa[Act.eval] using s26
   have cf:a.eval (.tmp 50)=.slice (some ⟨b,0,none⟩) 1 1:=by simpa[Act.eval] using s50
   unfold execOp;simp only[resolve,invoke,builtin,Sem.run_bind,Sem.run_pure,Result.andThen_ok,List.map_toArray,oU,yH,c9,cf,h8]
  rw[hr]
  have hy:∀o v,w1.cell? ⟨d.cb,o,none⟩=some v->w'.cell? ⟨d.cb,o,none⟩=some v:=λo v hv=>by
   have bh:d.cb<w1.heap.size:=by
    unfold World.cell? at hv
    rcases hx:w1.heap[d.cb]? with _|ob
    .simp only[hx] at hv;cases hv
    .exact (cY.1 hx).1
   have b8:w'.heap[d.cb]?=w1.heap[d.cb]?:=aq.block d.cb bh (λe=>bk e.symm);rw[World.cell?_of_block b8];exact hv
  have a':RdW d w':=⟨ha.wk.xS bj,ha.i,ha.cb0,hy _ _ ha.cb1,hy _ _ ha.cb2⟩;have ax:a.tmps.size=54:=hT.size
  have e:∀k,k≠36->(L.setIfInBounds 36 true).getD k false=L.getD k false:=λk hk=>getD_set_ne false ab
  have e36:(L.setIfInBounds 36 true).getD 36 false=true:=by
   have bh:36<L.size:=(cY.1 hl).1;rw[dF];simp[bh]
  have g51:∀v,(a.put (some 51) v).tmps[51]?.getD undef=v:=λv=>by rw[lE ab];simp
  have gne:∀v u,u≠51->(a.put (some 51) v).tmps[u]?.getD undef=a.tmps[u]?.getD undef:=λv u hu=>by rw[lE ab,bP ab]
  refine hk _ _ ⟨(hT.sG a').put a' (i:=36) (o:=ug) (t:=51) rfl hl rfl af af (mh af) nofun,?_⟩;refine⟨λ_=>?_,λx=>?_,λ_ y=>?_,λ_ _=>?_,λx=>?_,λx=>?_⟩
  .obtain⟨c,c1,c2⟩:=(hX.cell b6).mv e1;exact⟨c,(bj.block _ ha.wk.low.1).trans c1,c2⟩
  .rw[e36] at x;cases x
  .rw[e36] at y;cases y
  .rw[g51];unfold iD;simpa using a6
  .rw[gne _ 52 ab];exact hX.ix (by rwa [e 37 ab] at x)
  simp_all
theorem Sd{L:Array Bool}{i:Nat}(hl:L[i]?=some false):(L.setIfInBounds i true).getD i false=true:=by
 have bh:i<L.size:=(cY.1 hl).1;rw[dF];simp[bh]
theorem s37:@lO (cQ d.lo d.F d.i) r prog dO (cR d) Q (sJ d ds l) 37 uh:=by
 letI:=cQ d.lo d.F d.i
 intro L a w hinv hl he ay rest N hk;obtain⟨hT,hX⟩:=hinv;have s18:=hT.run 3 _ 18 rfl rfl af (he ⟨3,.data⟩ ae rfl);have s19:=hT.run 4 _ 19 rfl rfl af (he ⟨4,.data⟩ ae rfl);simp only[ck] at s18 s19;refine oZ (dD (o:=uh) (N:=N) rfl rfl ae λw1 e1=>?_) ae;have ha:=hT.world.mv e1;have hi:=ha.i;refine⟨λf ev h9=>?_,?_⟩
 .have hm:=mem_listed h9;simp[go_sem,s18,s19] at hm;rw[events_indexAt_slice 103 _ _ _ _ _ rfl ⟨JU _,ab⟩] at hm;simp at hm
 .have hr:(execOp a.eval uh).run prog w1=.ok (.value (.pointer (some ⟨d.F,d.i,none⟩))) w1:=by
   simp[go_sem,s18,s19,hi]
  rw[hr];have ax:a.tmps.size=54:=hT.size
  have e:∀k,k≠37->(L.setIfInBounds 37 true).getD k false=L.getD k false:=λk hk=>getD_set_ne false ab
  have g52:∀v,(a.put (some 52) v).tmps[52]?.getD undef=v:=λv=>by rw[lE ab];simp
  have gne:∀v u,u≠52->(a.put (some 52) v).tmps[u]?.getD undef=a.tmps[u]?.getD undef:=λv u hu=>by rw[lE ab,bP ab]
  have hX2:=hX.mv e1;refine hk _ _ ⟨(hT.sG ha).put ha (i:=37) (o:=uh) (t:=52) rfl hl rfl af af (mh af) nofun,?_⟩;refine⟨λx=>hX2.cell (by rwa [e 38 ab] at x),λx=>hX2.row (by rwa [e 36 ab] at x),λx y=>?_,λx y=>?_,λ_=>g52 _,λx=>hX2.fin (by rwa [e 38 ab] at x)⟩
  .rw[gne _ 50 ab];exact hX2.bs (by rwa [e 35 ab] at x) (by rwa [e 36 ab] at y)
  .rw[gne _ 51 ab];exact hX2.ap (by rwa [e 36 ab] at x) (by rwa [e 38 ab] at y)
theorem iD.val{w:World}{v:Value}{m:List Bool}(h:iD d.toWkD w v m):(∃cap,v=.slice none cap 0)\/∃ao n c,v=.slice ao n c:=by
 rcases h.2 with ⟨h1,_⟩|⟨g,cap,cur,h1,_⟩
 .exact .inl ⟨0,h1⟩
 .exact .inr ⟨_,_,_,h1⟩
theorem s38:@lO (cQ d.lo d.F d.i) r prog dO (cR d) Q (sJ d ds l) 38 qC:=by
 letI:=cQ d.lo d.F d.i
 intro L a w hinv hl he ay rest N hk;obtain⟨hT,hX⟩:=hinv
 have b6:L.getD 38 false=false:=by rw[dF,hl];rfl
 have bc:=he ⟨36,.data⟩ ae rfl;have cv:=he ⟨37,.data⟩ ae rfl;have s52:=hX.ix cv;refine oZ (dD (o:=qC) (N:=N) rfl rfl ae λw1 e1=>?_) ae;have ha:=hT.world.mv e1;have hX1:=hX.mv e1;have ag:=hX1.ap bc b6;have cm:=hX1.cell b6;obtain⟨cF,c1,c2,c3⟩:=id cm
 obtain⟨ao,n,c,hv⟩:∃ao n c,a.tmps[51]?.getD undef=.slice ao n c:=by
  rcases ag.2 with ⟨h1,_⟩|⟨g,cap,cur,h1,_⟩
  .exact⟨_,_,_,h1⟩
  simp_all
 have hy:=cm.cell
 have c6:w1.frozen? ⟨d.F,d.i,none⟩=false:=by simp[World.frozen?,c1]
 refine⟨λf ev h9=>?_,?_⟩
 .have hm:=mem_listed h9;simp[go_sem,s52,hv,storedEv,hy,c6] at hm;rw[events_store _ _ _ _ _ _ rfl] at hm;simp[storedEv,hy,c6] at hm;subst hm;exact Ni rfl rfl
 .have hr:(execOp a.eval qC).run prog w1=.ok .skip (w1.setCell ⟨d.F,d.i,none⟩ (.slice ao n c)):=by
   simp[go_sem,s52,hv,stored,hy,c6]
  rw[hr]
  have b8:∀b,b≠d.F->(w1.setCell ⟨d.F,d.i,none⟩ (.slice ao n c)).heap[b]?=w1.heap[b]?:=λb hb=>by
   simp[World.setCell,fu,gO hb]
  have bo:w1.heap.size<=(w1.setCell ⟨d.F,d.i,none⟩ (.slice ao n c)).heap.size:=ae
  have hF:(w1.setCell ⟨d.F,d.i,none⟩ (.slice ao n c)).heap[d.F]?=some (.cells (cF.setIfInBounds d.i (.slice ao n c)) 136):=by
   simp[World.setCell,fu,c1]
  generalize (w1.setCell ⟨d.F,d.i,none⟩ (.slice ao n c))=w2 at b8 bo hF ⊢;have a':RdW d w2:=⟨ha.wk.mvF bo b8,ha.i,ha.cb0,(World.cell?_of_block (b8 _ ha.cbF)).trans ha.cb1,(World.cell?_of_block (b8 _ ha.cbF)).trans ha.cb2⟩;have e38:=Sd hl;have bg:(L.setIfInBounds 38 true).getD 36 false=true:=(getD_set_ne false ab).trans bc;refine hk _ _ ⟨(hT.sG a').Iv a' (i:=38) (o:=qC) rfl rfl,?_⟩;refine⟨λx=>(by rw[e38] at x;cases x),λx=>(by rw[bg] at x;cases x),λ_ y=>(by rw[bg] at y;cases y),λ_ y=>(by rw[e38] at y;cases y),λ_=>s52,λ_=>⟨.slice ao n c,⟨_,hF,ak,by simp[c2]⟩,?_⟩⟩;rw[hv] at ag;refine⟨ag.1,ag.2.imp id ?_⟩
  rintro⟨q,cap,cur,a1,a2,a3,a4⟩
  have hq:q≠d.F:=by have:=ha.wk.low.1;omega
  exact⟨q,cap,cur,a1,a2,(b8 q hq).trans a3,a4⟩
theorem Nq(bi:d.zs.length<=64)(cp:l.length<=1000)(bk:d.hd.ownBlock≠some d.cb){a:Act}{w:World}(hw:RdW d w)(ax:a.tmps.size=54)(b9:a.defers=ds)(hb:∀t,Base t->a.tmps[t]?.getD undef=iP d t)(hc:ji d.toWkD w d.hd)(hr:iD d.toWkD w d.hd l){id:Nat}(hQ:∀a w,RdW d w->a.tmps.size=54->a.defers=ds->(∀t,Base t->a.tmps[t]?.getD undef=iP d t)->(∃v,ji d.toWkD w v/\iD d.toWkD w v (l++[d.fit]))->Q .normal a w):@Code.wpN (cQ d.lo d.F d.i) r prog (.region id dO true) (39*cR d+1+1) Q a w:=by
 letI:=cQ d.lo d.F d.i
 have bb:dO.size=39:=rfl
 have rep:∀k,(Array.replicate 39 false).getD k false=false:=λk=>by
  rw[dF]
  grind
 refine F7 (ops:=dO) (by rfl) (cR d) (RdW d) 54 ds Base Qs (iP d) (ck d) (RdX d l) af (λ_ _ h e=>h.mv e) (λ_ _ h=>h.drew) hw ax b9 hb ?_ ?_ ?_
 .intro w1 e1;have cy:=hc.mv e1;have d4:=hr.mv e1;refine⟨λ_=>cy,λ_=>d4,λx=>?_,λx=>?_,λx=>?_,λx=>?_⟩
  .exact absurd (rep 35) (by rw[bb] at x;rw[x];simp)
  .exact absurd (rep 36) (by rw[bb] at x;rw[x];simp)
  .exact absurd (rep 37) (by rw[bb] at x;rw[x];simp)
  trivial
 .intro L a w bv hT hX;exact hQ a w hT.world hT.size hT.defers hT.base (hX.fin (bv 38 af))
 .intro i o ho;have hi:i<39:=(cY.1 ho).1
  match i,ho,hi with
  |0,ho,_=>exact sqg 15 ho (o0:=Cy) rfl ae rfl af λ_ _ _ hT _ _ he _=>Rr hT he
  |1,ho,_=>exact sqg 16 ho (o0:=Cz) rfl ae rfl af λ_ _ _ hT _ _ he _=>Rs hT he
  |2,ho,_=>exact sqg 17 ho (o0:=CB) rfl ae rfl af λ_ _ _ hT _ _ he _=>Ru hT he
  |3,ho,_=>exact sqg 18 ho (o0:=CC) rfl ae rfl af λ_ _ _ hT _ _ he _=>Rv hT he
  |4,ho,_=>exact sqg 19 ho (o0:=CE) rfl ae rfl af λ_ _ _ hT _ _ he _=>Rw hT he
  |5,ho,_=>exact sqg 20 ho (o0:=CG) rfl ae rfl af λ_ _ _ hT _ _ he _=>Rx hT he
  |6,ho,_=>exact sqg 21 ho (o0:=CH) rfl ae rfl af λ_ _ _ hT _ _ he _=>Ry hT he
  |7,ho,_=>exact sqg 22 ho (o0:=CI) rfl ae rfl af λ_ _ _ hT _ _ he _=>Rz hT he
  |8,ho,_=>exact sqg 23 ho (o0:=CJ) rfl ae rfl af λ_ _ _ hT _ _ he _=>RA hT he
  |9,ho,_=>exact sqg 24 ho (o0:=CL) rfl ae rfl af λ_ _ _ hT _ _ he _=>RB hT he
  |10,ho,_=>exact sqg 25 ho (o0:=Ar) rfl ae rfl af λ_ _ _ hT _ _ he _=>RD hT he
  |11,ho,_=>exact sqg 26 ho (o0:=rQ) rfl ae rfl af λ_ _ _ hT hX hl he ay=>RF hT (hX.cell (Sc hl ay)).cell he
  |12,ho,_=>exact sqg 27 ho (o0:=As) rfl ae rfl af λ_ _ _ hT _ _ he _=>RG hT he
  |13,ho,_=>exact sqg 28 ho (o0:=Ax) rfl ae rfl af λ_ _ _ hT _ _ he _=>RH hT he
  |14,ho,_=>exact sqg 29 ho (o0:=Ay) rfl ae rfl af λ_ _ _ hT _ _ he _=>RJ hT he
  |15,ho,_=>exact sqg 30 ho (o0:=Az) rfl ae rfl af λ_ _ _ hT _ _ he _=>RK hT he
  |16,ho,_=>exact sqg 31 ho (o0:=AA) rfl ae rfl af λ_ _ _ hT _ _ he _=>RO hT he
  |17,ho,_=>exact sqg 32 ho (o0:=AB) rfl ae rfl af λ_ _ _ hT _ _ he _=>RP hT he
  |18,ho,_=>exact sqg 33 ho (o0:=wO) rfl ae rfl af λ_ _ _ hT _ _ he _=>RQ hT he
  |19,ho,_=>exact sqg 34 ho (o0:=wP) rfl ae rfl af λ_ _ _ hT _ _ he _=>RS hT he
  |20,ho,_=>exact sqg 35 ho (o0:=wQ) rfl ae rfl af λ_ _ _ hT _ _ he _=>RU hT he
  |21,ho,_=>exact sqg 36 ho (o0:=wR) rfl ae rfl af λ_ _ _ hT _ _ he _=>RV hT he
  |22,ho,_=>exact sqg 37 ho (o0:=wS) rfl ae rfl af λ_ _ _ hT _ _ he _=>RX hT he
  |23,ho,_=>exact sqg 38 ho (o0:=wT) rfl ae rfl af λ_ _ _ hT _ _ he _=>RY hT he
  |24,ho,_=>exact sqg 39 ho (o0:=wU) rfl ae rfl af λ_ _ _ hT _ _ he _=>RZ hT he
  |25,ho,_=>exact sqg 40 ho (o0:=AD) rfl ae rfl af λ_ _ _ hT _ _ he _=>R3 hT he
  |26,ho,_=>exact sqg 41 ho (o0:=AE) rfl ae rfl af λ_ _ _ hT _ _ he _=>R4 hT he
  |27,ho,_=>exact sqg 42 ho (o0:=wV) rfl ae rfl af λ_ _ _ hT _ _ he _=>R5 hT he
  |28,ho,_=>exact sqg 43 ho (o0:=wW) rfl ae rfl af λ_ _ _ hT _ _ he _=>R6 hT he
  |29,ho,_=>exact sqg 44 ho (o0:=wX) rfl ae rfl af λ_ _ _ hT _ _ he _=>R7 hT he
  |30,ho,_=>exact sqg 45 ho (o0:=wY) rfl ae rfl af λ_ _ _ hT _ _ he _=>R8 hT he
  |31,ho,_=>exact sqg 46 ho (o0:=wZ) rfl ae rfl af λ_ _ _ hT _ _ he _=>R9 hT he
  |32,ho,_=>obtain rfl:=fL (ho.symm.trans (rfl:dO[32]?=some rR));exact s32 bi
  |33,ho,_=>exact sqg 48 ho (o0:=w9) rfl ae rfl af λ_ _ _ hT _ _ he _=>Sa hT he
  |34,ho,_=>exact sqg 49 ho (o0:=AF) rfl ae rfl af λ_ _ _ hT _ _ he _=>Sb hT he
  |35,ho,_=>obtain rfl:=fL (ho.symm.trans (rfl:dO[35]?=some ua));exact s35
  |36,ho,_=>obtain rfl:=fL (ho.symm.trans (rfl:dO[36]?=some ug));exact s36 cp bk
  |37,ho,_=>obtain rfl:=fL (ho.symm.trans (rfl:dO[37]?=some uh));exact s37
  |38,ho,_=>obtain rfl:=fL (ho.symm.trans (rfl:dO[38]?=some qC));exact s38
  |i+39,_,hi=>omega
end
abbrev AG:Oper:=⟨some 7,(.fieldAddr 27 (.tmp 1) 0),0, "dispatch.go:121",#[],none⟩
abbrev AH:Oper:=⟨some 8,(.load 22 (.tmp 7)),22, "dispatch.go:121",#[⟨0,.data⟩],none⟩
abbrev AJ:Oper:=⟨some 9,(.call ⟨(.builtin .len),#[(.tmp 8)],#[22]⟩),3, "dispatch.go:121",#[⟨1,.data⟩],none⟩
abbrev AK:Oper:=⟨some 10,(.move (.const (.int .i64 0))),3, "dispatch.go:121",#[],none⟩
abbrev rT:Array Oper:=#[AG,AH,AJ,AK]
abbrev AL:Oper:=⟨some 11,(.binOp .lss 3 (.tmp 10) (.tmp 9) 3),0, "dispatch.go:121",#[],none⟩
abbrev AM:Array Oper:=#[AL]
abbrev AN:Oper:=⟨some 12,(.move (.tmp 10)),3, "dispatch.go:121",#[],none⟩
abbrev AO:Oper:=⟨some 13,(.indexAddr 22 (.tmp 8) (.tmp 10)),0, "dispatch.go:121",#[],none⟩
abbrev AP:Oper:=⟨some 14,(.load 89 (.tmp 13)),89, "dispatch.go:121",#[⟨1,.data⟩],none⟩
abbrev AQ:Oper:=⟨some 6,(.alloc 89),0, "dispatch.go:121",#[],none⟩
abbrev AR:Oper:=⟨some 5,(.assign (.tmp 12)),3, "dispatch.go:121",#[⟨0,.data⟩,⟨0,.phase⟩,⟨1,.phase⟩,⟨2,.phase⟩,⟨3,.phase⟩],none⟩
abbrev AS:Oper:=⟨none,(.store 89 (.tmp 6) (.tmp 14)),0, "dispatch.go:121",#[⟨3,.data⟩,⟨2,.data⟩,⟨4,.chain⟩,⟨0,.phase⟩,⟨1,.phase⟩,⟨2,.phase⟩,⟨3,.phase⟩,⟨4,.phase⟩],none⟩
abbrev oo:Array Oper:=#[AN,AO,AP,AQ,AR,AS]
abbrev AT:Oper:=⟨some 53,(.binOp .add 3 (.tmp 10) (.const (.int .i64 1)) 3),3, "dispatch.go:121",#[],none⟩
abbrev AU:Oper:=⟨some 10,(.move (.tmp 53)),3, "dispatch.go:121",#[⟨0,.data⟩],none⟩
abbrev xc:Array Oper:=#[AT,AU]
theorem Nr:nL=.seq (.region 1 rT false) (.block 0 (.loop (.seq (.region 2 AM false) (.seq (.cond (.tmp 11) .skip (.exit 0)) (.seq (.block 1 (.seq (.region 3 oo false) (.region 4 dO true))) (.region 5 xc false)))))):=rfl
structure Sl(ds:List Deferred)(S:Nat->Option Value)(a:Act):Prop where
 size:a.tmps.size=54
 defers:a.defers=ds
 get:∀t v,S t=some v->a.tmps[t]?.getD undef=v
abbrev ups(S:Nat->Option Value)(t:Nat)(v:Value):Nat->Option Value:=λu=>if u=t then some v else S u
theorem Sl.put{ds:List Deferred}{S:Nat->Option Value}{a:Act}(h:Sl ds S a){t:Nat}(ht:t<54)(v:Value):Sl ds (ups S t v) (a.put (some t) v):=by
 refine⟨wM.trans h.size,wN.trans h.defers,λu x hx=>?_⟩;rw[lE aP];unfold ups at hx;by_cases e:t=u
 .simp_all
 .rw[bP (gO e)] at hx;rw[bP e];exact h.get u x hx
theorem Sl.Iv{ds:List Deferred}{S:Nat->Option Value}{a:Act}(h:Sl ds S a)(v:Value):Sl ds S (a.put none v):=h
def S0(d:WkD)(wg kk:Nat):Nat->Option Value:=λt=>match t with
 |0=>some (.pointer (some ⟨wg,0,none⟩))|1=>some (.pointer (some ⟨d.rb,0,none⟩))|2=>some (.pointer (some ⟨d.xv,0,none⟩))|3=>some (.pointer (some ⟨d.ib,0,none⟩))|4=>some (.pointer (some ⟨d.ob,0,none⟩))
 |8=>some (.slice d.ca d.bD.length d.k8)|9=>some (.int .i64 d.bD.length)|10=>some (.int .i64 kk)|_=>none
def k9(d:WkD)(kk:Nat):List Bool:=(List.range kk).map (Cw d)
section
variable{d:WkD}{wg kk:Nat}{ds:List Deferred}{r:Option Nat}{Q:Exit->Act->World->Prop}
theorem Ns(hk:kk<d.bD.length){a:Act}{w:World}(hS:Sl ds (S0 d wg kk) a)(hw:WkW d w){v:Value}(hc:ji d w v)(hr:iD d w v (k9 d kk)){id:Nat}(hQ:∀a w cb,Sl ds (ups (ups (S0 d wg kk) 5 (.int .i64 kk)) 6 (.pointer (some ⟨cb,0,none⟩))) a->WkW d w->ji d w v->iD d w v (k9 d kk)->d.lo<=cb->v.ownBlock≠some cb->w.cell? ⟨cb,1,none⟩=some (.int .i64 (d.bD.getD kk (default,0,false)).2.1)->w.cell? ⟨cb,2,none⟩=some (.bool (d.bD.getD kk (default,0,false)).2.2)->Q .normal a w):@Code.wpN (cQ d.lo d.F d.i) r prog (.region id oo false) 8 Q a w:=by
 letI:=cQ d.lo d.F d.i
 obtain⟨b,off,cj,hbF,bw,_,_,_⟩:=hw.bD kk hk
 have bl:∀w,WkW d w->w.cell? ⟨b,off+kk*3,none⟩=some (.string (d.bD.getD kk (default,0,false)).1)/\w.cell? ⟨b,off+kk*3+1,none⟩=some (.int .i64 (d.bD.getD kk (default,0,false)).2.1)/\w.cell? ⟨b,off+kk*3+2,none⟩=some (.bool (d.bD.getD kk (default,0,false)).2.2):=λw hw=>by
  obtain⟨b',c8,e,_,_,h4,h5,h6⟩:=hw.bD kk hk;rw[cj] at e;simp_all
 generalize (d.bD.getD kk (default,0,false)).1=nm,(d.bD.getD kk (default,0,false)).2.1=sn,(d.bD.getD kk (default,0,false)).2.2=ch at bl hQ;refine jd (N:=7) ?_;show dB r prog oo [0,1,2,3,4,5] 7 Q a w;have s10:=hS.get 10 _ rfl;have s8:=hS.get 8 _ rfl
 refine dD (o:=AN) (N:=6) rfl rfl ae λw e1=>?_
 replace hw:=hw.mv e1;replace hc:=hc.mv e1;replace hr:=hr.mv e1;refine⟨λf ev h9=>?_,?_⟩
 .have hm:=mem_listed h9;simp[go_sem,s10] at hm
 have h8:(execOp a.eval AN).run prog w=.ok (.value (.int .i64 kk)) w:=by
  simp[go_sem,s10]
 rw[h8];show dB r prog oo _ 6 Q (a.put (some 12) (.int .i64 kk)) w;replace hS:=hS.put (t:=12) af (.int .i64 kk);generalize a.put (some 12) (.int .i64 kk)=a at hS ⊢;clear h8 e1;have s10:=hS.get 10 _ rfl;have s8:=hS.get 8 _ rfl;rw[cj] at s8
 refine dD (o:=AO) (N:=5) rfl rfl ae λw e1=>?_
 replace hw:=hw.mv e1;replace hc:=hc.mv e1;replace hr:=hr.mv e1;refine⟨λf ev h9=>?_,?_⟩
 .have hm:=mem_listed h9;simp[go_sem,s10,s8,hk] at hm
 have h8:(execOp a.eval AO).run prog w=.ok (.value (.pointer (some ⟨b,off+kk*3,none⟩))) w:=by
  simp[go_sem,s10,s8,hk]
 rw[h8];show dB r prog oo _ 5 Q (a.put (some 13) (.pointer (some ⟨b,off+kk*3,none⟩))) w;replace hS:=hS.put (t:=13) af (.pointer (some ⟨b,off+kk*3,none⟩));generalize a.put (some 13) (.pointer (some ⟨b,off+kk*3,none⟩))=a at hS ⊢;clear h8 e1;have s13:=hS.get 13 _ rfl
 refine dD (o:=AP) (N:=4) rfl rfl ae λw e1=>?_
 replace hw:=hw.mv e1;replace hc:=hc.mv e1;replace hr:=hr.mv e1;obtain⟨z1,z2,z3⟩:=bl w hw;refine⟨λf ev h9=>?_,?_⟩
 .have hm:=mem_listed h9;simp[go_sem,s13,z1,z2,z3] at hm
  rcases hm with rfl|rfl|rfl<;>exact qB (λe=>absurd e hbF)
 have h8:(execOp a.eval AP).run prog w=.ok (.value (.agg #[.string nm,.int .i64 sn,.bool ch])) w:=by
  simp[go_sem,s13,z1,z2,z3]
 rw[h8];show dB r prog oo _ 4 Q (a.put (some 14) (.agg #[.string nm,.int .i64 sn,.bool ch])) w;replace hS:=hS.put (t:=14) af (.agg #[.string nm,.int .i64 sn,.bool ch]);generalize a.put (some 14) (.agg #[.string nm,.int .i64 sn,.bool ch])=a at hS ⊢;clear h8 e1;clear z1 z2 z3
 refine dD (o:=AQ) (N:=3) rfl rfl ae λw e1=>?_
 replace hw:=hw.mv e1;replace hc:=hc.mv e1;replace hr:=hr.mv e1;refine⟨λf ev h9=>?_,?_⟩
 .have hm:=mem_listed h9;simp[go_sem] at hm
 have h8:(execOp a.eval AQ).run prog w=.ok (.value (.pointer (some ⟨w.heap.size,0,none⟩))) (w.alloc (.cells #[.string default,.int .i64 0,.bool false] 89)):=by
  rfl
 rw[h8];clear h8 e1
 have a6:v.ownBlock≠some w.heap.size:=by
  intro e
  rcases hr.2 with ⟨h1,_⟩|⟨g,cap,cur,h1,_,h3,_⟩
  .rw[h1] at e;cases e
  .rw[h1] at e;have:=(cY.1 h3).1;simp only[Value.ownBlock,db] at e;omega
 have a5:Bel w.heap.size w (w.alloc (.cells #[.string default,.int .i64 0,.bool false] 89)):=(Bel.refl _ _).alloc (bS _) _
 have h':(w.alloc (.cells #[.string default,.int .i64 0,.bool false] 89)).heap[w.heap.size]?=some (.cells #[.string default,.int .i64 0,.bool false] 89):=by
  show (w.heap.push _)[w.heap.size]?=_;simp
 have hh:=hw.size;replace hw:=hw.mv a5;replace hc:=hc.mv a5;replace hr:=hr.mv a5;show dB r prog oo _ 3 Q (a.put (some 6) (.pointer (some ⟨w.heap.size,0,none⟩))) _;replace hS:=hS.put (t:=6) af (.pointer (some ⟨w.heap.size,0,none⟩));generalize a.put (some 6) (.pointer (some ⟨w.heap.size,0,none⟩))=a at hS ⊢;generalize w.heap.size=cb at hS a6 hh h';generalize (w.alloc (.cells #[.string default,.int .i64 0,.bool false] 89))=w at hw hc hr h' ⊢;have s12:=hS.get 12 _ rfl
 refine dD (o:=AR) (N:=2) rfl rfl ae λw e1=>?_
 replace hw:=hw.mv e1;replace hc:=hc.mv e1;replace hr:=hr.mv e1;replace h':=(e1.block _ (cY.1 h').1).trans h';refine⟨λf ev h9=>?_,?_⟩
 .have hm:=mem_listed h9;simp[go_sem,s12] at hm
 have h8:(execOp a.eval AR).run prog w=.ok (.value (.int .i64 kk)) w:=by
  simp[go_sem,s12]
 rw[h8];show dB r prog oo _ 2 Q (a.put (some 5) (.int .i64 kk)) w;replace hS:=hS.put (t:=5) af (.int .i64 kk);generalize a.put (some 5) (.int .i64 kk)=a at hS ⊢;clear h8 e1;have s6:=hS.get 6 _ rfl;have s14:=hS.get 14 _ rfl
 refine dD (o:=AS) (N:=1) rfl rfl ae λw e1=>?_
 replace hw:=hw.mv e1;replace hc:=hc.mv e1;replace hr:=hr.mv e1;replace h':=(e1.block _ (cY.1 h').1).trans h'
 have y0:w.cell? ⟨cb,0,none⟩=some (.string default):=by simp[World.cell?,h']
 have k0:w.frozen? ⟨cb,0,none⟩=false:=by simp[World.frozen?,h']
 have bq:(w.setCell ⟨cb,0,none⟩ (.string nm)).heap[cb]?=some (.cells #[.string nm,.int .i64 0,.bool false] 89):=by simp[World.setCell,fu,h']
 have b1:Bel d.lo w (w.setCell ⟨cb,0,none⟩ (.string nm)):=(Bel.refl _ _).setCell hh _
 have n1:∀q,q≠cb->(w.setCell ⟨cb,0,none⟩ (.string nm)).heap[q]?=w.heap[q]?:=λq hq=>by simp[World.setCell,fu,gO hq]
 generalize ha:w.setCell ⟨cb,0,none⟩ (.string nm)=w1 at bq b1 n1
 have y1:w1.cell? ⟨cb,1,none⟩=some (.int .i64 0):=by simp[World.cell?,bq]
 have k1:w1.frozen? ⟨cb,1,none⟩=false:=by simp[World.frozen?,bq]
 have br:(w1.setCell ⟨cb,1,none⟩ (.int .i64 sn)).heap[cb]?=some (.cells #[.string nm,.int .i64 sn,.bool false] 89):=by simp[World.setCell,fu,bq]
 have b2:Bel d.lo w (w1.setCell ⟨cb,1,none⟩ (.int .i64 sn)):=b1.setCell hh _
 have n2:∀q,q≠cb->(w1.setCell ⟨cb,1,none⟩ (.int .i64 sn)).heap[q]?=w.heap[q]?:=λq hq=>by simp[World.setCell,fu,gO hq,n1 q hq]
 generalize a':w1.setCell ⟨cb,1,none⟩ (.int .i64 sn)=w2 at br b2 n2
 have y2:w2.cell? ⟨cb,2,none⟩=some (.bool false):=by simp[World.cell?,br]
 have k2:w2.frozen? ⟨cb,2,none⟩=false:=by simp[World.frozen?,br]
 have co:(w2.setCell ⟨cb,2,none⟩ (.bool ch)).heap[cb]?=some (.cells #[.string nm,.int .i64 sn,.bool ch] 89):=by simp[World.setCell,fu,br]
 have b3:Bel d.lo w (w2.setCell ⟨cb,2,none⟩ (.bool ch)):=b2.setCell hh _
 have n3:∀q,q≠cb->(w2.setCell ⟨cb,2,none⟩ (.bool ch)).heap[q]?=w.heap[q]?:=λq hq=>by simp[World.setCell,fu,gO hq,n2 q hq]
 have hcbF:cb≠d.F:=by have:=hw.low.1;omega
 have es0:∀w es,(store (⟨cb,0,none⟩:Addr) (.string nm)).events prog w es=storedEv prog w es ⟨cb,0,none⟩ (.string nm) .plain:=λ_ _=>events_store _ _ _ _ _ _ rfl
 have es1:∀w es,(store (⟨cb,1,none⟩:Addr) (.int .i64 sn)).events prog w es=storedEv prog w es ⟨cb,1,none⟩ (.int .i64 sn) .plain:=λ_ _=>events_store _ _ _ _ _ _ rfl
 have es2:∀w es,(store (⟨cb,2,none⟩:Addr) (.bool ch)).events prog w es=storedEv prog w es ⟨cb,2,none⟩ (.bool ch) .plain:=λ_ _=>events_store _ _ _ _ _ _ rfl
 refine⟨λf ev h9=>?_,?_⟩
 .have hm:=mem_listed h9;simp[go_sem,s6,s14,y0,k0,ha,y1,k1,a',y2,k2,es0,es1,es2,storedEv,stored] at hm
  rcases hm with rfl|rfl|rfl<;>exact Aj hh hcbF
 have h8:(execOp a.eval AS).run prog w=.ok .skip (w2.setCell ⟨cb,2,none⟩ (.bool ch)):=by
  simp[go_sem,s6,s14,y0,k0,ha,y1,k1,a',y2,k2,stored]
 rw[h8];show dB r prog oo [] 1 Q (a.put none undef) _;apply iq;refine hQ _ _ cb ⟨hS.size,hS.defers,λt x hx=>hS.get t x ?_⟩ (hw.xS b3) ?_ ?_ hh a6 (by simp[World.cell?,co]) (by simp[World.cell?,co])
 .unfold ups at hx ⊢;by_cases t5:t=5
  .simpa[t5] using hx
  by_cases t6:t=6
  .simpa[t5,t6] using hx
  by_cases t12:t=12
  .subst t12;simp[S0] at hx
  by_cases t13:t=13
  .subst t13;simp[S0] at hx
  by_cases t14:t=14
  .subst t14;simp[S0] at hx
  simp_all
 .obtain⟨c,c1,c2⟩:=hc;exact⟨c,(n3 _ (gO hcbF)).trans c1,c2⟩
 .refine⟨hr.1,hr.2.imp (λh=>h) ?_⟩
  rintro⟨q,cap,cur,a1,a2,a3,a4⟩
  refine⟨q,cap,cur,a1,a2,(n3 q λe=>a6 ?_).trans a3,a4⟩;rw[a1,e];rfl
def dg(d:WkD)(wg cb kk:Nat)(v:Value):RdD:={ d with cb:=cb,kk:=kk,wg:=wg,name:=(d.bD.getD kk (default,0,false)).1,cs:=(d.bD.getD kk (default,0,false)).2.1,cc:=(d.bD.getD kk (default,0,false)).2.2,hd:=v }
theorem Nt:k9 d (kk+1)=k9 d kk++[Cw d kk]:=by simp[k9,JV]
def rN(d:WkD):Nat:=(4+((39*(uU d.zs.length+1)+1+1)+8+1+2)+1)+2+1+3+1
theorem Nu(bi:d.zs.length<=64)(d5:d.bD.length<=1000)(hin:d.i<d.n){a:Act}{w:World}(ax:a.tmps.size=54)(b9:a.defers=ds)(bz:∀t,t<5->∀v,S0 d wg 0 t=some v->a.tmps[t]?.getD undef=v)(hw:WkW d w)(hc:ji d w (.slice none 0 0))(hQ:∀a w,a.defers=ds->WkW d w->(∃v,ji d w v/\iD d w v (k9 d d.bD.length))->Q .normal a w):@Code.wpN (cQ d.lo d.F d.i) r prog nL ((d.bD.length*(rN d+1)+rN d+1+2)+6+1) Q a w:=by
 letI:=cQ d.lo d.F d.i
 rw[Nr];obtain⟨R0,hR0⟩:∃R0,R0=rN d:=⟨_,rfl⟩;rw[<-hR0];obtain⟨M0,hM0⟩:∃M0,M0=d.bD.length*(R0+1)+R0+1+2:=⟨_,rfl⟩;rw[<-hM0];refine iK (N:=6) (M:=M0) ?_;refine jd (N:=5) ?_;show dB r prog rT [0,1,2,3] 5 _ a w;generalize hQ1:Exit.then _ _=Q1;have hr:iD d w (.slice none 0 0) (k9 d 0):=⟨rfl,.inl ⟨rfl,rfl⟩⟩
 have hS:Sl ds (λt=>if t<5 then S0 d wg 0 t else none) a:=⟨ax,b9,λt v h=>by
  simp_all⟩
 have s1:=hS.get 1 _ rfl
 refine dD (o:=AG) (N:=4) rfl rfl ae λw e1=>?_
 replace hw:=hw.mv e1;replace hc:=hc.mv e1;replace hr:=hr.mv e1;refine⟨λf ev h9=>?_,?_⟩
 .have hm:=mem_listed h9;simp[go_sem,s1] at hm
 have h8:(execOp a.eval AG).run prog w=.ok (.value (.pointer (some ⟨d.rb,0,none⟩))) w:=by
  simp[go_sem,s1]
 rw[h8];show dB r prog rT _ 4 Q1 (a.put (some 7) (.pointer (some ⟨d.rb,0,none⟩))) w;replace hS:=hS.put (t:=7) af (.pointer (some ⟨d.rb,0,none⟩));generalize a.put (some 7) (.pointer (some ⟨d.rb,0,none⟩))=a at hS ⊢;clear h8 e1;have s7:=hS.get 7 _ rfl
 refine dD (o:=AH) (N:=3) rfl rfl ae λw e1=>?_
 replace hw:=hw.mv e1;replace hc:=hc.mv e1;replace hr:=hr.mv e1;have z1:=hw.sI;refine⟨λf ev h9=>?_,?_⟩
 .have hm:=mem_listed h9;simp[go_sem,s7,z1] at hm;subst hm;exact kU hw.apart.1
 have h8:(execOp a.eval AH).run prog w=.ok (.value (.slice d.ca d.bD.length d.k8)) w:=by
  simp[go_sem,s7,z1]
 rw[h8];show dB r prog rT _ 3 Q1 (a.put (some 8) (.slice d.ca d.bD.length d.k8)) w;replace hS:=hS.put (t:=8) af (.slice d.ca d.bD.length d.k8);generalize a.put (some 8) (.slice d.ca d.bD.length d.k8)=a at hS ⊢;clear h8 e1;clear z1;have s8:=hS.get 8 _ rfl
 refine dD (o:=AJ) (N:=2) rfl rfl ae λw e1=>?_
 replace hw:=hw.mv e1;replace hc:=hc.mv e1;replace hr:=hr.mv e1;refine⟨λf ev h9=>?_,?_⟩
 .have hm:=mem_listed h9;simp[go_sem,s8] at hm
 have h8:(execOp a.eval AJ).run prog w=.ok (.value (.int .i64 d.bD.length)) w:=by
  simp[go_sem,s8]
 rw[h8];show dB r prog rT _ 2 Q1 (a.put (some 9) (.int .i64 d.bD.length)) w;replace hS:=hS.put (t:=9) af (.int .i64 d.bD.length);generalize a.put (some 9) (.int .i64 d.bD.length)=a at hS ⊢;clear h8 e1
 refine dD (o:=AK) (N:=1) rfl rfl ae λw e1=>?_
 replace hw:=hw.mv e1;replace hc:=hc.mv e1;replace hr:=hr.mv e1;refine⟨λf ev h9=>?_,?_⟩
 .have hm:=mem_listed h9;simp[go_sem] at hm
 have h8:(execOp a.eval AK).run prog w=.ok (.value (.int .i64 0)) w:=by
  simp[go_sem]
 rw[h8];show dB r prog rT _ 1 Q1 (a.put (some 10) (.int .i64 0)) w;replace hS:=hS.put (t:=10) af (.int .i64 0);generalize a.put (some 10) (.int .i64 0)=a at hS ⊢;clear h8 e1;subst hQ1;apply iq;show Code.wpN r prog _ _ _ _ _;rw[hM0];refine vW (N:=d.bD.length*(R0+1)+R0+1) ?_
 have hS0:Sl ds (S0 d wg 0) a:=⟨hS.size,hS.defers,λt v h=>hS.get t v (by
  unfold S0 at h;unfold ups
  match t with
  |0=>trivial
  |1=>trivial
  |2=>trivial
  |3=>trivial
  |4=>trivial
  |5=>cases h
  |6=>cases h
  |7=>cases h
  |8=>simpa using h
  |9=>simpa using h
  |10=>simpa using h
  |t+11=>cases h)⟩
 clear hS s1 s7 s8 bz ax b9;refine E9 (I:=λm a w=>∃kk v,m+kk=d.bD.length/\Sl ds (S0 d wg kk) a/\WkW d w/\ji d w v/\iD d w v (k9 d kk)) d.bD.length R0 ⟨0,_,ab,hS0,hw,hc,hr⟩ ?_;clear hS0 hw hc hr
 rintro m a w ⟨kk,v,hm,hS,hw,hc,hr⟩
 obtain⟨C,hC⟩:∃C,C=uU d.zs.length+1:=⟨_,rfl⟩
 have hR1:R0=(4+((39*C+1+1)+8+1+2)+1)+2+1+3+1:=by rw[hR0,hC];rfl
 rw[hR1];refine iK (N:=3) (M:=(4+((39*C+1+1)+8+1+2)+1)+2+1) ?_;refine jd (N:=2) ?_;show dB r prog AM [0] 2 _ a w;generalize hQ1:Exit.then _ _=Q1;have s10:=hS.get 10 _ rfl;have s9:=hS.get 9 _ rfl
 refine dD (o:=AL) (N:=1) rfl rfl ae λw e1=>?_
 replace hw:=hw.mv e1;replace hc:=hc.mv e1;replace hr:=hr.mv e1;refine⟨λf ev h9=>?_,?_⟩
 .have hm:=mem_listed h9;simp[go_sem,s10,s9] at hm
 have h8:(execOp a.eval AL).run prog w=.ok (.value (.bool (decide ((kk:Int)<(d.bD.length:Int))))) w:=by
  simp[go_sem,s10,s9]
 rw[h8];show dB r prog AM _ 1 Q1 (a.put (some 11) (.bool (decide ((kk:Int)<(d.bD.length:Int))))) w;replace hS:=hS.put (t:=11) af (.bool (decide ((kk:Int)<(d.bD.length:Int))));generalize a.put (some 11) (.bool (decide ((kk:Int)<(d.bD.length:Int))))=a at hS ⊢;clear h8 e1;subst hQ1;apply iq;refine iK (N:=2) (M:=4+((39*C+1+1)+8+1+2)+1) ?_;have s11:=hS.get 11 _ rfl;refine zK (N:=1) (t:=decide ((kk:Int)<(d.bD.length:Int))) (by simpa[Act.eval] using s11) ?_
 have cg:Sl ds (S0 d wg kk) a:=⟨hS.size,hS.defers,λt v h=>hS.get t v (by
  unfold ups;by_cases e:t=11
  .subst e;simp[S0] at h
  simp_all)⟩
 clear hS s10 s9 s11;by_cases bh:kk<d.bD.length
 .have ba:decide ((kk:Int)<(d.bD.length:Int))=true:=ak
  simp only[ba,cz];apply zI;refine iK (N:=(39*C+1+1)+8+1+2) (M:=4) ?_;refine vW (N:=(39*C+1+1)+8+1) ?_;refine iK (N:=8) (M:=39*C+1+1) ?_
  refine Ns bh cg hw hc hr λa w cb hS hw hc hr bk a6 y1 y2=>?_
  show Code.wpN r prog _ _ _ _ _;have bu:RdW (dg d wg cb kk v) w:=⟨hw,hin,bk,y1,y2⟩;rw[hC]
  refine Nq (d:=dg d wg cb kk v) (ds:=ds) (l:=k9 d kk) bi (by simp[k9];omega) a6 bu hS.size hS.defers (λt ht=>?_) hc hr λa w bu ax b9 hb c5=>?_
  .obtain⟨h1,h2⟩:=ht
   match t with
   |0=>exact hS.get 0 _ rfl
   |1=>exact hS.get 1 _ rfl
   |2=>exact hS.get 2 _ rfl
   |3=>exact hS.get 3 _ rfl
   |4=>exact hS.get 4 _ rfl
   |5=>exact hS.get 5 _ rfl
   |6=>exact hS.get 6 _ rfl
   |7=>trivial
   |8=>exact hS.get 8 _ rfl
   |9=>exact hS.get 9 _ rfl
   |10=>exact hS.get 10 _ rfl
   |t+11=>omega
  obtain⟨v',hc,hr⟩:=c5;have hw:WkW d w:=bu.wk;replace hc:ji d w v':=hc
  replace hr:iD d w v' (k9 d (kk+1)):=by rw[Nt];exact hr
  have hS:Sl ds (S0 d wg kk) a:=⟨ax,b9,λt x hx=>by
   unfold S0 at hx
   match t with
   |0=>cases hx;exact hb 0 af
   |1=>cases hx;exact hb 1 af
   |2=>cases hx;exact hb 2 af
   |3=>cases hx;exact hb 3 af
   |4=>cases hx;exact hb 4 af
   |5=>cases hx
   |6=>cases hx
   |7=>cases hx
   |8=>cases hx;exact hb 8 af
   |9=>cases hx;exact hb 9 af
   |10=>cases hx;exact hb 10 af
   |t+11=>cases hx⟩
  clear hb ax b9 bu;show Code.wpN r prog _ _ _ _ _;refine jd (N:=3) ?_;show dB r prog xc [0,1] 3 _ a w;generalize hQ1:Exit.then _ _=Q1;have s10:=hS.get 10 _ rfl
  have bf:IntKind.i64.wrap ((kk:Int)+1)=((kk+1:Nat):Int):=by rw[IntKind.wrap_i64];omega
  refine dD (o:=AT) (N:=2) rfl rfl ae λw e1=>?_
  replace hw:=hw.mv e1;replace hc:=hc.mv e1;replace hr:=hr.mv e1;refine⟨λf ev h9=>?_,?_⟩
  .have hm:=mem_listed h9;simp[go_sem,s10,bf] at hm
  have h8:(execOp a.eval AT).run prog w=.ok (.value (.int .i64 ((kk+1:Nat):Int))) w:=by
   simp[go_sem,s10,bf]
  rw[h8];show dB r prog xc _ 2 Q1 (a.put (some 53) (.int .i64 ((kk+1:Nat):Int))) w;replace hS:=hS.put (t:=53) af (.int .i64 ((kk+1:Nat):Int));generalize a.put (some 53) (.int .i64 ((kk+1:Nat):Int))=a at hS ⊢;clear h8 e1;have s53:=hS.get 53 _ rfl
  refine dD (o:=AU) (N:=1) rfl rfl ae λw e1=>?_
  replace hw:=hw.mv e1;replace hc:=hc.mv e1;replace hr:=hr.mv e1;refine⟨λf ev h9=>?_,?_⟩
  .have hm:=mem_listed h9;simp[go_sem,s53] at hm
  have h8:(execOp a.eval AU).run prog w=.ok (.value (.int .i64 ((kk+1:Nat):Int))) w:=by
   simp[go_sem,s53]
  rw[h8];show dB r prog xc _ 1 Q1 (a.put (some 10) (.int .i64 ((kk+1:Nat):Int))) w;replace hS:=hS.put (t:=10) af (.int .i64 ((kk+1:Nat):Int));generalize a.put (some 10) (.int .i64 ((kk+1:Nat):Int))=a at hS ⊢;clear h8 e1;subst hQ1;apply iq;refine⟨m-1,ab,kk+1,v',ab,⟨hS.size,hS.defers,λt x hx=>hS.get t x ?_⟩,hw,hc,hr⟩;unfold S0 at hx;unfold ups
  match t with
  |0=>trivial
  |1=>trivial
  |2=>trivial
  |3=>trivial
  |4=>trivial
  |5=>cases hx
  |6=>cases hx
  |7=>cases hx
  |8=>trivial
  |9=>trivial
  |10=>trivial
  |t+11=>cases hx
 .have ba:decide ((kk:Int)<(d.bD.length:Int))=false:=ak
  simp only[ba,dz,cT];refine vV (N:=0) ?_ af;apply E8;show Exit.inBlock 0 Q (.exit 0) a w;simp only[Exit.inBlock,cz]
  have hk:kk=d.bD.length:=ab
  subst hk;exact hQ a w cg.defers hw ⟨v,hc,hr⟩
end
abbrev AW:Oper:=⟨some 25,(.fieldAddr 27 (.tmp 1) 1),0, "dispatch.go:117",#[],none⟩
abbrev AX:Oper:=⟨some 26,(.load 23 (.tmp 25)),23, "dispatch.go:117",#[⟨0,.data⟩],none⟩
abbrev AY:Oper:=⟨some 27,(.call ⟨(.builtin .len),#[(.tmp 26)],#[23]⟩),3, "dispatch.go:117",#[⟨1,.data⟩],none⟩
abbrev AZ:Oper:=⟨some 28,(.move (.const (.int .i64 0))),3, "dispatch.go:117",#[],none⟩
abbrev Ga:Array Oper:=#[AW,AX,AY,AZ]
abbrev A7:Oper:=⟨some 29,(.binOp .lss 3 (.tmp 28) (.tmp 27) 3),0, "dispatch.go:117",#[],none⟩
abbrev xd:Array Oper:=#[A7]
abbrev A8:Oper:=⟨some 30,(.move (.tmp 28)),3, "dispatch.go:117",#[],none⟩
abbrev A9:Oper:=⟨some 31,(.indexAddr 23 (.tmp 26) (.tmp 28)),0, "dispatch.go:117",#[],none⟩
abbrev Ba:Oper:=⟨some 32,(.load 91 (.tmp 31)),91, "dispatch.go:117",#[⟨1,.data⟩],none⟩
abbrev Bb:Oper:=⟨some 8,(.alloc 3),0, "dispatch.go:117",#[],none⟩
abbrev Bc:Oper:=⟨some 9,(.alloc 91),0, "dispatch.go:117",#[],none⟩
abbrev Be:Oper:=⟨none,(.store 3 (.tmp 8) (.tmp 30)),0, "dispatch.go:117",#[⟨3,.data⟩,⟨0,.data⟩,⟨0,.phase⟩,⟨1,.phase⟩,⟨2,.phase⟩,⟨3,.phase⟩,⟨4,.phase⟩],none⟩
abbrev Bf:Oper:=⟨none,(.store 91 (.tmp 9) (.tmp 32)),0, "dispatch.go:117",#[⟨4,.data⟩,⟨2,.data⟩,⟨5,.chain⟩,⟨0,.phase⟩,⟨1,.phase⟩,⟨2,.phase⟩,⟨3,.phase⟩,⟨4,.phase⟩,⟨5,.phase⟩],none⟩
abbrev mj:Array Oper:=#[A8,A9,Ba,Bb,Bc,Be,Bf]
abbrev Gb:Oper:=⟨some 33,(.call ⟨(.value (.func 112)),#[.tmp 7,(.const (.int .i64 1))],#[147,3]⟩),0, "dispatch.go:118",#[],none⟩
abbrev ui:Array Oper:=#[Gb]
abbrev Bg:Oper:=⟨some 34,(.makeFunc (.func 113) #[] #[.tmp 7,.tmp 1,.tmp 6,.tmp 8,(.tmp 9)]),1, "dispatch.go:119",#[],none⟩
abbrev rU:Oper:=⟨none,(.go ⟨(.value (.tmp 34)),#[],#[]⟩),0, "dispatch.go:119",#[⟨0,.data⟩],none⟩
abbrev ou:Array Oper:=#[Bg,rU]
abbrev Bh:Oper:=⟨some 35,(.binOp .add 3 (.tmp 28) (.const (.int .i64 1)) 3),3, "dispatch.go:117",#[],none⟩
abbrev Bi:Oper:=⟨some 28,(.move (.tmp 35)),3, "dispatch.go:117",#[⟨0,.data⟩],none⟩
abbrev lG:Array Oper:=#[Bh,Bi]
abbrev Gc:Oper:=⟨some 36,(.call ⟨(.value (.func 115)),#[(.tmp 7)],#[147]⟩),0, "dispatch.go:126",#[],none⟩
abbrev qD:Array Oper:=#[Gc]
abbrev Ge:Oper:=⟨some 37,(.load 92 (.tmp 6)),92, "dispatch.go:127",#[],none⟩
abbrev Gf:Oper:=⟨some 2,(.assign (.tmp 37)),92, "dispatch.go:127",#[⟨0,.data⟩,⟨0,.phase⟩],none⟩
abbrev Gg:Oper:=⟨some 3,(.assign (.const (.int .i64 0))),33, "dispatch.go:127",#[⟨1,.chain⟩,⟨0,.phase⟩,⟨1,.phase⟩],none⟩
abbrev o9:Array Oper:=#[Ge,Gf,Gg]
structure SlS(S:Nat->Option Value)(a:Act):Prop where
 size:a.tmps.size=38
 defers:a.defers=[]
 get:∀t v,S t=some v->a.tmps[t]?.getD undef=v
theorem SlS.put{S:Nat->Option Value}{a:Act}(h:SlS S a){t:Nat}(ht:t<38)(v:Value):SlS (ups S t v) (a.put (some t) v):=by
 refine⟨wM.trans h.size,wN.trans h.defers,λu x hx=>?_⟩;rw[lE aP];unfold ups at hx;by_cases e:t=u
 .simp_all
 .rw[bP (gO e)] at hx;rw[bP e];exact h.get u x hx
def nM(F:Nat)(w:World)(a0:Option Addr)(os:List (ByteArray×Int×Bool×Int)):Prop:=
 ∀j,j<os.length->∃b off,a0=some ⟨b,off,none⟩/\b≠F/\w.cell? ⟨b,off+j*4,none⟩=some (.string (os.getD j (default,0,false,0)).1)/\w.cell? ⟨b,off+j*4+1,none⟩=some (.int .i64 (os.getD j (default,0,false,0)).2.1) /\
  w.cell? ⟨b,off+j*4+2,none⟩=some (.bool (os.getD j (default,0,false,0)).2.2.1)/\w.cell? ⟨b,off+j*4+3,none⟩=some (.int .i64 (os.getD j (default,0,false,0)).2.2.2)
theorem nM.mv{F:Nat}{w w1:World}{a0:Option Addr}{os:List (ByteArray×Int×Bool×Int)}(h:nM F w a0 os)(e:Bel w.heap.size w w1):nM F w1 a0 os:=
 λj hj=>let ⟨b,off,h1,h2,h3,h4,h5,h6⟩:=h j hj;⟨b,off,h1,h2,e.cellAt h3,e.cellAt h4,e.cellAt h5,e.cellAt h6⟩
def S20(wg rb xv:Nat)(oa:Option Addr)(de n kk:Nat):Nat->Option Value:=λt=>match t with
 |1=>some (.pointer (some ⟨rb,0,none⟩))|6=>some (.pointer (some ⟨xv,0,none⟩))|7=>some (.pointer (some ⟨wg,0,none⟩))|26=>some (.slice oa n de)|27=>some (.int .i64 n)|28=>some (.int .i64 kk)|_=>none
section
variable{F lo k wg rb xv de kk:Nat}{oa:Option Addr}{os:List (ByteArray×Int×Bool×Int)}{r:Option Nat}{Q:Exit->Act->World->Prop}
theorem Nv{n:Nat}(hn:n<=1000)(d2:kk<=n){a:Act}{w:World}(hS:SlS (S20 wg rb xv oa de n kk) a)(I:World->Prop)(hI:∀w w1,I w->Bel w.heap.size w w1->I w1)(hw:I w){id:Nat}(hQ:∀a w,SlS (S20 wg rb xv oa de n kk) a->a.tmps[29]?.getD undef=.bool (decide (kk<n))->I w->Q .normal a w):@Code.wpN (cQ lo F k) r prog (.region id xd false) 3 Q a w:=by
 letI:=cQ lo F k
 refine jd (N:=2) ?_;show dB r prog xd [0] 2 Q a w;have s28:=hS.get 28 _ rfl;have s27:=hS.get 27 _ rfl
 refine dD (o:=A7) (N:=1) rfl rfl aB λw1 e1=>?_
 replace hw:=hI _ _ hw e1;refine⟨λf ev h9=>?_,?_⟩
 .have hm:=mem_listed h9;simp[go_sem,s28,s27] at hm
 have h8:(execOp a.eval A7).run prog w1=.ok (.value (.bool (decide (kk<n)))) w1:=by
  simp[go_sem,s28,s27]
 rw[h8];show dB r prog xd _ 1 Q (a.put (some 29) _) w1;apply iq;have hS2:=hS.put (t:=29) af (.bool (decide (kk<n)));refine hQ _ _ ⟨hS2.size,hS2.defers,λt v h=>hS2.get t v ?_⟩ (hS2.get 29 _ rfl) hw;unfold ups;by_cases e:t=29
 .subst e;simp[S20] at h
 simp_all
theorem Nx{n:Nat}(hn:n<=1000)(d2:kk<=n){a:Act}{w:World}(hS:SlS (S20 wg rb xv oa de n kk) a)(I:World->Prop)(hI:∀w w1,I w->Bel w.heap.size w w1->I w1)(hw:I w){id:Nat}(hQ:∀a w,SlS (S20 wg rb xv oa de n (kk+1)) a->I w->Q .normal a w):@Code.wpN (cQ lo F k) r prog (.region id lG false) 4 Q a w:=by
 letI:=cQ lo F k
 refine jd (N:=3) ?_;show dB r prog lG [0,1] 3 Q a w;have s28:=hS.get 28 _ rfl
 have bf:IntKind.i64.wrap ((kk:Int)+1)=((kk+1:Nat):Int):=by rw[IntKind.wrap_i64];omega
 refine dD (o:=Bh) (N:=2) rfl rfl ae λw1 e1=>?_
 replace hw:=hI _ _ hw e1;refine⟨λf ev h9=>?_,?_⟩
 .have hm:=mem_listed h9;simp[go_sem,s28,bf] at hm
 have h8:(execOp a.eval Bh).run prog w1=.ok (.value (.int .i64 ((kk+1:Nat):Int))) w1:=by
  simp[go_sem,s28,bf]
 rw[h8];show dB r prog lG _ 2 Q (a.put (some 35) _) w1;replace hS:=hS.put (t:=35) af (.int .i64 ((kk+1:Nat):Int));generalize a.put (some 35) (.int .i64 ((kk+1:Nat):Int))=a at hS ⊢;have sx:=hS.get 35 _ rfl
 refine dD (o:=Bi) (N:=1) rfl rfl ae λw2 e2=>?_
 replace hw:=hI _ _ hw e2;refine⟨λf ev h9=>?_,?_⟩
 .have hm:=mem_listed h9;simp[go_sem,sx] at hm
 have h8:(execOp a.eval Bi).run prog w2=.ok (.value (.int .i64 ((kk+1:Nat):Int))) w2:=by
  simp[go_sem,sx]
 rw[h8];show dB r prog lG _ 1 Q (a.put (some 28) _) w2;replace hS:=hS.put (t:=28) af (.int .i64 ((kk+1:Nat):Int));apply iq;refine hQ _ _ ⟨hS.size,hS.defers,λt v h=>hS.get t v ?_⟩ hw;unfold S20 at h;unfold ups
 match t with
 |1=>trivial
 |6=>trivial
 |7=>trivial
 |26=>trivial
 |27=>trivial
 |28=>trivial
 |0|2|3|4|5|8|9|10|11|12|13|14|15|16|17|18|19|20|21|22|23|24|25=>cases h
 |t+29=>cases h
end
section
variable{F lo k wg rb xv de kk:Nat}{oa:Option Addr}{os:List (ByteArray×Int×Bool×Int)}{r:Option Nat}{Q:Exit->Act->World->Prop}
theorem Ny(hF:F<lo){n:Nat}(hn:n=os.length)(hk:kk<n){a:Act}{w:World}(hS:SlS (S20 wg rb xv oa de n kk) a)(hh:lo<=w.heap.size)(I:World->Prop)(hI:∀w w1,I w->Bel w.heap.size w w1->I w1)(hI2:∀w w1,I w->lo<=w.heap.size->Bel lo w w1->I w1)(hw:I w)(ho:nM F w oa os){id:Nat}(hQ:∀a w ib ob,SlS (ups (ups (S20 wg rb xv oa de n kk) 8 (.pointer (some ⟨ib,0,none⟩))) 9 (.pointer (some ⟨ob,0,none⟩))) a->I w->lo<=w.heap.size->lo<=ib->lo<=ob->ib≠ob->w.heap[ib]?=some (.cells #[.int .i64 kk] 3)->w.heap[ob]?=some (.cells #[.string (os.getD kk (default,0,false,0)).1,.int .i64 (os.getD kk (default,0,false,0)).2.1,.bool (os.getD kk (default,0,false,0)).2.2.1,.int .i64 (os.getD kk (default,0,false,0)).2.2.2] 91)->Q .normal a w):@Code.wpN (cQ lo F k) r prog (.region id mj false) 9 Q a w:=by
 letI:=cQ lo F k
 obtain⟨b,off,cq,hbF,_,_,_,_⟩:=ho kk ab
 have bl:∀w,nM F w oa os->w.cell? ⟨b,off+kk*4,none⟩=some (.string (os.getD kk (default,0,false,0)).1)/\w.cell? ⟨b,off+kk*4+1,none⟩=some (.int .i64 (os.getD kk (default,0,false,0)).2.1)/\w.cell? ⟨b,off+kk*4+2,none⟩=some (.bool (os.getD kk (default,0,false,0)).2.2.1)/\w.cell? ⟨b,off+kk*4+3,none⟩=some (.int .i64 (os.getD kk (default,0,false,0)).2.2.2):=λw hw=>by
  obtain⟨b',c8,e,_,h4,h5,h6,h7⟩:=hw kk ab;rw[cq] at e;cases e;exact⟨h4,h5,h6,h7⟩
 generalize (os.getD kk (default,0,false,0)).1=nm,(os.getD kk (default,0,false,0)).2.1=sn,(os.getD kk (default,0,false,0)).2.2.1=ch,(os.getD kk (default,0,false,0)).2.2.2=pr at bl hQ;refine jd (N:=8) ?_;show dB r prog mj [0,1,2,3,4,5,6] 8 Q a w;have s28:=hS.get 28 _ rfl
 refine dD (o:=A8) (N:=7) rfl rfl aB λw1 e1=>?_
 replace hw:=hI _ _ hw e1;replace ho:=ho.mv e1;replace hh:=dJ hh e1.size;refine⟨λf ev h9=>?_,?_⟩
 .have hm:=mem_listed h9;simp[go_sem,s28] at hm
 have h8:(execOp a.eval A8).run prog w1=.ok (.value (.int .i64 kk)) w1:=by
  simp[go_sem,s28]
 rw[h8];show dB r prog mj _ 7 Q (a.put (some 30) (.int .i64 kk)) w1;replace hS:=hS.put (t:=30) af (.int .i64 kk);generalize a.put (some 30) (.int .i64 kk)=a at hS ⊢;clear h8 e1;generalize w1=w at *;have s28:=hS.get 28 _ rfl;have s26:=hS.get 26 _ rfl;rw[cq] at s26
 refine dD (o:=A9) (N:=6) rfl rfl aB λw1 e1=>?_
 replace hw:=hI _ _ hw e1;replace ho:=ho.mv e1;replace hh:=dJ hh e1.size;refine⟨λf ev h9=>?_,?_⟩
 .have hm:=mem_listed h9;simp[go_sem,s28,s26,hk] at hm
 have h8:(execOp a.eval A9).run prog w1=.ok (.value (.pointer (some ⟨b,off+kk*4,none⟩))) w1:=by
  simp[go_sem,s28,s26,hk]
 rw[h8];show dB r prog mj _ 6 Q (a.put (some 31) (.pointer (some ⟨b,off+kk*4,none⟩))) w1;replace hS:=hS.put (t:=31) af (.pointer (some ⟨b,off+kk*4,none⟩));generalize a.put (some 31) (.pointer (some ⟨b,off+kk*4,none⟩))=a at hS ⊢;clear h8 e1;generalize w1=w at *;have s31:=hS.get 31 _ rfl
 refine dD (o:=Ba) (N:=5) rfl rfl aB λw1 e1=>?_
 replace hw:=hI _ _ hw e1;replace ho:=ho.mv e1;replace hh:=dJ hh e1.size;obtain⟨z1,z2,z3,z4⟩:=bl w1 ho;refine⟨λf ev h9=>?_,?_⟩
 .have hm:=mem_listed h9;simp[go_sem,s31,z1,z2,z3,z4] at hm
  rcases hm with rfl|rfl|rfl|rfl<;>exact qB (λe=>absurd e hbF)
 have h8:(execOp a.eval Ba).run prog w1=.ok (.value (.agg #[.string nm,.int .i64 sn,.bool ch,.int .i64 pr])) w1:=by
  simp[go_sem,s31,z1,z2,z3,z4]
 rw[h8];show dB r prog mj _ 5 Q (a.put (some 32) (.agg #[.string nm,.int .i64 sn,.bool ch,.int .i64 pr])) w1;replace hS:=hS.put (t:=32) af (.agg #[.string nm,.int .i64 sn,.bool ch,.int .i64 pr]);generalize a.put (some 32) (.agg #[.string nm,.int .i64 sn,.bool ch,.int .i64 pr])=a at hS ⊢;clear h8 e1;generalize w1=w at *;clear z1 z2 z3 z4
 refine dD (o:=Bb) (N:=4) rfl rfl aB λw1 e1=>?_
 replace hw:=hI _ _ hw e1;replace ho:=ho.mv e1;replace hh:=dJ hh e1.size;refine⟨λf ev h9=>?_,?_⟩
 .have hm:=mem_listed h9;simp[go_sem] at hm
 have h8:(execOp a.eval Bb).run prog w1=.ok (.value (.pointer (some ⟨w1.heap.size,0,none⟩))) (w1.alloc (.cells #[.int .i64 0] 3)):=by
  simp[go_sem]
  try rfl
 rw[h8];clear h8 e1;have a5:Bel w1.heap.size w1 (w1.alloc (.cells #[.int .i64 0] 3)):=(Bel.refl _ _).alloc (bS _) _
 have a9:(w1.alloc (.cells #[.int .i64 0] 3)).heap[w1.heap.size]?=some (.cells #[.int .i64 0] 3):=by
  show (w1.heap.push _)[w1.heap.size]?=_;simp
 have lib:=hh;replace hw:=hI _ _ hw a5;replace ho:=ho.mv a5;replace hh:=dJ hh a5.size;show dB r prog mj _ 4 Q (a.put (some 8) (.pointer (some ⟨w1.heap.size,0,none⟩))) _;replace hS:=hS.put (t:=8) af (.pointer (some ⟨w1.heap.size,0,none⟩));generalize a.put (some 8) (.pointer (some ⟨w1.heap.size,0,none⟩))=a at hS ⊢;clear a5;generalize w1.heap.size=ib at *;generalize (w1.alloc (.cells #[.int .i64 0] 3))=w at *
 refine dD (o:=Bc) (N:=3) rfl rfl aB λw1 e1=>?_
 replace hw:=hI _ _ hw e1;replace ho:=ho.mv e1;replace hh:=dJ hh e1.size;replace a9:=(e1.block _ (cY.1 a9).1).trans a9;refine⟨λf ev h9=>?_,?_⟩
 .have hm:=mem_listed h9;simp[go_sem] at hm
 have h8:(execOp a.eval Bc).run prog w1=.ok (.value (.pointer (some ⟨w1.heap.size,0,none⟩))) (w1.alloc (.cells #[.string default,.int .i64 0,.bool false,.int .i64 0] 91)):=by
  simp[go_sem]
  try rfl
 rw[h8];clear h8 e1;have a5:Bel w1.heap.size w1 (w1.alloc (.cells #[.string default,.int .i64 0,.bool false,.int .i64 0] 91)):=(Bel.refl _ _).alloc (bS _) _
 have bn:(w1.alloc (.cells #[.string default,.int .i64 0,.bool false,.int .i64 0] 91)).heap[w1.heap.size]?=some (.cells #[.string default,.int .i64 0,.bool false,.int .i64 0] 91):=by
  show (w1.heap.push _)[w1.heap.size]?=_;simp
 have lob:=hh;replace hw:=hI _ _ hw a5;replace ho:=ho.mv a5;replace hh:=dJ hh a5.size
 have bd:ib≠w1.heap.size:=by have:=(cY.1 a9).1;omega
 replace a9:=(a5.block _ (cY.1 a9).1).trans a9;show dB r prog mj _ 3 Q (a.put (some 9) (.pointer (some ⟨w1.heap.size,0,none⟩))) _;replace hS:=hS.put (t:=9) af (.pointer (some ⟨w1.heap.size,0,none⟩));generalize a.put (some 9) (.pointer (some ⟨w1.heap.size,0,none⟩))=a at hS ⊢;clear a5;generalize w1.heap.size=ob at *;generalize (w1.alloc (.cells #[.string default,.int .i64 0,.bool false,.int .i64 0] 91))=w at *;have s8:=hS.get 8 _ rfl;have s9:=hS.get 9 _ rfl;have s30:=hS.get 30 _ rfl;have s32:=hS.get 32 _ rfl
 have hibF:ib≠F:=ab
 have hobF:ob≠F:=ab
 refine dD (o:=Be) (N:=2) rfl rfl aB λw1 e1=>?_
 replace hw:=hI _ _ hw e1;replace hh:=dJ hh e1.size;replace a9:=(e1.block _ (cY.1 a9).1).trans a9;replace bn:=(e1.block _ (cY.1 bn).1).trans bn
 have y0:w1.cell? ⟨ib,0,none⟩=some (.int .i64 0):=by simp[World.cell?,a9]
 have k0:w1.frozen? ⟨ib,0,none⟩=false:=by simp[World.frozen?,a9]
 have es0:∀w es,(store (⟨ib,0,none⟩:Addr) (.int .i64 (kk:Int))).events prog w es=storedEv prog w es ⟨ib,0,none⟩ (.int .i64 (kk:Int)) .plain:=λ_ _=>events_store _ _ _ _ _ _ rfl
 refine⟨λf ev h9=>?_,?_⟩
 .have hm:=mem_listed h9;simp[go_sem,s8,s30,y0,k0,es0,storedEv,stored] at hm;subst hm;exact Aj lib hibF
 have h8:(execOp a.eval Be).run prog w1=.ok .skip (w1.setCell ⟨ib,0,none⟩ (.int .i64 kk)):=by
  simp[go_sem,s8,s30,y0,k0,stored]
 rw[h8];show dB r prog mj _ 2 Q (a.put none undef) _;have b1:Bel lo w1 (w1.setCell ⟨ib,0,none⟩ (.int .i64 kk)):=(Bel.refl _ _).setCell lib _
 have b5:(w1.setCell ⟨ib,0,none⟩ (.int .i64 kk)).heap[ib]?=some (.cells #[.int .i64 kk] 3):=by simp[World.setCell,fu,a9]
 have aa:(w1.setCell ⟨ib,0,none⟩ (.int .i64 kk)).heap[ob]?=some (.cells #[.string default,.int .i64 0,.bool false,.int .i64 0] 91):=by simp[World.setCell,fu,bd,bn]
 replace hw:=hI2 _ _ hw hh b1;replace hh:=dJ hh b1.size;clear h8 y0 k0 es0 b1 a9 bn e1;generalize w1.setCell ⟨ib,0,none⟩ (.int .i64 kk)=w at *;show dB r prog mj _ 2 Q a w
 refine dD (o:=Bf) (N:=1) rfl rfl aB λw2 e1=>?_
 replace hw:=hI _ _ hw e1;replace hh:=dJ hh e1.size;replace b5:=(e1.block _ (cY.1 b5).1).trans b5;replace aa:=(e1.block _ (cY.1 aa).1).trans aa
 have y0:w2.cell? ⟨ob,0,none⟩=some (.string default):=by simp[World.cell?,aa]
 have k0:w2.frozen? ⟨ob,0,none⟩=false:=by simp[World.frozen?,aa]
 have h1:(w2.setCell ⟨ob,0,none⟩ (.string nm)).heap[ob]?=some (.cells #[.string nm,.int .i64 0,.bool false,.int .i64 0] 91):=by simp[World.setCell,fu,aa]
 have n1:(w2.setCell ⟨ob,0,none⟩ (.string nm)).heap[ib]?=w2.heap[ib]?:=by simp[World.setCell,fu,gO bd]
 have b1:Bel lo w2 (w2.setCell ⟨ob,0,none⟩ (.string nm)):=(Bel.refl _ _).setCell lob _;generalize ha:w2.setCell ⟨ob,0,none⟩ (.string nm)=wa at h1 n1 b1
 have y1:wa.cell? ⟨ob,1,none⟩=some (.int .i64 0):=by simp[World.cell?,h1]
 have k1:wa.frozen? ⟨ob,1,none⟩=false:=by simp[World.frozen?,h1]
 have h2:(wa.setCell ⟨ob,1,none⟩ (.int .i64 sn)).heap[ob]?=some (.cells #[.string nm,.int .i64 sn,.bool false,.int .i64 0] 91):=by simp[World.setCell,fu,h1]
 have n2:(wa.setCell ⟨ob,1,none⟩ (.int .i64 sn)).heap[ib]?=w2.heap[ib]?:=by simp[World.setCell,fu,gO bd,n1]
 have b2:Bel lo w2 (wa.setCell ⟨ob,1,none⟩ (.int .i64 sn)):=b1.setCell lob _;generalize a':wa.setCell ⟨ob,1,none⟩ (.int .i64 sn)=wb at h2 n2 b2
 have y2:wb.cell? ⟨ob,2,none⟩=some (.bool false):=by simp[World.cell?,h2]
 have k2:wb.frozen? ⟨ob,2,none⟩=false:=by simp[World.frozen?,h2]
 have h3:(wb.setCell ⟨ob,2,none⟩ (.bool ch)).heap[ob]?=some (.cells #[.string nm,.int .i64 sn,.bool ch,.int .i64 0] 91):=by simp[World.setCell,fu,h2]
 have n3:(wb.setCell ⟨ob,2,none⟩ (.bool ch)).heap[ib]?=w2.heap[ib]?:=by simp[World.setCell,fu,gO bd,n2]
 have b3:Bel lo w2 (wb.setCell ⟨ob,2,none⟩ (.bool ch)):=b2.setCell lob _;generalize cu:wb.setCell ⟨ob,2,none⟩ (.bool ch)=wc at h3 n3 b3
 have y3:wc.cell? ⟨ob,3,none⟩=some (.int .i64 0):=by simp[World.cell?,h3]
 have k3:wc.frozen? ⟨ob,3,none⟩=false:=by simp[World.frozen?,h3]
 have h4:(wc.setCell ⟨ob,3,none⟩ (.int .i64 pr)).heap[ob]?=some (.cells #[.string nm,.int .i64 sn,.bool ch,.int .i64 pr] 91):=by simp[World.setCell,fu,h3]
 have n4:(wc.setCell ⟨ob,3,none⟩ (.int .i64 pr)).heap[ib]?=w2.heap[ib]?:=by simp[World.setCell,fu,gO bd,n3]
 have b4:Bel lo w2 (wc.setCell ⟨ob,3,none⟩ (.int .i64 pr)):=b3.setCell lob _
 have es0:∀w es,(store (⟨ob,0,none⟩:Addr) (.string nm)).events prog w es=storedEv prog w es ⟨ob,0,none⟩ (.string nm) .plain:=λ_ _=>events_store _ _ _ _ _ _ rfl
 have es1:∀w es,(store (⟨ob,1,none⟩:Addr) (.int .i64 sn)).events prog w es=storedEv prog w es ⟨ob,1,none⟩ (.int .i64 sn) .plain:=λ_ _=>events_store _ _ _ _ _ _ rfl
 have es2:∀w es,(store (⟨ob,2,none⟩:Addr) (.bool ch)).events prog w es=storedEv prog w es ⟨ob,2,none⟩ (.bool ch) .plain:=λ_ _=>events_store _ _ _ _ _ _ rfl
 have es3:∀w es,(store (⟨ob,3,none⟩:Addr) (.int .i64 pr)).events prog w es=storedEv prog w es ⟨ob,3,none⟩ (.int .i64 pr) .plain:=λ_ _=>events_store _ _ _ _ _ _ rfl
 refine⟨λf ev h9=>?_,?_⟩
 .have hm:=mem_listed h9;simp[go_sem,s9,s32,y0,k0,ha,y1,k1,a',y2,k2,cu,y3,k3,es0,es1,es2,es3,storedEv,stored] at hm
  rcases hm with rfl|rfl|rfl|rfl<;>exact Aj lob hobF
 have h8:(execOp a.eval Bf).run prog w2=.ok .skip (wc.setCell ⟨ob,3,none⟩ (.int .i64 pr)):=by
  simp[go_sem,s9,s32,y0,k0,ha,y1,k1,a',y2,k2,cu,y3,k3,stored]
 rw[h8];show dB r prog mj [] 1 Q (a.put none undef) _;apply iq;refine hQ _ _ ib ob ⟨hS.size,hS.defers,λt x hx=>hS.get t x ?_⟩ (hI2 _ _ hw hh b4) (dJ hh b4.size) lib lob bd (n4.trans b5) h4;unfold ups at hx ⊢;by_cases t9:t=9
 .simpa[t9] using hx
 by_cases t8:t=8
 .simpa[t8,t9] using hx
 by_cases t30:t=30
 .subst t30;simp[S20] at hx
 by_cases t31:t=31
 .subst t31;simp[S20] at hx
 by_cases t32:t=32
 .subst t32;simp[S20] at hx
 simp_all
end
end Go.Proofs.Tw
