/- Lemmas. -/
import Derived.Test.YthpkmilhiganjaaGreatPWa
import Derived.Test.YthpkmilhiganjaaGreatPMe
set_option linter.unusedSimpArgs false
set_option linter.unusedVariables false
set_option linter.unusedSectionVars false
set_option maxHeartbeats 32000000
set_option maxRecDepth 100000
namespace Go.Proofs.Tw
open Go Go.Fi Go.Conc Go.RowKit
theorem eqI(x u:Int)(w:World)(n:Nat):(Op.equalIn (n+1) 3 (.int .i64 x) (.int .i64 u)).run prog w=.ok (x==u) w:=by simp[Op.equalIn,go_sem]
theorem Mp(x u:Int)(w:World)(n:Nat)(es:Array Event):(Op.equalIn (n+1) 3 (.int .i64 x) (.int .i64 u)).events prog w es=es:=by simp[Op.equalIn,go_sem]
theorem eqP(x y u v:Int)(w:World):(Op.equalIn 10000 120 (.agg #[.int .i64 x,.int .i64 y]) (.agg #[.int .i64 u,.int .i64 v])).run prog w=.ok (x==u&&y==v) w:=by
 rw[show (10000:Nat)=9998+1+1 from rfl];generalize (9998:Nat)=n;unfold Op.equalIn;simp only[Sem.run_bind,runUnderlying120,Result.andThen_ok,sizeOf3];simp only[part,go_sem]
 by_cases h1:x=u<;>by_cases h2:y=v<;>simp[List.range',go_sem,eqI,h1,h2]
theorem Mq(x y u v:Int)(w:World)(es:Array Event):(Op.equalIn 10000 120 (.agg #[.int .i64 x,.int .i64 y]) (.agg #[.int .i64 u,.int .i64 v])).events prog w es=es:=by
 rw[show (10000:Nat)=9998+1+1 from rfl];generalize (9998:Nat)=n;unfold Op.equalIn;simp only[Sem.run_bind,Sem.events_bind,runUnderlying120,Result.andThen_ok,sizeOf3];simp only[part,go_sem]
 by_cases h1:x=u<;>by_cases h2:y=v<;>simp[List.range',go_sem,eqI,Mp,h1,h2]
theorem Mr(x y u v:Int)(w:World)(es:Array Event):(binOp .eql 120 (.agg #[.int .i64 x,.int .i64 y]) (.agg #[.int .i64 u,.int .i64 v])).events prog w es=es:=by
 have hm:Op.maxDepth=10000:=rfl;simp only[binOp,Op.equal,go_sem,Sem.events_bind,hm,Mq,eqP]
 try simp[go_sem]
theorem Ms(a b:Operand)(x y u v:Int)(w:World)(es:Array Event):(eqGuard .eql 120 a b (.agg #[.int .i64 x,.int .i64 y]) (.agg #[.int .i64 u,.int .i64 v])).events prog w es=es:=by
 simp only[eqGuard,go_sem]
 try simp[go_sem]
theorem bq(a b c d:Int):(a==c&&b==d)=(decide (c=a)&&decide (d=b)):=by
 have e:∀a c:Int,(a==c)=decide (c=a):=fun a c=>by rw[Bool.eq_iff_iff,beq_iff_eq,decide_eq_true_eq];exact⟨Eq.symm,Eq.symm⟩
 rw[e,e]
def iu(F:Nat)(w:World)(a0:Option Addr)(zs:List (Int×Int)):Prop:=
 ∀j,j<zs.length→∃b off,a0=some ⟨b,off,none⟩∧b≠F∧w.cell? ⟨b,off+j*2,none⟩=some (.int .i64 (zs.getD j (0,0)).1)∧w.cell? ⟨b,off+j*2+1,none⟩=some (.int .i64 (zs.getD j (0,0)).2)
theorem iu.bel{F:Nat}{w w1:World}{a0:Option Addr}{zs:List (Int×Int)}(h:iu F w a0 zs)(e:Bel w.heap.size w w1):iu F w1 a0 zs:=
 fun j hj=>let ⟨b,off,h1,h3,h4,h5⟩:=h j hj;⟨b,off,h1,h3,e.cellAt h4,e.cellAt h5⟩
structure IxW(F lo:Nat)(A:World)(a0:Option Addr)(zs:List (Int×Int))(x y:Int)(bx:Nat)(w:World):Prop where
 bel:Bel A.heap.size A w
 iv:iu F w a0 zs
 c0:w.cell? ⟨bx,0,none⟩=some (.int .i64 x)
 c1:w.cell? ⟨bx,1,none⟩=some (.int .i64 y)
 hbx:bx≠F
theorem IxW.mv{F lo:Nat}{A:World}{a0:Option Addr}{zs:List (Int×Int)}{x y:Int}{bx:Nat}{w w1:World}(h:IxW F lo A a0 zs x y bx w)(e:Bel w.heap.size w w1):IxW F lo A a0 zs x y bx w1:=
 ⟨lq h.bel e,h.iv.bel e,e.cellAt h.c0,e.cellAt h.c1,h.hbx⟩
def IxA(a0:Option Addr)(n cap:Nat)(bx:Nat)(x y:Int)(kk:Nat)(J:Nat→Value):Act:=
 ⟨#[.slice a0 n cap,.agg #[.int .i64 x,.int .i64 y],J 2,.pointer (some ⟨bx,0,none⟩),.int .i64 0,J 5,.slice a0 n cap,.int .i64 n,.int .i64 kk,J 9,J 10,J 11,J 12,J 13,J 14,J 15,J 16,J 17,J 18],[]⟩
theorem IxW.drew{F lo:Nat}{A:World}{a0:Option Addr}{zs:List (Int×Int)}{x y:Int}{bx:Nat}{w:World}{d:Nat}(h:IxW F lo A a0 zs x y bx w):IxW F lo A a0 zs x y bx { w with drawn:=d }:=⟨⟨h.bel.os,h.bel.output,h.bel.size,h.bel.block⟩,h.iv,h.c0,h.c1,h.hbx⟩
def IxB(a0:Option Addr)(n cap:Nat)(bx:Nat)(x y:Int)(kk:Nat)(t:Nat):Value:=match t with|0=>.slice a0 n cap|1=>.agg #[.int .i64 x,.int .i64 y]|3=>.pointer (some ⟨bx,0,none⟩)|4=>.int .i64 0|5=>.int .i64 kk|6=>.slice a0 n cap|7=>.int .i64 n|8=>.int .i64 kk|_=>undef
def IxV(a0:Option Addr)(n cap:Nat)(x y:Int)(zs:List (Int×Int))(kk:Nat)(t:Nat):Value:=match t with|11=>.agg #[.int .i64 x,.int .i64 y]|12=>.slice a0 n cap|13=>.int .i64 kk|14=>.pointer (a0.map fun ad=>⟨ad.block,ad.off+kk*2,none⟩)|15=>.agg #[.int .i64 (zs.getD kk (0,0)).1,.int .i64 (zs.getD kk (0,0)).2]|16=>.bool (decide (zs.getD kk (0,0)=(x,y)))|_=>undef
theorem Hb{lo F k:Nat}(hF:F<lo)(n:Nat)(h64:n≤64):∀(a0:Option Addr)(cap:Nat)(zs:List (Int×Int))(x y:Int)(A:World),zs.length=n→lo≤A.heap.size→iu F A a0 zs→@oD (a7 lo F k) prog 133 #[.slice a0 n cap,.agg #[.int .i64 x,.int .i64 y]] (2+((4+((n*35+35+2)+5+1)+1)+4+1)) A fun v w'=>v=.int .i64 (match zs.findIdx? (fun z=>z==(x,y)) with|some i=>(i:Int)|none=>-1)∧Bel A.heap.size A w':=by
 letI:=a7 lo F k
 intro a0 cap zs x y A hn hlo hp;apply zR func133 rfl rfl (N:=((4+((n*35+35+2)+5+1)+1)+4+1));simp only[Tryz.f133,List.size_toArray,List.length_cons,List.length_nil,Nat.reduceAdd,Nat.reduceSub,Array.replicate_succ,Array.replicate_zero,List.push_toArray,List.append_toArray,List.nil_append,List.cons_append];apply eX (N:=4) (M:=(4+((n*35+35+2)+5+1)+1));apply fJ;simp only[List.size_toArray,List.length_cons,List.length_nil,Nat.reduceAdd,Nat.zero_add,List.range,List.range.loop];apply bE rfl rfl (by intro c h;cases h);intro w1 e1;refine⟨fun f ev he=>?_,?_⟩
 ·have hm:=mem_listed he;simp[go_sem] at hm
 simp only[Oper.da,go_sem,Act.put,List.setIfInBounds_toArray,List.set_cons_succ,List.set_cons_zero];simp[Oper.da,go_sem,Act.put];have hb1:Bel A.heap.size A w1:=e1
 have hW:IxW F lo A a0 zs x y w1.heap.size (w1.alloc (.cells #[.int .i64 x,.int .i64 y] 120)):=by
  have hal:Bel w1.heap.size w1 (w1.alloc (.cells #[.int .i64 x,.int .i64 y] 120)):=(Bel.refl _ _).alloc (Nat.le_refl _) _;have hs:=hb1.size;refine⟨lq hb1 hal,(hp.bel hb1).bel hal,?_,?_,by omega⟩
  ·exact pE w1 #[.int .i64 x,.int .i64 y] 120 0
  ·exact pE w1 #[.int .i64 x,.int .i64 y] 120 1
 generalize w1.heap.size=bx at hW ⊢;generalize (w1.alloc (.cells #[.int .i64 x,.int .i64 y] 120))=w at hW ⊢;clear hb1 e1 hp;apply bE rfl rfl (by intro c h;cases h);intro w e1;replace hW:=hW.mv e1;refine⟨fun f ev he=>by have hm:=mem_listed he;simp[go_sem] at hm,?_⟩;simp[Oper.da,go_sem,Act.put];clear e1;apply eo;apply eX (N:=((n*35+35+2)+5+1)) (M:=4);apply eX (N:=5) (M:=(n*35+35+2));apply fJ (N:=4);simp only[List.size_toArray,List.length_cons,List.length_nil,Nat.reduceAdd,Nat.zero_add,List.range,List.range.loop];generalize hQ:Exit.then _ _=Q;apply bE rfl rfl (by intro c h;cases h);intro w e1;replace hW:=hW.mv e1;refine⟨fun f ev he=>by have hm:=mem_listed he;simp[go_sem] at hm,?_⟩;simp[Oper.da,go_sem,Act.put];clear e1;apply bE rfl rfl (by intro c h;cases h);intro w e1;replace hW:=hW.mv e1;refine⟨fun f ev he=>by have hm:=mem_listed he;simp[go_sem] at hm,?_⟩;simp[Oper.da,go_sem,Act.put];clear e1;apply bE rfl rfl (by intro c h;cases h);intro w e1;replace hW:=hW.mv e1;refine⟨fun f ev he=>by have hm:=mem_listed he;simp[go_sem] at hm,?_⟩;simp[Oper.da,go_sem,Act.put];clear e1;subst hQ;apply eo;apply rl (N:=n*35+35);apply zO (r0:=34) (I:=fun m a w=>∃(kk:Nat)(J:Nat→Value),m+kk=n∧a=IxA a0 n cap bx x y kk J∧IxW F lo A a0 zs x y bx w∧∀j,j<kk→zs.getD j (0,0)≠(x,y)) (n0:=n)
 ·exact⟨0,fun _=>undef,by omega,rfl,hW,fun j hj=>by omega⟩
 rintro m a w ⟨kk,J,hm,rfl,hW,hno⟩
 unfold IxA;apply eX (N:=3) (M:=30);apply fJ (N:=2);simp only[List.size_toArray,List.length_cons,List.length_nil,Nat.reduceAdd,Nat.zero_add,List.range,List.range.loop];generalize hQ:Exit.then _ _=Q;apply bE rfl rfl (by intro c h;cases h);intro w e1;replace hW:=hW.mv e1;refine⟨fun f ev he=>by have hm:=mem_listed he;simp[go_sem] at hm,?_⟩;simp[Oper.da,go_sem,Act.put];clear e1;subst hQ;apply eo;apply eX (N:=2) (M:=27);apply vn (t:=decide (kk<n)) (N:=1) (by simp[Act.eval]);by_cases hlt:kk<n
 ·simp only[hlt,decide_true,if_true];apply vl;apply eX (N:=22) (M:=4);apply rl (N:=20);apply eX (N:=4) (M:=15);apply fJ (N:=3);simp only[List.size_toArray,List.length_cons,List.length_nil,Nat.reduceAdd,Nat.zero_add,List.range,List.range.loop];generalize hQ:Exit.then _ _=Q;apply bE rfl rfl (by intro c h;cases h);intro w e1;replace hW:=hW.mv e1;refine⟨fun f ev he=>by have hm:=mem_listed he;simp[go_sem] at hm,?_⟩;simp[Oper.da,go_sem,Act.put];clear e1;apply bE rfl rfl (by intro c h;cases h);intro w e1;replace hW:=hW.mv e1;refine⟨fun f ev he=>by have hm:=mem_listed he;simp[go_sem] at hm,?_⟩;simp[Oper.da,go_sem,Act.put];clear e1;subst hQ;apply eo;apply eX (N:=8) (M:=6);apply AO (by rfl) 1 (IxW F lo A a0 zs x y bx) 19 [] (fun t=>t<9∧t≠2) (fun _=>True) (IxB a0 n cap bx x y kk) (IxV a0 n cap x y zs kk) (fun _ _ _=>True) (by decide) (fun _ _ h e=>h.mv e) (fun _ _ h=>h.drew) hW rfl rfl
  ·intro t ht;obtain⟨h1,h2⟩:=ht
   match t with
   |0=>rfl
   |1=>rfl
   |2=>exact absurd rfl h2
   |3=>rfl
   |4=>rfl
   |5=>rfl
   |6=>rfl
   |7=>rfl
   |8=>rfl
   |t+9=>omega
  ·exact fun _ _=>trivial
  ·intro L a w hall hT _;have h16:a.tmps[16]?.getD undef=.bool (decide (zs.getD kk (0,0)=(x,y))):=hT.run 5 _ 16 rfl rfl trivial (hall 5 (by decide))
   have hA:a=⟨#[.slice a0 n cap,.agg #[.int .i64 x,.int .i64 y],a.tmps[2]?.getD undef,.pointer (some ⟨bx,0,none⟩),.int .i64 0,.int .i64 kk,.slice a0 n cap,.int .i64 n,.int .i64 kk,a.tmps[9]?.getD undef,a.tmps[10]?.getD undef,a.tmps[11]?.getD undef,a.tmps[12]?.getD undef,a.tmps[13]?.getD undef,a.tmps[14]?.getD undef,a.tmps[15]?.getD undef,.bool (decide (zs.getD kk (0,0)=(x,y))),a.tmps[17]?.getD undef,a.tmps[18]?.getD undef],[]⟩:=by
    have hb:=fun t h=>hT.base t h
    have hs:=G9 hT.size;have hd:=hT.defers;obtain⟨T,D⟩:=a;simp only at hs hd hb h16 ⊢;subst hd;congr 1;refine hs.trans ?_;simp only[List.range,List.range.loop,List.map_cons,List.map_nil,h16,hb 0 (by decide),hb 1 (by decide),hb 3 (by decide),hb 4 (by decide),hb 5 (by decide),hb 6 (by decide),hb 7 (by decide),hb 8 (by decide),IxB]
   have hW:=hT.world;generalize a.tmps[2]?.getD undef=j2,a.tmps[9]?.getD undef=j9,a.tmps[10]?.getD undef=j10,a.tmps[11]?.getD undef=j11,a.tmps[12]?.getD undef=j12,a.tmps[13]?.getD undef=j13,a.tmps[14]?.getD undef=j14,a.tmps[15]?.getD undef=j15,a.tmps[17]?.getD undef=j17,a.tmps[18]?.getD undef=j18 at hA;subst hA;clear hT h16 hall;apply vn (N:=5) (t:=decide (zs.getD kk (0,0)=(x,y))) (by simp[Act.eval]);by_cases heq:zs.getD kk (0,0)=(x,y)
   ·simp only[heq,decide_true,if_true];apply eX (N:=4) (M:=0);apply fJ (N:=3);simp only[List.size_toArray,List.length_cons,List.length_nil,Nat.reduceAdd,Nat.zero_add,List.range,List.range.loop];generalize hQ:Exit.then _ _=Q;apply bE rfl rfl (by intro c h;cases h);intro w e1;replace hW:=hW.mv e1;refine⟨fun f ev he=>by have hm:=mem_listed he;simp[go_sem] at hm,?_⟩;simp[Oper.da,go_sem,Act.put];clear e1;apply bE rfl rfl (by intro c h;cases h);intro w e1;replace hW:=hW.mv e1;refine⟨fun f ev he=>by have hm:=mem_listed he;simp[go_sem] at hm,?_⟩;simp[Oper.da,go_sem,Act.put];clear e1;subst hQ;apply eo;apply vm;simp only[Exit.then,Exit.inBlock];refine⟨by simp,by simp,fun w1 e1=>⟨?_,lq hW.bel e1⟩⟩
    have hf:zs.findIdx? (fun z=>z==(x,y))=some kk:=by
     rw[List.findIdx?_eq_some_iff_getElem]
     have hk:kk<zs.length:=by omega
     have e:∀j (h:j<zs.length),zs.getD j (0,0)=zs[j]:=fun j h=>by simp[List.getD_eq_getElem?_getD,h]
     rw[e kk hk] at heq;refine⟨hk,by simpa using heq,fun j hj=>?_⟩;have:=hno j hj;rw[e j (by omega)] at this;simpa using this
    simp[hf]
   ·have hf:decide (zs.getD kk (0,0)=(x,y))=false:=by simpa using heq
    simp only[hf,Bool.false_eq_true,if_false];refine rj (N:=1) ?_ (by decide);apply vl;simp only[Exit.then,Exit.inBlock];apply fJ (N:=3);simp only[List.size_toArray,List.length_cons,List.length_nil,Nat.reduceAdd,Nat.zero_add,List.range,List.range.loop];generalize hQ:Exit.then _ _=Q;apply bE rfl rfl (by intro c h;cases h);intro w e1;replace hW:=hW.mv e1;refine⟨fun f ev he=>by have hm:=mem_listed he;simp[go_sem] at hm,?_⟩;simp[Oper.da,go_sem,Act.put];clear e1;apply bE rfl rfl (by intro c h;cases h);intro w e1;replace hW:=hW.mv e1;refine⟨fun f ev he=>by have hm:=mem_listed he;simp[go_sem] at hm,?_⟩;simp[Oper.da,go_sem,Act.put];clear e1;subst hQ;apply eo
    have hw:IntKind.i64.wrap ((kk:Int)+1)=((kk+1:Nat):Int):=by rw[IntKind.wrap_i64];omega
    rw[hw];refine⟨m-1,by omega,kk+1,fun t=>match t with|2=>j2|5=>.int .i64 kk|9=>j9|10=>j10|11=>j11|12=>j12|13=>j13|14=>j14|15=>j15|16=>.bool false|17=>j17|_=>.int .i64 ((kk+1:Nat):Int),by omega,rfl,hW,fun j hj=>?_⟩
    ·rcases Nat.lt_or_ge j kk with h|h
     ·exact hno j h
     ·obtain rfl:j=kk:=by omega
      exact heq
  ·obtain⟨b,off,rfl,hbF,hc0,hc1⟩:=hW.iv kk (by omega)
   have hz:∀w,IxW F lo A (some ⟨b,off,none⟩) zs x y bx w→w.cell? ⟨b,off+kk*2,none⟩=some (.int .i64 (zs.getD kk (0,0)).1)∧w.cell? ⟨b,off+kk*2+1,none⟩=some (.int .i64 (zs.getD kk (0,0)).2):=fun w hw=>by
    obtain⟨b',off',e,_,h4,h5⟩:=hw.iv kk (by omega);cases e;exact⟨h4,h5⟩
   intro i o ho;have hi:i<6:=(Array.getElem?_eq_some_iff.1 ho).1;generalize hQ:Exit.then _ _=Q
   have q:=fun(t:Nat) h1 h2 h3 h4 h5 h6=>AN (Q:=Q) (r:=none) (P:=prog) (nt:=19) (ds:=[]) (base:=fun t=>t<9∧t≠2) (qs:=fun _=>True) (B:=IxB (some ⟨b,off,none⟩) n cap bx x y kk) (V:=IxV (some ⟨b,off,none⟩) n cap x y zs kk) (W:=IxW F lo A (some ⟨b,off,none⟩) zs x y bx) (fun _ _ _=>True) (fun _ _ h e=>h.mv e) (fun _ _ _ _ _ _=>trivial) (i:=i) (o:=o) (t:=t) (fun _ _ _ _ _=>trivial) ho trivial h1 h2 h3 h4 h5 h6
   match i,ho with
   |0,ho=>
    cases ho
    refine q 11 (by intro c h;cases h) rfl (by decide) (by simp) (iF (by decide)) fun L a w hT _ _ he _=>.inl ⟨rfl,fun f e hev=>?_,?_⟩
    ·have hm:=mem_listed hev;have h3:=hT.base 3 (by decide);simp only[IxB] at h3;simp[go_sem,h3,hT.world.c0,hT.world.c1] at hm
     rcases hm with rfl|rfl<;>exact mP (fun e=>absurd e hT.world.hbx)
    ·have h3:=hT.base 3 (by decide);simp only[IxB] at h3;simp[go_sem,h3,hT.world.c0,hT.world.c1,IxV]
   |1,ho=>
    cases ho
    refine q 12 (by intro c h;cases h) rfl (by decide) (by simp) (iF (by decide)) fun L a w hT _ _ he _=>.inl ⟨rfl,fun f e hev=>?_,?_⟩
    ·have hm:=mem_listed hev;simp[go_sem] at hm
    ·have h3:=hT.base 0 (by decide);simp only[IxB] at h3;simp[go_sem,h3,IxV]
   |2,ho=>
    cases ho
    refine q 13 (by intro c h;cases h) rfl (by decide) (by simp) (iF (by decide)) fun L a w hT _ _ he _=>.inl ⟨rfl,fun f e hev=>?_,?_⟩
    ·have hm:=mem_listed hev;simp[go_sem] at hm
    ·have h3:=hT.base 5 (by decide);simp only[IxB] at h3;simp[go_sem,h3,IxV]
   |3,ho=>
    cases ho
    refine q 14 (by intro c h;cases h) rfl (by decide) (by simp) (iF (by decide)) fun L a w hT _ _ he _=>.inl ?_
    have h1:=hT.run 1 _ 12 rfl rfl trivial (he ⟨1,.data⟩ (by simp) rfl);have h2:=hT.run 2 _ 13 rfl rfl trivial (he ⟨2,.data⟩ (by simp) rfl);simp only[IxV] at h1 h2
    have hk1:(0:Int)≤(kk:Int):=by omega
    have hk2:(kk:Int)<(n:Int):=by omega
    refine⟨rfl,fun f e hev=>?_,?_⟩
    ·have hm:=mem_listed hev;simp[go_sem,h1,h2] at hm;rw[events_indexAt_slice 25 _ _ _ _ _ rfl ⟨hk1,hk2⟩] at hm;simp at hm
    ·simp[go_sem,h1,h2,IxV,hlt]
   |4,ho=>
    cases ho
    refine q 15 (by intro c h;cases h) rfl (by decide) (by simp) (iF (by decide)) fun L a w hT _ _ he _=>.inl ?_
    have h1:=hT.run 3 _ 14 rfl rfl trivial (he ⟨3,.data⟩ (by simp) rfl);simp only[IxV,Option.map_some] at h1;obtain⟨z1,z2⟩:=hz w hT.world;refine⟨rfl,fun f e hev=>?_,?_⟩
    ·have hm:=mem_listed hev;simp[go_sem,h1,z1,z2] at hm
     rcases hm with rfl|rfl<;>exact mP (fun e=>absurd e hbF)
    ·simp only[IxV];generalize (zs.getD kk (0,0)).1=u1,(zs.getD kk (0,0)).2=u2 at z1 z2 ⊢;simp[go_sem,h1,z1,z2]
   |5,ho=>
    cases ho
    refine q 16 (by intro c h;cases h) rfl (by decide) (by simp) (iF (by decide)) fun L a w hT _ _ he _=>.inl ?_
    have h1:=hT.run 0 _ 11 rfl rfl trivial (he ⟨0,.data⟩ (by simp) rfl);have h2:=hT.run 4 _ 15 rfl rfl trivial (he ⟨4,.data⟩ (by simp) rfl);simp only[IxV] at h1 h2 ⊢;have e0:zs.getD kk (0,0)=((zs.getD kk (0,0)).1,(zs.getD kk (0,0)).2):=rfl;rw[e0];generalize (zs.getD kk (0,0)).1=u1,(zs.getD kk (0,0)).2=u2 at h1 h2 ⊢;refine⟨rfl,fun f e hev=>?_,?_⟩
    ·have hm:=mem_listed hev;simp[go_sem,h1,h2,Mr,Ms] at hm
    ·simp[go_sem,h1,h2,eqP];exact bq x y u1 u2
   |i+6,ho=>omega
 ·have hf:decide (kk<n)=false:=by simpa using hlt
  simp only[hf,Bool.false_eq_true,if_false];refine rj (N:=0) ?_ (by decide);apply zN;simp only[Exit.then,Exit.inBlock,if_true];apply eX (N:=3) (M:=0);apply fJ (N:=2);simp only[List.size_toArray,List.length_cons,List.length_nil,Nat.reduceAdd,Nat.zero_add,List.range,List.range.loop];generalize hQ:Exit.then _ _=Q;apply bE rfl rfl (by intro c h;cases h);intro w e1;replace hW:=hW.mv e1;refine⟨fun f ev he=>by have hm:=mem_listed he;simp[go_sem] at hm,?_⟩;simp[Oper.da,go_sem,Act.put];clear e1;subst hQ;apply eo;apply vm;simp only[Exit.then,Exit.inBlock];refine⟨by simp,by simp,fun w1 e1=>⟨?_,lq hW.bel e1⟩⟩
  have hf:zs.findIdx? (fun z=>z==(x,y))=none:=by
   rw[List.findIdx?_eq_none_iff];intro z hz;obtain⟨j,hj,rfl⟩:=List.mem_iff_getElem.1 hz;have:=hno j (by omega)
   have e:zs.getD j (0,0)=zs[j]:=by simp[List.getD_eq_getElem?_getD,hj]
   rw[e] at this;simpa using this
  simp[hf]
def nu(zs:List (Int×Int))(x y:Int):Bool:=zs.any fun z=>z==(x,y)
def qF(n:Nat):Nat:=2+((1+((3+(2+(4+(n*35+35+2+5+1)+1+4+1))+1)+1+1+1)+1)+4+1)
theorem Hc{lo F k:Nat}(hF:F<lo)(n:Nat)(h64:n≤64):∀(a0:Option Addr)(cap:Nat)(zs:List (Int×Int))(x y:Int)(A:World),zs.length=n→lo≤A.heap.size→iu F A a0 zs→@oD (a7 lo F k) prog 107 #[.slice a0 n cap,.agg #[.int .i64 x,.int .i64 y]] (qF n) A fun v w'=>v=.bool (nu zs x y)∧Bel A.heap.size A w':=by
 letI:=a7 lo F k
 intro a0 cap zs x y A hn hlo hp;apply zR func107 rfl rfl (N:=((1+((3+(2+(4+(n*35+35+2+5+1)+1+4+1))+1)+1+1+1)+1)+4+1));simp only[Tryz.f107,List.size_toArray,List.length_cons,List.length_nil,Nat.reduceAdd,Nat.reduceSub,Array.replicate_succ,Array.replicate_zero,List.push_toArray,List.append_toArray,List.nil_append,List.cons_append];apply eX (N:=4) (M:=(1+((3+(2+(4+(n*35+35+2+5+1)+1+4+1))+1)+1+1+1)+1));apply fJ;simp only[List.size_toArray,List.length_cons,List.length_nil,Nat.reduceAdd,Nat.zero_add,List.range,List.range.loop];generalize hQ:Exit.then _ _=Q;apply bE rfl rfl (by intro c h;cases h);intro w1 e1;refine⟨fun f ev he=>?_,?_⟩
 ·have hm:=mem_listed he;simp[go_sem] at hm
 simp[Oper.da,go_sem,Act.put];have hb1:Bel A.heap.size A w1:=e1
 have hW:IxW F lo A a0 zs x y w1.heap.size (w1.alloc (.cells #[.int .i64 x,.int .i64 y] 120)):=by
  have hal:Bel w1.heap.size w1 (w1.alloc (.cells #[.int .i64 x,.int .i64 y] 120)):=(Bel.refl _ _).alloc (Nat.le_refl _) _;have hs:=hb1.size;refine⟨lq hb1 hal,(hp.bel hb1).bel hal,?_,?_,by omega⟩
  ·exact pE w1 #[.int .i64 x,.int .i64 y] 120 0
  ·exact pE w1 #[.int .i64 x,.int .i64 y] 120 1
 generalize w1.heap.size=bx at hW ⊢;generalize (w1.alloc (.cells #[.int .i64 x,.int .i64 y] 120))=w at hW ⊢;clear hb1 e1 hp;apply bE rfl rfl (by intro c h;cases h);intro w e1;replace hW:=hW.mv e1;refine⟨fun f ev he=>by have hm:=mem_listed he;simp[go_sem] at hm,?_⟩;simp[Oper.da,go_sem,Act.put];clear e1;subst hQ;apply eo;apply eX (N:=((3+(2+(4+(n*35+35+2+5+1)+1+4+1))+1)+1+1+1)) (M:=1);apply fJ (N:=(3+(2+(4+(n*35+35+2+5+1)+1+4+1))+1)+1+1);simp only[List.size_toArray,List.length_cons,List.length_nil,Nat.reduceAdd,Nat.zero_add,List.range,List.range.loop];generalize hQ:Exit.then _ _=Q;apply bE rfl rfl (by intro c h;cases h);intro w e1;replace hW:=hW.mv e1;refine⟨fun f ev he=>by have hm:=mem_listed he;simp[go_sem] at hm,?_⟩;simp[Oper.da,go_sem,Act.put];clear e1;apply bE rfl rfl (by intro c h;cases h);intro w e1;replace hW:=hW.mv e1;have hc0:=hW.c0;have hc1:=hW.c1;refine⟨fun f ev he=>?_,?_⟩
 ·have hm:=mem_listed he;simp[go_sem,hc0,hc1] at hm
  rcases hm with rfl|rfl<;>exact mP (fun e=>absurd e hW.hbx)
 simp[Oper.da,go_sem,Act.put,hc0,hc1];clear e1 hc0 hc1
 refine zQ (N:=(2+(4+(n*35+35+2+5+1)+1+4+1))) (M:=3) (f:=133) (args:=#[.slice a0 n cap,.agg #[.int .i64 x,.int .i64 y]]) rfl rfl (by intro c h;cases h) fun w e1=>?_
 replace hW:=hW.mv e1;refine⟨fun f ev he=>?_,?_,?_⟩
 ·have hm:=mem_listed he;simp[go_sem] at hm
 ·simp[go_sem]
 refine zM (Hb hF n h64 a0 cap zs x y w hn ?_ hW.iv) ?_
 ·have:=hW.bel.size;omega
 rintro v w' ⟨rfl,hb⟩
 replace hW:=hW.mv hb;simp only[Act.put];apply bE rfl rfl (by intro c h;cases h);intro w e1;replace hW:=hW.mv e1;refine⟨fun f ev he=>by have hm:=mem_listed he;simp[go_sem] at hm,?_⟩;simp[Oper.da,go_sem,Act.put];clear e1;apply bE rfl rfl (by intro c h;cases h);intro w e1;replace hW:=hW.mv e1;refine⟨fun f ev he=>by have hm:=mem_listed he;simp[go_sem] at hm,?_⟩;simp[Oper.da,go_sem,Act.put];clear e1;subst hQ;apply eo;refine rj (N:=0) ?_ (by decide);apply vm;refine⟨.inr rfl,rfl,fun w1 e1=>⟨?_,lq hW.bel e1⟩⟩;show Value.bool _=_;congr 1;unfold nu
 cases hx:zs.findIdx? (fun z=>z==(x,y)) with
 |none=>
  rw[List.findIdx?_eq_none_iff] at hx;rw[List.any_eq_false.2 fun z hz=>by rw[hx z hz];simp];rfl
 |some i=>
  rw[List.findIdx?_eq_some_iff_getElem] at hx;obtain⟨h,hz,_⟩:=hx;rw[List.any_eq_true.2 ⟨_,List.getElem_mem h,hz⟩];simp
structure WkD where
 F:Nat
 i:Nat
 lo:Nat
 rb:Nat
 xv:Nat
 xb:Nat
 ib:Nat
 ob:Nat
 ca:Option Addr
 gI:Nat
 ab:List (ByteArray×Int×Bool)
 fa:Option Addr
 ju:Nat
 zs:List (Int×Int)
 n:Nat
 yP:Nat
 qG:Int
 kn:Bool
def oM(F lo:Nat)(w:World)(a0:Option Addr)(cs:List (ByteArray×Int×Bool)):Prop:=
 ∀j,j<cs.length→∃b off,a0=some ⟨b,off,none⟩∧b≠F∧b<lo∧w.cell? ⟨b,off+j*3,none⟩=some (.string (cs.getD j (default,0,false)).1)∧w.cell? ⟨b,off+j*3+1,none⟩=some (.int .i64 (cs.getD j (default,0,false)).2.1) ∧
  w.cell? ⟨b,off+j*3+2,none⟩=some (.bool (cs.getD j (default,0,false)).2.2)
structure WkW(d:WkD)(w:World):Prop where
 size:d.lo≤w.heap.size
 low:d.F<d.lo∧d.rb<d.lo∧d.xv<d.lo∧d.xb<d.lo∧d.ib<d.lo∧d.ob<d.lo
 apart:d.rb≠d.F∧d.xv≠d.F∧d.xb≠d.F∧d.ib≠d.F∧d.ob≠d.F
 oN:w.cell? ⟨d.rb,0,none⟩=some (.slice d.ca d.ab.length d.gI)
 ny:w.cell? ⟨d.rb,3,none⟩=some (.slice d.fa d.zs.length d.ju)
 xvc:w.cell? ⟨d.xv,0,none⟩=some (.pointer (some ⟨d.xb,0,none⟩))
 ky:w.cell? ⟨d.xb,4,none⟩=some (.slice (some ⟨d.F,0,none⟩) d.n d.yP)
 ibc:w.cell? ⟨d.ib,0,none⟩=some (.int .i64 d.i)
 ob1:w.cell? ⟨d.ob,1,none⟩=some (.int .i64 d.qG)
 ob2:w.cell? ⟨d.ob,2,none⟩=some (.bool d.kn)
 ab:oM d.F d.lo w d.ca d.ab
 iv:iu d.F w d.fa d.zs
 nz:∀j,j<d.zs.length→∀ad,d.fa=some ad→ad.block<d.lo
theorem oM.bel{F lo:Nat}{w w1:World}{a0:Option Addr}{cs:List (ByteArray×Int×Bool)}(h:oM F lo w a0 cs)(e:Bel lo w w1):oM F lo w1 a0 cs:=
 fun j hj=>let ⟨b,off,h1,h2,h3,h4,h5,h6⟩:=h j hj;⟨b,off,h1,h2,h3,(e.cell (p:=⟨b,_,none⟩) h3).trans h4,(e.cell (p:=⟨b,_,none⟩) h3).trans h5,(e.cell (p:=⟨b,_,none⟩) h3).trans h6⟩
def fP(d:WkD)(w:World)(v:Value):Prop:=∃cF,w.heap[d.F]?=some (.cells cF 136)∧d.i<cF.size∧cF[d.i]?=some v
def eI(d:WkD)(w:World)(v:Value)(l:List Bool):Prop:=w.ownsRow d.lo 4 1 v l.length (l.map Value.bool)
theorem fP.mv{d:WkD}{w w1:World}{v:Value}(h:fP d w v)(e:Bel w.heap.size w w1):fP d w1 v:=
 let ⟨c,h1,h2⟩:=h;⟨c,(e.block _ (Array.getElem?_eq_some_iff.1 h1).1).trans h1,h2⟩
theorem fP.cell{d:WkD}{w:World}{v:Value}(h:fP d w v):w.cell? ⟨d.F,d.i,none⟩=some v:=by
 obtain⟨c,h1,_,h3⟩:=h;unfold World.cell?;rw[h1];exact h3
theorem eI.mv{d:WkD}{w w1:World}{v:Value}{l:List Bool}(h:eI d w v l)(e:Bel w.heap.size w w1):eI d w1 v l:=by
 refine⟨h.1,h.2.imp id ?_⟩
 rintro⟨g,cap,cur,a1,a2,a3,a4⟩
 exact⟨g,cap,cur,a1,a2,(e.block _ (Array.getElem?_eq_some_iff.1 a3).1).trans a3,a4⟩
def yQ(d:WkD)(k:Nat):Bool:=(decide ((d.ab.getD k (default,0,false)).2.1≥d.qG)&&((d.ab.getD k (default,0,false)).2.2 || !d.kn)) && !nu d.zs d.i k
noncomputable def jv:Code:=match Tryz.f113.body with
 |some (.seq _ c)=>c
 |_=>.skip
theorem iu.low{F lo:Nat}{w w1:World}{a0:Option Addr}{zs:List (Int×Int)}(h:iu F w a0 zs)(hlo:∀j,j<zs.length→∀ad,a0=some ad→ad.block<lo)(e:Bel lo w w1):iu F w1 a0 zs:=
 fun j hj=>let ⟨b,off,h1,h3,h4,h5⟩:=h j hj
  have hb:b<lo:=hlo j hj _ h1
  ⟨b,off,h1,h3,(e.cell (p:=⟨b,_,none⟩) hb).trans h4,(e.cell (p:=⟨b,_,none⟩) hb).trans h5⟩
theorem WkW.uj{d:WkD}{w w1:World}(h:WkW d w)(e:Bel d.lo w w1):WkW d w1:=by
 have c:∀{b o:Nat}{v:Value},b<d.lo→w.cell? ⟨b,o,none⟩=some v→w1.cell? ⟨b,o,none⟩=some v:=fun hb hv=>(e.cell (p:=⟨_,_,none⟩) hb).trans hv
 obtain⟨l1,l2,l3,l4,l5,l6⟩:=h.low;exact⟨Nat.le_trans h.size e.size,h.low,h.apart,c l2 h.oN,c l2 h.ny,c l3 h.xvc,c l4 h.ky,c l5 h.ibc,c l6 h.ob1,c l6 h.ob2,h.ab.bel e,h.iv.low h.nz e,h.nz⟩
theorem WkW.mvF{d:WkD}{w w1:World}(h:WkW d w)(hs:w.heap.size≤w1.heap.size)(e:∀b,b≠d.F→w1.heap[b]?=w.heap[b]?):WkW d w1:=by
 have c:∀{b o:Nat}{v:Value},b≠d.F→w.cell? ⟨b,o,none⟩=some v→w1.cell? ⟨b,o,none⟩=some v:=fun hb hv=>(World.cell?_of_block (a:=⟨_,_,none⟩) (e _ hb)).trans hv
 obtain⟨l2,l3,l4,l5,l6⟩:=h.apart;refine⟨Nat.le_trans h.size hs,h.low,h.apart,c l2 h.oN,c l2 h.ny,c l3 h.xvc,c l4 h.ky,c l5 h.ibc,c l6 h.ob1,c l6 h.ob2,fun j hj=>?_,fun j hj=>?_,h.nz⟩
 ·obtain⟨b,off,a1,a2,a3,a4,a5,a6⟩:=h.ab j hj;exact⟨b,off,a1,a2,a3,c a2 a4,c a2 a5,c a2 a6⟩
 ·obtain⟨b,off,a1,a2,a3,a4⟩:=h.iv j hj;exact⟨b,off,a1,a2,c a2 a3,c a2 a4⟩
theorem WkW.mv{d:WkD}{w w1:World}(h:WkW d w)(e:Bel w.heap.size w w1):WkW d w1:=h.uj (e.mono h.size)
theorem WkW.drew{d:WkD}{w:World}{k:Nat}(h:WkW d w):WkW d { w with drawn:=k }:=h.uj ⟨rfl,rfl,Nat.le_refl _,fun _ _=>rfl⟩
noncomputable def bP:Array Oper:=match Tryz.f113.body with
 |some (.seq _ (.seq _ (.block _ (.loop (.seq _ (.seq _ (.seq (.block _ (.seq _ (.region _ o _))) _)))))))=>o
 |_=>#[]
structure RdD extends WkD where
 cb:Nat
 kk:Nat
 wg:Nat
 name:ByteArray
 cs:Int
 cc:Bool
 hd:Value
def RdD.p(d:RdD):Bool:=decide (d.cs≥d.qG)
def RdD.g(d:RdD):Bool:=d.p&&(d.cc || !d.kn)
def RdD.h(d:RdD):Bool:=nu d.zs d.i d.kk
def fz(d:RdD)(t:Nat):Value:=match t with
 |0=>.pointer (some ⟨d.wg,0,none⟩)|1=>.pointer (some ⟨d.rb,0,none⟩)|2=>.pointer (some ⟨d.xv,0,none⟩)|3=>.pointer (some ⟨d.ib,0,none⟩)|4=>.pointer (some ⟨d.ob,0,none⟩)
 |5=>.int .i64 d.kk|6=>.pointer (some ⟨d.cb,0,none⟩)|8=>.slice d.ca d.ab.length d.gI|9=>.int .i64 d.ab.length|10=>.int .i64 d.kk|_=>undef
def aM(d:RdD)(t:Nat):Value:=match t with
 |15|16|20|21=>.pointer (some ⟨d.xb,0,none⟩)
 |17|22=>.pointer (some ⟨d.xb,4,none⟩)
 |18|23=>.slice (some ⟨d.F,0,none⟩) d.n d.yP
 |19|24=>.int .i64 d.i
 |25=>.pointer (some ⟨d.F,d.i,none⟩)
 |26=>d.hd
 |27=>.pointer (some ⟨d.cb,1,none⟩)
 |28=>.int .i64 d.cs
 |29=>.pointer (some ⟨d.ob,1,none⟩)
 |30=>.int .i64 d.qG
 |31|32=>.bool d.p
 |33=>if d.p then .pointer (some ⟨d.cb,2,none⟩) else undef
 |34|35=>if d.p then .bool d.cc else undef
 |36=>if d.p && !d.cc then .pointer (some ⟨d.ob,2,none⟩) else undef
 |37=>if d.p && !d.cc then .bool d.kn else undef
 |38=>if d.p && !d.cc then .bool (!d.kn) else undef
 |39=>if d.p then .bool (d.cc || !d.kn) else undef
 |40|41=>.bool d.g
 |42=>if d.g then .pointer (some ⟨d.rb,3,none⟩) else undef
 |43=>if d.g then .slice d.fa d.zs.length d.ju else undef
 |44=>if d.g then .int .i64 d.i else undef
 |45=>if d.g then .int .i64 d.kk else undef
 |46=>if d.g then .agg #[.int .i64 d.i,.int .i64 d.kk] else undef
 |47=>if d.g then .bool d.h else undef
 |48=>if d.g then .bool (!d.h) else undef
 |49=>.bool (d.g && !d.h)
 |_=>undef
structure RdW(d:RdD)(w:World):Prop where
 wk:WkW d.toWkD w
 i:d.i<d.n
 cb0:d.lo≤d.cb
 cb1:w.cell? ⟨d.cb,1,none⟩=some (.int .i64 d.cs)
 cb2:w.cell? ⟨d.cb,2,none⟩=some (.bool d.cc)
abbrev Base(t:Nat):Prop:=t<11∧t≠7
abbrev Qs(i:Nat):Prop:=i≤34
theorem Ey(x y:Int)(w:World):(Instr.build 120 #[(0,.int .i64 x),(1,.int .i64 y)]).run prog w=.ok (.agg #[.int .i64 x,.int .i64 y]) w:=by
 unfold Instr.build;simp[go_sem,Instr.fill]
theorem Ez(x y:Int)(w:World)(es:Array Event):(Instr.build 120 #[(0,.int .i64 x),(1,.int .i64 y)]).events prog w es=es:=by
 unfold Instr.build;simp[go_sem,Instr.fill]
abbrev TQ(d:RdD)(ds:List Deferred)(L:Array Bool)(a:Act)(w:World):Prop:=dZ (RdW d) 54 ds bP Base Qs (fz d) (aM d) L a w
abbrev HE(o:Oper)(L:Array Bool):Prop:=∀e∈o.after,Region.binds .any e=true→L.getD e.on false=true
abbrev QC(d:RdD)(o:Oper)(t:Nat)(a:Act)(w:World):Prop:=(Region.wanted o (yielded bP a.tmps)=true∧(∀f,∀e∈listed prog f a o w,EvD d.lo d.F d.i e)∧(execOp a.eval o).run prog w=.ok (.value (aM d t)) w)∨(Region.wanted o (yielded bP a.tmps)=false∧aM d t=undef)
section
variable{d:RdD}{ds:List Deferred}{L:Array Bool}{a:Act}{w:World}
theorem RdW.mv{w w1:World}(h:RdW d w)(e:Bel w.heap.size w w1):RdW d w1:=⟨h.wk.mv e,h.i,h.cb0,e.cellAt h.cb1,e.cellAt h.cb2⟩
theorem RdW.drew{w:World}{k:Nat}(h:RdW d w):RdW d { w with drawn:=k }:=⟨h.wk.drew,h.i,h.cb0,h.cb1,h.cb2⟩
theorem RdW.cbF{w:World}(h:RdW d w):d.cb≠d.F:=by have:=h.wk.low.1;have:=h.cb0;omega
abbrev yR:Oper:=⟨some 15,(.load 92 (.tmp 2)),92, "dispatch.go:122",#[],none⟩
theorem Mt(hT:TQ d ds L a w)(he:HE yR L):QC d yR 15 a w:=by
 have hw:=hT.world;have s2:=hT.base 2 (by decide);simp only[fz] at s2;left;refine⟨rfl,fun f e hev=>?_,?_⟩
 ·have hm:=mem_listed hev;simp[go_sem,s2,hw.wk.xvc] at hm;subst hm;exact gz hw.wk.apart.2.1
 ·simp[go_sem,s2,hw.wk.xvc,aM]
abbrev yS:Oper:=⟨some 16,(.nilCheck (.tmp 15)),0, "dispatch.go:122",#[⟨0,.data⟩],none⟩
theorem Mu(hT:TQ d ds L a w)(he:HE yS L):QC d yS 16 a w:=by
 have hw:=hT.world;have s15:=hT.run 0 _ 15 rfl rfl (by decide) (he ⟨0,.data⟩ (by simp) rfl);simp only[aM] at s15;left;refine⟨rfl,fun f e hev=>?_,?_⟩
 ·have hm:=mem_listed hev;simp[go_sem,s15] at hm
 ·simp[go_sem,s15,aM]
abbrev yT:Oper:=⟨some 17,(.fieldAddr 105 (.tmp 16) 1),0, "dispatch.go:122",#[⟨1,.data⟩],none⟩
theorem Mv(hT:TQ d ds L a w)(he:HE yT L):QC d yT 17 a w:=by
 have hw:=hT.world;have s16:=hT.run 1 _ 16 rfl rfl (by decide) (he ⟨1,.data⟩ (by simp) rfl);simp only[aM] at s16;left;refine⟨rfl,fun f e hev=>?_,?_⟩
 ·have hm:=mem_listed hev;simp[go_sem,s16] at hm
 ·simp[go_sem,s16,aM]
abbrev yU:Oper:=⟨some 18,(.load 103 (.tmp 17)),103, "dispatch.go:122",#[⟨2,.data⟩],none⟩
theorem Mw(hT:TQ d ds L a w)(he:HE yU L):QC d yU 18 a w:=by
 have hw:=hT.world;have s17:=hT.run 2 _ 17 rfl rfl (by decide) (he ⟨2,.data⟩ (by simp) rfl);simp only[aM] at s17;left;refine⟨rfl,fun f e hev=>?_,?_⟩
 ·have hm:=mem_listed hev;simp[go_sem,s17,hw.wk.ky] at hm;subst hm;exact gz hw.wk.apart.2.2.1
 ·simp[go_sem,s17,hw.wk.ky,aM]
abbrev yV:Oper:=⟨some 19,(.load 3 (.tmp 3)),3, "dispatch.go:122",#[],none⟩
theorem Mx(hT:TQ d ds L a w)(he:HE yV L):QC d yV 19 a w:=by
 have hw:=hT.world;have s3:=hT.base 3 (by decide);simp only[fz] at s3;left;refine⟨rfl,fun f e hev=>?_,?_⟩
 ·have hm:=mem_listed hev;simp[go_sem,s3,hw.wk.ibc] at hm;subst hm;exact gz hw.wk.apart.2.2.2.1
 ·simp[go_sem,s3,hw.wk.ibc,aM]
abbrev yW:Oper:=⟨some 20,(.load 92 (.tmp 2)),92, "dispatch.go:122",#[],none⟩
theorem My(hT:TQ d ds L a w)(he:HE yW L):QC d yW 20 a w:=by
 have hw:=hT.world;have s2:=hT.base 2 (by decide);simp only[fz] at s2;left;refine⟨rfl,fun f e hev=>?_,?_⟩
 ·have hm:=mem_listed hev;simp[go_sem,s2,hw.wk.xvc] at hm;subst hm;exact gz hw.wk.apart.2.1
 ·simp[go_sem,s2,hw.wk.xvc,aM]
abbrev yX:Oper:=⟨some 21,(.nilCheck (.tmp 20)),0, "dispatch.go:122",#[⟨5,.data⟩],none⟩
theorem Mz(hT:TQ d ds L a w)(he:HE yX L):QC d yX 21 a w:=by
 have hw:=hT.world;have s20:=hT.run 5 _ 20 rfl rfl (by decide) (he ⟨5,.data⟩ (by simp) rfl);simp only[aM] at s20;left;refine⟨rfl,fun f e hev=>?_,?_⟩
 ·have hm:=mem_listed hev;simp[go_sem,s20] at hm
 ·simp[go_sem,s20,aM]
abbrev yY:Oper:=⟨some 22,(.fieldAddr 105 (.tmp 21) 1),0, "dispatch.go:122",#[⟨6,.data⟩],none⟩
theorem MA(hT:TQ d ds L a w)(he:HE yY L):QC d yY 22 a w:=by
 have hw:=hT.world;have s21:=hT.run 6 _ 21 rfl rfl (by decide) (he ⟨6,.data⟩ (by simp) rfl);simp only[aM] at s21;left;refine⟨rfl,fun f e hev=>?_,?_⟩
 ·have hm:=mem_listed hev;simp[go_sem,s21] at hm
 ·simp[go_sem,s21,aM]
abbrev yZ:Oper:=⟨some 23,(.load 103 (.tmp 22)),103, "dispatch.go:122",#[⟨7,.data⟩],none⟩
theorem MB(hT:TQ d ds L a w)(he:HE yZ L):QC d yZ 23 a w:=by
 have hw:=hT.world;have s22:=hT.run 7 _ 22 rfl rfl (by decide) (he ⟨7,.data⟩ (by simp) rfl);simp only[aM] at s22;left;refine⟨rfl,fun f e hev=>?_,?_⟩
 ·have hm:=mem_listed hev;simp[go_sem,s22,hw.wk.ky] at hm;subst hm;exact gz hw.wk.apart.2.2.1
 ·simp[go_sem,s22,hw.wk.ky,aM]
abbrev y9:Oper:=⟨some 24,(.load 3 (.tmp 3)),3, "dispatch.go:122",#[],none⟩
theorem MD(hT:TQ d ds L a w)(he:HE y9 L):QC d y9 24 a w:=by
 have hw:=hT.world;have s3:=hT.base 3 (by decide);simp only[fz] at s3;left;refine⟨rfl,fun f e hev=>?_,?_⟩
 ·have hm:=mem_listed hev;simp[go_sem,s3,hw.wk.ibc] at hm;subst hm;exact gz hw.wk.apart.2.2.2.1
 ·simp[go_sem,s3,hw.wk.ibc,aM]
abbrev wi:Oper:=⟨some 25,(.indexAddr 103 (.tmp 23) (.tmp 24)),0, "dispatch.go:122",#[⟨8,.data⟩,⟨9,.data⟩],none⟩
theorem ME(hT:TQ d ds L a w)(he:HE wi L):QC d wi 25 a w:=by
 have hw:=hT.world;have s23:=hT.run 8 _ 23 rfl rfl (by decide) (he ⟨8,.data⟩ (by simp) rfl);simp only[aM] at s23;have s24:=hT.run 9 _ 24 rfl rfl (by decide) (he ⟨9,.data⟩ (by simp) rfl);simp only[aM] at s24;left;refine⟨rfl,fun f e hev=>?_,?_⟩
 ·have hm:=mem_listed hev;simp[go_sem,s23,s24] at hm;rw[events_indexAt_slice 103 _ _ _ _ _ rfl ⟨Int.natCast_nonneg _,by have:=hw.i;omega⟩] at hm;simp at hm
 ·have hi:=hw.i;simp[go_sem,s23,s24,aM,hi]
abbrev nX:Oper:=⟨some 26,(.load 136 (.tmp 25)),136, "dispatch.go:122",#[⟨10,.data⟩],none⟩
theorem MF(hT:dZ (RdW d) 54 ds bP Base Qs (fz d) (aM d) L a w)(hfit:w.cell? ⟨d.F,d.i,none⟩=some d.hd)(he:∀e∈nX.after,Region.binds .any e=true→L.getD e.on false=true):(Region.wanted nX (yielded bP a.tmps)=true∧(∀f,∀e∈listed prog f a nX w,EvD d.lo d.F d.i e)∧(execOp a.eval nX).run prog w=.ok (.value (aM d 26)) w)∨(Region.wanted nX (yielded bP a.tmps)=false∧aM d 26=undef):=by
 have hw:=hT.world;have s25:=hT.run 10 _ 25 rfl rfl (by decide) (he ⟨10,.data⟩ (by simp) rfl);simp only[aM] at s25;left;refine⟨rfl,fun f e hev=>?_,?_⟩
 ·have hm:=mem_listed hev;simp[go_sem,s25,hfit] at hm;subst hm
  exact mP fun _=>rfl
 ·simp[go_sem,s25,hfit,aM]
abbrev wj:Oper:=⟨some 27,(.fieldAddr 89 (.tmp 6) 1),0, "dispatch.go:122",#[],none⟩
theorem MG(hT:TQ d ds L a w)(he:HE wj L):QC d wj 27 a w:=by
 have hw:=hT.world;have s6:=hT.base 6 (by decide);simp only[fz] at s6;left;refine⟨rfl,fun f e hev=>?_,?_⟩
 ·have hm:=mem_listed hev;simp[go_sem,s6] at hm
 ·simp[go_sem,s6,aM]
abbrev wm:Oper:=⟨some 28,(.load 3 (.tmp 27)),3, "dispatch.go:122",#[⟨12,.data⟩],none⟩
theorem MH(hT:TQ d ds L a w)(he:HE wm L):QC d wm 28 a w:=by
 have hw:=hT.world;have s27:=hT.run 12 _ 27 rfl rfl (by decide) (he ⟨12,.data⟩ (by simp) rfl);simp only[aM] at s27;left;refine⟨rfl,fun f e hev=>?_,?_⟩
 ·have hm:=mem_listed hev;simp[go_sem,s27,hw.cb1] at hm;subst hm;exact gz hw.cbF
 ·simp[go_sem,s27,hw.cb1,aM]
abbrev wo:Oper:=⟨some 29,(.fieldAddr 91 (.tmp 4) 1),0, "dispatch.go:122",#[],none⟩
theorem MJ(hT:TQ d ds L a w)(he:HE wo L):QC d wo 29 a w:=by
 have hw:=hT.world;have s4:=hT.base 4 (by decide);simp only[fz] at s4;left;refine⟨rfl,fun f e hev=>?_,?_⟩
 ·have hm:=mem_listed hev;simp[go_sem,s4] at hm
 ·simp[go_sem,s4,aM]
abbrev wq:Oper:=⟨some 30,(.load 3 (.tmp 29)),3, "dispatch.go:122",#[⟨14,.data⟩],none⟩
theorem MK(hT:TQ d ds L a w)(he:HE wq L):QC d wq 30 a w:=by
 have hw:=hT.world;have s29:=hT.run 14 _ 29 rfl rfl (by decide) (he ⟨14,.data⟩ (by simp) rfl);simp only[aM] at s29;left;refine⟨rfl,fun f e hev=>?_,?_⟩
 ·have hm:=mem_listed hev;simp[go_sem,s29,hw.wk.ob1] at hm;subst hm;exact gz hw.wk.apart.2.2.2.2
 ·simp[go_sem,s29,hw.wk.ob1,aM]
abbrev wx:Oper:=⟨some 31,(.binOp .geq 3 (.tmp 28) (.tmp 30) 3),4, "dispatch.go:122",#[⟨13,.data⟩,⟨15,.data⟩],none⟩
theorem ML(hT:TQ d ds L a w)(he:HE wx L):QC d wx 31 a w:=by
 have hw:=hT.world;have s28:=hT.run 13 _ 28 rfl rfl (by decide) (he ⟨13,.data⟩ (by simp) rfl);simp only[aM] at s28;have s30:=hT.run 15 _ 30 rfl rfl (by decide) (he ⟨15,.data⟩ (by simp) rfl);simp only[aM] at s30;left;refine⟨rfl,fun f e hev=>?_,?_⟩
 ·have hm:=mem_listed hev;simp[go_sem,s28,s30] at hm
 ·simp[go_sem,s28,s30,aM,RdD.p]
abbrev wy:Oper:=⟨some 32,(.move (.tmp 31)),4, "dispatch.go:122",#[⟨16,.data⟩],none⟩
theorem MM(hT:TQ d ds L a w)(he:HE wy L):QC d wy 32 a w:=by
 have hw:=hT.world;have s31:=hT.run 16 _ 31 rfl rfl (by decide) (he ⟨16,.data⟩ (by simp) rfl);simp only[aM] at s31;left;refine⟨rfl,fun f e hev=>?_,?_⟩
 ·have hm:=mem_listed hev;simp[go_sem,s31] at hm
 ·simp[go_sem,s31,aM]
abbrev rY:Oper:=⟨some 33,(.fieldAddr 89 (.tmp 6) 2),0, "dispatch.go:122",#[⟨17,.guard⟩],(some (17,true))⟩
theorem MN(hT:TQ d ds L a w)(he:HE rY L):QC d rY 33 a w:=by
 unfold QC;have hw:=hT.world;have s6:=hT.base 6 (by decide);simp only[fz] at s6;have sg:=hT.run 17 _ 32 rfl rfl (by decide) (he ⟨17,.guard⟩ (by simp) rfl);simp only[aM] at sg;have hwg:=ga (ops:=bP) (o:=rY) (tmps:=a.tmps) (j:=17) (t:=32) (want:=true) rfl rfl sg;obtain⟨bp,hp⟩:∃b,b=d.p:=⟨_,rfl⟩;simp only[aM,←hp] at *;cases bp
 all_goals simp only[isB,Bool.false_eq_true,if_true,if_false,Bool.and_true,Bool.and_false,Bool.true_and,Bool.false_and,Bool.not_true,Bool.not_false,Bool.or_true,Bool.or_false,Bool.true_or,Bool.false_or] at *
 all_goals first
  |(right;exact⟨hwg,rfl⟩)
  |(right;exact hwg)
  |(right;exact⟨hwg,trivial⟩)
  |(left
    refine⟨hwg,fun f e hev=>?_,?_⟩
    ·have hm:=mem_listed hev;simp[go_sem,s6] at hm
    ·simp[go_sem,s6,aM])
abbrev rZ:Oper:=⟨some 34,(.load 4 (.tmp 33)),4, "dispatch.go:122",#[⟨18,.data⟩,⟨17,.guard⟩],(some (17,true))⟩
theorem MP(hT:TQ d ds L a w)(he:HE rZ L):QC d rZ 34 a w:=by
 unfold QC;have hw:=hT.world;have s33:=hT.run 18 _ 33 rfl rfl (by decide) (he ⟨18,.data⟩ (by simp) rfl);simp only[aM] at s33;have sg:=hT.run 17 _ 32 rfl rfl (by decide) (he ⟨17,.guard⟩ (by simp) rfl);simp only[aM] at sg;have hwg:=ga (ops:=bP) (o:=rZ) (tmps:=a.tmps) (j:=17) (t:=32) (want:=true) rfl rfl sg;obtain⟨bp,hp⟩:∃b,b=d.p:=⟨_,rfl⟩;simp only[aM,←hp] at *;cases bp
 all_goals simp only[isB,Bool.false_eq_true,if_true,if_false,Bool.and_true,Bool.and_false,Bool.true_and,Bool.false_and,Bool.not_true,Bool.not_false,Bool.or_true,Bool.or_false,Bool.true_or,Bool.false_or] at *
 all_goals first
  |(right;exact⟨hwg,rfl⟩)
  |(right;exact hwg)
  |(right;exact⟨hwg,trivial⟩)
  |(left
    refine⟨hwg,fun f e hev=>?_,?_⟩
    ·have hm:=mem_listed hev;simp[go_sem,s33,hw.cb2] at hm;subst hm;exact gz hw.cbF
    ·simp[go_sem,s33,hw.cb2,aM])
abbrev r5:Oper:=⟨some 35,(.move (.tmp 34)),4, "dispatch.go:122",#[⟨19,.data⟩,⟨17,.chain⟩,⟨17,.guard⟩],(some (17,true))⟩
theorem MQ(hT:TQ d ds L a w)(he:HE r5 L):QC d r5 35 a w:=by
 unfold QC;have hw:=hT.world;have s34:=hT.run 19 _ 34 rfl rfl (by decide) (he ⟨19,.data⟩ (by simp) rfl);simp only[aM] at s34;have sg:=hT.run 17 _ 32 rfl rfl (by decide) (he ⟨17,.guard⟩ (by simp) rfl);simp only[aM] at sg;have hwg:=ga (ops:=bP) (o:=r5) (tmps:=a.tmps) (j:=17) (t:=32) (want:=true) rfl rfl sg;obtain⟨bp,hp⟩:∃b,b=d.p:=⟨_,rfl⟩;simp only[aM,←hp] at *;cases bp
 all_goals simp only[isB,Bool.false_eq_true,if_true,if_false,Bool.and_true,Bool.and_false,Bool.true_and,Bool.false_and,Bool.not_true,Bool.not_false,Bool.or_true,Bool.or_false,Bool.true_or,Bool.false_or] at *
 all_goals first
  |(right;exact⟨hwg,rfl⟩)
  |(right;exact hwg)
  |(right;exact⟨hwg,trivial⟩)
  |(left
    refine⟨hwg,fun f e hev=>?_,?_⟩
    ·have hm:=mem_listed hev;simp[go_sem,s34] at hm
    ·simp[go_sem,s34,aM])
abbrev r6:Oper:=⟨some 36,(.fieldAddr 91 (.tmp 4) 2),0, "dispatch.go:122",#[⟨20,.guard⟩],(some (20,false))⟩
theorem MR(hT:TQ d ds L a w)(he:HE r6 L):QC d r6 36 a w:=by
 unfold QC;have hw:=hT.world;have s4:=hT.base 4 (by decide);simp only[fz] at s4;have sg:=hT.run 20 _ 35 rfl rfl (by decide) (he ⟨20,.guard⟩ (by simp) rfl);simp only[aM] at sg;have hwg:=ga (ops:=bP) (o:=r6) (tmps:=a.tmps) (j:=20) (t:=35) (want:=false) rfl rfl sg;obtain⟨bp,hp⟩:∃b,b=d.p:=⟨_,rfl⟩;obtain⟨bcc,hcc⟩:∃b,b=d.cc:=⟨_,rfl⟩;simp only[aM,←hp,←hcc] at *
 cases bp<;>cases bcc
 all_goals simp only[isB,Bool.false_eq_true,if_true,if_false,Bool.and_true,Bool.and_false,Bool.true_and,Bool.false_and,Bool.not_true,Bool.not_false,Bool.or_true,Bool.or_false,Bool.true_or,Bool.false_or] at *
 all_goals first
  |(right;exact⟨hwg,rfl⟩)
  |(right;exact hwg)
  |(right;exact⟨hwg,trivial⟩)
  |(left
    refine⟨hwg,fun f e hev=>?_,?_⟩
    ·have hm:=mem_listed hev;simp[go_sem,s4] at hm
    ·simp[go_sem,s4,aM])
abbrev r7:Oper:=⟨some 37,(.load 4 (.tmp 36)),4, "dispatch.go:122",#[⟨21,.data⟩,⟨20,.guard⟩],(some (20,false))⟩
theorem MS(hT:TQ d ds L a w)(he:HE r7 L):QC d r7 37 a w:=by
 unfold QC;have hw:=hT.world;have s36:=hT.run 21 _ 36 rfl rfl (by decide) (he ⟨21,.data⟩ (by simp) rfl);simp only[aM] at s36;have sg:=hT.run 20 _ 35 rfl rfl (by decide) (he ⟨20,.guard⟩ (by simp) rfl);simp only[aM] at sg;have hwg:=ga (ops:=bP) (o:=r7) (tmps:=a.tmps) (j:=20) (t:=35) (want:=false) rfl rfl sg;obtain⟨bp,hp⟩:∃b,b=d.p:=⟨_,rfl⟩;obtain⟨bcc,hcc⟩:∃b,b=d.cc:=⟨_,rfl⟩;simp only[aM,←hp,←hcc] at *
 cases bp<;>cases bcc
 all_goals simp only[isB,Bool.false_eq_true,if_true,if_false,Bool.and_true,Bool.and_false,Bool.true_and,Bool.false_and,Bool.not_true,Bool.not_false,Bool.or_true,Bool.or_false,Bool.true_or,Bool.false_or] at *
 all_goals first
  |(right;exact⟨hwg,rfl⟩)
  |(right;exact hwg)
  |(right;exact⟨hwg,trivial⟩)
  |(left
    refine⟨hwg,fun f e hev=>?_,?_⟩
    ·have hm:=mem_listed hev;simp[go_sem,s36,hw.wk.ob2] at hm;subst hm;exact gz hw.wk.apart.2.2.2.2
    ·simp[go_sem,s36,hw.wk.ob2,aM])
abbrev r8:Oper:=⟨some 38,(.unOp .not 4 (.tmp 37)),4, "dispatch.go:122",#[⟨22,.data⟩,⟨20,.guard⟩],(some (20,false))⟩
theorem MU(hT:TQ d ds L a w)(he:HE r8 L):QC d r8 38 a w:=by
 unfold QC;have hw:=hT.world;have s37:=hT.run 22 _ 37 rfl rfl (by decide) (he ⟨22,.data⟩ (by simp) rfl);simp only[aM] at s37;have sg:=hT.run 20 _ 35 rfl rfl (by decide) (he ⟨20,.guard⟩ (by simp) rfl);simp only[aM] at sg;have hwg:=ga (ops:=bP) (o:=r8) (tmps:=a.tmps) (j:=20) (t:=35) (want:=false) rfl rfl sg;obtain⟨bp,hp⟩:∃b,b=d.p:=⟨_,rfl⟩;obtain⟨bcc,hcc⟩:∃b,b=d.cc:=⟨_,rfl⟩;simp only[aM,←hp,←hcc] at *
 cases bp<;>cases bcc
 all_goals simp only[isB,Bool.false_eq_true,if_true,if_false,Bool.and_true,Bool.and_false,Bool.true_and,Bool.false_and,Bool.not_true,Bool.not_false,Bool.or_true,Bool.or_false,Bool.true_or,Bool.false_or] at *
 all_goals first
  |(right;exact⟨hwg,rfl⟩)
  |(right;exact hwg)
  |(right;exact⟨hwg,trivial⟩)
  |(left
    refine⟨hwg,fun f e hev=>?_,?_⟩
    ·have hm:=mem_listed hev;simp[go_sem,s37] at hm
    ·simp[go_sem,s37,aM])
abbrev r9:Oper:=⟨some 39,(.pick (.tmp 35) (.const (.bool true)) (.tmp 38)),4, "dispatch.go:122",#[⟨20,.data⟩,⟨23,.data⟩,⟨17,.guard⟩],(some (17,true))⟩
theorem MV(hT:TQ d ds L a w)(he:HE r9 L):QC d r9 39 a w:=by
 unfold QC;have hw:=hT.world;have s35:=hT.run 20 _ 35 rfl rfl (by decide) (he ⟨20,.data⟩ (by simp) rfl);simp only[aM] at s35;have s38:=hT.run 23 _ 38 rfl rfl (by decide) (he ⟨23,.data⟩ (by simp) rfl);simp only[aM] at s38;have sg:=hT.run 17 _ 32 rfl rfl (by decide) (he ⟨17,.guard⟩ (by simp) rfl);simp only[aM] at sg;have hwg:=ga (ops:=bP) (o:=r9) (tmps:=a.tmps) (j:=17) (t:=32) (want:=true) rfl rfl sg;obtain⟨bp,hp⟩:∃b,b=d.p:=⟨_,rfl⟩;obtain⟨bcc,hcc⟩:∃b,b=d.cc:=⟨_,rfl⟩;obtain⟨bchair,hchair⟩:∃b,b=d.kn:=⟨_,rfl⟩;simp only[aM,←hp,←hcc,←hchair] at *
 cases bp<;>cases bcc<;>cases bchair
 all_goals simp only[isB,Bool.false_eq_true,if_true,if_false,Bool.and_true,Bool.and_false,Bool.true_and,Bool.false_and,Bool.not_true,Bool.not_false,Bool.or_true,Bool.or_false,Bool.true_or,Bool.false_or] at *
 all_goals first
  |(right;exact⟨hwg,rfl⟩)
  |(right;exact hwg)
  |(right;exact⟨hwg,trivial⟩)
  |(left
    refine⟨hwg,fun f e hev=>?_,?_⟩
    ·have hm:=mem_listed hev;simp[go_sem,s35,s38] at hm
    ·simp[go_sem,s35,s38,aM])
abbrev wz:Oper:=⟨some 40,(.pick (.tmp 32) (.tmp 39) (.const (.bool false))),4, "dispatch.go:122",#[⟨17,.data⟩,⟨24,.data⟩],none⟩
theorem MW(hT:TQ d ds L a w)(he:HE wz L):QC d wz 40 a w:=by
 unfold QC;have hw:=hT.world;have s32:=hT.run 17 _ 32 rfl rfl (by decide) (he ⟨17,.data⟩ (by simp) rfl);simp only[aM] at s32;have s39:=hT.run 24 _ 39 rfl rfl (by decide) (he ⟨24,.data⟩ (by simp) rfl);simp only[aM] at s39;obtain⟨bp,hp⟩:∃b,b=d.p:=⟨_,rfl⟩;obtain⟨bq,hq⟩:∃b,b=(d.cc || !d.kn):=⟨_,rfl⟩;simp only[aM,RdD.g,←hp,←hq] at *
 cases bp<;>cases bq
 all_goals simp only[isB,Bool.false_eq_true,if_true,if_false,Bool.and_true,Bool.and_false,Bool.true_and,Bool.false_and,Bool.not_true,Bool.not_false,Bool.or_true,Bool.or_false,Bool.true_or,Bool.false_or] at *
 all_goals first
  |(right;exact⟨hwg,rfl⟩)
  |(right;exact hwg)
  |(right;exact⟨hwg,trivial⟩)
  |(left
    refine⟨rfl,fun f e hev=>?_,?_⟩
    ·have hm:=mem_listed hev;simp[go_sem,s32,s39] at hm
    ·simp[go_sem,s32,s39,aM])
abbrev wA:Oper:=⟨some 41,(.move (.tmp 40)),4, "dispatch.go:122",#[⟨25,.data⟩,⟨20,.chain⟩],none⟩
theorem MX(hT:TQ d ds L a w)(he:HE wA L):QC d wA 41 a w:=by
 have hw:=hT.world;have s40:=hT.run 25 _ 40 rfl rfl (by decide) (he ⟨25,.data⟩ (by simp) rfl);simp only[aM] at s40;left;refine⟨rfl,fun f e hev=>?_,?_⟩
 ·have hm:=mem_listed hev;simp[go_sem,s40] at hm
 ·simp[go_sem,s40,aM]
abbrev sa:Oper:=⟨some 42,(.fieldAddr 27 (.tmp 1) 3),0, "dispatch.go:122",#[⟨26,.guard⟩],(some (26,true))⟩
theorem MY(hT:TQ d ds L a w)(he:HE sa L):QC d sa 42 a w:=by
 unfold QC;have hw:=hT.world;have s1:=hT.base 1 (by decide);simp only[fz] at s1;have sg:=hT.run 26 _ 41 rfl rfl (by decide) (he ⟨26,.guard⟩ (by simp) rfl);simp only[aM] at sg;have hwg:=ga (ops:=bP) (o:=sa) (tmps:=a.tmps) (j:=26) (t:=41) (want:=true) rfl rfl sg;obtain⟨bg,hg⟩:∃b,b=d.g:=⟨_,rfl⟩;simp only[aM,←hg] at *;cases bg
 all_goals simp only[isB,Bool.false_eq_true,if_true,if_false,Bool.and_true,Bool.and_false,Bool.true_and,Bool.false_and,Bool.not_true,Bool.not_false,Bool.or_true,Bool.or_false,Bool.true_or,Bool.false_or] at *
 all_goals first
  |(right;exact⟨hwg,rfl⟩)
  |(right;exact hwg)
  |(right;exact⟨hwg,trivial⟩)
  |(left
    refine⟨hwg,fun f e hev=>?_,?_⟩
    ·have hm:=mem_listed hev;simp[go_sem,s1] at hm
    ·simp[go_sem,s1,aM])
abbrev sb:Oper:=⟨some 43,(.load 25 (.tmp 42)),25, "dispatch.go:122",#[⟨27,.data⟩,⟨26,.guard⟩],(some (26,true))⟩
theorem MZ(hT:TQ d ds L a w)(he:HE sb L):QC d sb 43 a w:=by
 unfold QC;have hw:=hT.world;have s42:=hT.run 27 _ 42 rfl rfl (by decide) (he ⟨27,.data⟩ (by simp) rfl);simp only[aM] at s42;have sg:=hT.run 26 _ 41 rfl rfl (by decide) (he ⟨26,.guard⟩ (by simp) rfl);simp only[aM] at sg;have hwg:=ga (ops:=bP) (o:=sb) (tmps:=a.tmps) (j:=26) (t:=41) (want:=true) rfl rfl sg;obtain⟨bg,hg⟩:∃b,b=d.g:=⟨_,rfl⟩;simp only[aM,←hg] at *;cases bg
 all_goals simp only[isB,Bool.false_eq_true,if_true,if_false,Bool.and_true,Bool.and_false,Bool.true_and,Bool.false_and,Bool.not_true,Bool.not_false,Bool.or_true,Bool.or_false,Bool.true_or,Bool.false_or] at *
 all_goals first
  |(right;exact⟨hwg,rfl⟩)
  |(right;exact hwg)
  |(right;exact⟨hwg,trivial⟩)
  |(left
    refine⟨hwg,fun f e hev=>?_,?_⟩
    ·have hm:=mem_listed hev;simp[go_sem,s42,hw.wk.ny] at hm;subst hm;exact gz hw.wk.apart.1
    ·simp[go_sem,s42,hw.wk.ny,aM])
abbrev sd:Oper:=⟨some 44,(.load 3 (.tmp 3)),3, "dispatch.go:122",#[⟨26,.guard⟩],(some (26,true))⟩
theorem M3(hT:TQ d ds L a w)(he:HE sd L):QC d sd 44 a w:=by
 unfold QC;have hw:=hT.world;have s3:=hT.base 3 (by decide);simp only[fz] at s3;have sg:=hT.run 26 _ 41 rfl rfl (by decide) (he ⟨26,.guard⟩ (by simp) rfl);simp only[aM] at sg;have hwg:=ga (ops:=bP) (o:=sd) (tmps:=a.tmps) (j:=26) (t:=41) (want:=true) rfl rfl sg;obtain⟨bg,hg⟩:∃b,b=d.g:=⟨_,rfl⟩;simp only[aM,←hg] at *;cases bg
 all_goals simp only[isB,Bool.false_eq_true,if_true,if_false,Bool.and_true,Bool.and_false,Bool.true_and,Bool.false_and,Bool.not_true,Bool.not_false,Bool.or_true,Bool.or_false,Bool.true_or,Bool.false_or] at *
 all_goals first
  |(right;exact⟨hwg,rfl⟩)
  |(right;exact hwg)
  |(right;exact⟨hwg,trivial⟩)
  |(left
    refine⟨hwg,fun f e hev=>?_,?_⟩
    ·have hm:=mem_listed hev;simp[go_sem,s3,hw.wk.ibc] at hm;subst hm;exact gz hw.wk.apart.2.2.2.1
    ·simp[go_sem,s3,hw.wk.ibc,aM])
abbrev se:Oper:=⟨some 45,(.move (.tmp 5)),3, "dispatch.go:122",#[⟨26,.guard⟩],(some (26,true))⟩
theorem M4(hT:TQ d ds L a w)(he:HE se L):QC d se 45 a w:=by
 unfold QC;have hw:=hT.world;have s5:=hT.base 5 (by decide);simp only[fz] at s5;have sg:=hT.run 26 _ 41 rfl rfl (by decide) (he ⟨26,.guard⟩ (by simp) rfl);simp only[aM] at sg;have hwg:=ga (ops:=bP) (o:=se) (tmps:=a.tmps) (j:=26) (t:=41) (want:=true) rfl rfl sg;obtain⟨bg,hg⟩:∃b,b=d.g:=⟨_,rfl⟩;simp only[aM,←hg] at *;cases bg
 all_goals simp only[isB,Bool.false_eq_true,if_true,if_false,Bool.and_true,Bool.and_false,Bool.true_and,Bool.false_and,Bool.not_true,Bool.not_false,Bool.or_true,Bool.or_false,Bool.true_or,Bool.false_or] at *
 all_goals first
  |(right;exact⟨hwg,rfl⟩)
  |(right;exact hwg)
  |(right;exact⟨hwg,trivial⟩)
  |(left
    refine⟨hwg,fun f e hev=>?_,?_⟩
    ·have hm:=mem_listed hev;simp[go_sem,s5] at hm
    ·simp[go_sem,s5,aM])
abbrev si:Oper:=⟨some 46,(.build 120 #[(0,(.tmp 44)),(1,(.tmp 45))]),120, "dispatch.go:122",#[⟨29,.data⟩,⟨30,.data⟩,⟨26,.guard⟩],(some (26,true))⟩
theorem M5(hT:TQ d ds L a w)(he:HE si L):QC d si 46 a w:=by
 unfold QC;have hw:=hT.world;have s44:=hT.run 29 _ 44 rfl rfl (by decide) (he ⟨29,.data⟩ (by simp) rfl);simp only[aM] at s44;have s45:=hT.run 30 _ 45 rfl rfl (by decide) (he ⟨30,.data⟩ (by simp) rfl);simp only[aM] at s45;have sg:=hT.run 26 _ 41 rfl rfl (by decide) (he ⟨26,.guard⟩ (by simp) rfl);simp only[aM] at sg;have hwg:=ga (ops:=bP) (o:=si) (tmps:=a.tmps) (j:=26) (t:=41) (want:=true) rfl rfl sg;obtain⟨bg,hg⟩:∃b,b=d.g:=⟨_,rfl⟩;simp only[aM,←hg] at *;cases bg
 all_goals simp only[isB,Bool.false_eq_true,if_true,if_false,Bool.and_true,Bool.and_false,Bool.true_and,Bool.false_and,Bool.not_true,Bool.not_false,Bool.or_true,Bool.or_false,Bool.true_or,Bool.false_or] at *
 all_goals first
  |(right;exact⟨hwg,rfl⟩)
  |(right;exact hwg)
  |(right;exact⟨hwg,trivial⟩)
  |(left
    refine⟨hwg,fun f e hev=>?_,?_⟩
    ·have hm:=mem_listed hev;simp[go_sem,s44,s45,Ey,Ez] at hm
    ·simp[go_sem,s44,s45,Ey,Ez,aM])
abbrev nY:Oper:=⟨some 47,(.call ⟨(.value (.func 107)),#[.tmp 43,(.tmp 46)],#[25,120]⟩),4, "dispatch.go:122",#[⟨28,.data⟩,⟨31,.data⟩,⟨26,.chain⟩,⟨26,.guard⟩],(some (26,true))⟩
abbrev sj:Oper:=⟨some 48,(.unOp .not 4 (.tmp 47)),4, "dispatch.go:122",#[⟨32,.data⟩,⟨26,.guard⟩],(some (26,true))⟩
theorem M6(hT:TQ d ds L a w)(he:HE sj L):QC d sj 48 a w:=by
 unfold QC;have hw:=hT.world;have s47:=hT.run 32 _ 47 rfl rfl (by decide) (he ⟨32,.data⟩ (by simp) rfl);simp only[aM] at s47;have sg:=hT.run 26 _ 41 rfl rfl (by decide) (he ⟨26,.guard⟩ (by simp) rfl);simp only[aM] at sg;have hwg:=ga (ops:=bP) (o:=sj) (tmps:=a.tmps) (j:=26) (t:=41) (want:=true) rfl rfl sg;obtain⟨bg,hg⟩:∃b,b=d.g:=⟨_,rfl⟩;simp only[aM,←hg] at *;cases bg
 all_goals simp only[isB,Bool.false_eq_true,if_true,if_false,Bool.and_true,Bool.and_false,Bool.true_and,Bool.false_and,Bool.not_true,Bool.not_false,Bool.or_true,Bool.or_false,Bool.true_or,Bool.false_or] at *
 all_goals first
  |(right;exact⟨hwg,rfl⟩)
  |(right;exact hwg)
  |(right;exact⟨hwg,trivial⟩)
  |(left
    refine⟨hwg,fun f e hev=>?_,?_⟩
    ·have hm:=mem_listed hev;simp[go_sem,s47] at hm
    ·simp[go_sem,s47,aM])
abbrev wB:Oper:=⟨some 49,(.pick (.tmp 41) (.tmp 48) (.const (.bool false))),4, "dispatch.go:122",#[⟨26,.data⟩,⟨33,.data⟩],none⟩
theorem M7(hT:TQ d ds L a w)(he:HE wB L):QC d wB 49 a w:=by
 unfold QC;have hw:=hT.world;have s41:=hT.run 26 _ 41 rfl rfl (by decide) (he ⟨26,.data⟩ (by simp) rfl);simp only[aM] at s41;have s48:=hT.run 33 _ 48 rfl rfl (by decide) (he ⟨33,.data⟩ (by simp) rfl);simp only[aM] at s48;obtain⟨bg,hg⟩:∃b,b=d.g:=⟨_,rfl⟩;obtain⟨bh,hh⟩:∃b,b=d.h:=⟨_,rfl⟩;simp only[aM,←hg,←hh] at *
 cases bg<;>cases bh
 all_goals simp only[isB,Bool.false_eq_true,if_true,if_false,Bool.and_true,Bool.and_false,Bool.true_and,Bool.false_and,Bool.not_true,Bool.not_false,Bool.or_true,Bool.or_false,Bool.true_or,Bool.false_or] at *
 all_goals first
  |(right;exact⟨hwg,rfl⟩)
  |(right;exact hwg)
  |(right;exact⟨hwg,trivial⟩)
  |(left
    refine⟨rfl,fun f e hev=>?_,?_⟩
    ·have hm:=mem_listed hev;simp[go_sem,s41,s48] at hm
    ·simp[go_sem,s41,s48,aM])
abbrev pF:Oper:=⟨some 50,(.buildSlice 136 1 #[(0,(.tmp 49))]),136, "dispatch.go:122",#[⟨34,.data⟩],none⟩
abbrev pG:Oper:=⟨some 51,(.call ⟨(.builtin .append),#[.tmp 26,(.tmp 50)],#[136,136]⟩),136, "dispatch.go:122",#[⟨11,.data⟩,⟨35,.data⟩,⟨32,.chain⟩],none⟩
abbrev pH:Oper:=⟨some 52,(.indexAddr 103 (.tmp 18) (.tmp 19)),0, "dispatch.go:122",#[⟨3,.data⟩,⟨4,.data⟩,⟨0,.phase⟩,⟨1,.phase⟩,⟨2,.phase⟩,⟨3,.phase⟩,⟨4,.phase⟩,⟨5,.phase⟩,⟨6,.phase⟩,⟨7,.phase⟩,⟨8,.phase⟩,⟨9,.phase⟩,⟨10,.phase⟩,⟨11,.phase⟩,⟨12,.phase⟩,⟨13,.phase⟩,⟨14,.phase⟩,⟨15,.phase⟩,⟨16,.phase⟩,⟨17,.phase⟩,⟨18,.phase⟩,⟨19,.phase⟩,⟨20,.phase⟩,⟨21,.phase⟩,⟨22,.phase⟩,⟨23,.phase⟩,⟨24,.phase⟩,⟨25,.phase⟩,⟨26,.phase⟩,⟨27,.phase⟩,⟨28,.phase⟩,⟨29,.phase⟩,⟨30,.phase⟩,⟨31,.phase⟩,⟨32,.phase⟩,⟨33,.phase⟩,⟨34,.phase⟩,⟨35,.phase⟩,⟨36,.phase⟩],none⟩
abbrev mQ:Oper:=⟨none,(.store 136 (.tmp 52) (.tmp 51)),0, "dispatch.go:122",#[⟨37,.data⟩,⟨36,.data⟩,⟨36,.chain⟩,⟨0,.phase⟩,⟨1,.phase⟩,⟨2,.phase⟩,⟨3,.phase⟩,⟨4,.phase⟩,⟨5,.phase⟩,⟨6,.phase⟩,⟨7,.phase⟩,⟨8,.phase⟩,⟨9,.phase⟩,⟨10,.phase⟩,⟨11,.phase⟩,⟨12,.phase⟩,⟨13,.phase⟩,⟨14,.phase⟩,⟨15,.phase⟩,⟨16,.phase⟩,⟨17,.phase⟩,⟨18,.phase⟩,⟨19,.phase⟩,⟨20,.phase⟩,⟨21,.phase⟩,⟨22,.phase⟩,⟨23,.phase⟩,⟨24,.phase⟩,⟨25,.phase⟩,⟨26,.phase⟩,⟨27,.phase⟩,⟨28,.phase⟩,⟨29,.phase⟩,⟨30,.phase⟩,⟨31,.phase⟩,⟨32,.phase⟩,⟨33,.phase⟩,⟨34,.phase⟩,⟨35,.phase⟩,⟨36,.phase⟩],none⟩
end
end Go.Proofs.Tw
