/- Lemmas. -/
import Derived.Test.YthpkmilhiganjaaGreatPWa
import Derived.Test.YthpkmilhiganjaaGreatPMe
set_option linter.all false
set_option maxHeartbeats 32000000
set_option maxRecDepth 100000
namespace Go.Proofs.Tw
open Go Go.Fi Go.Conc Go.RowKit
theorem eqI(x u:Int)(w:World)(n:Nat):(Op.equalIn (n+1) 3 (.int .i64 x) (.int .i64 u)).run prog w=.ok (x==u) w:=by rfl
theorem Rn(x u:Int)(w:World)(n:Nat)(es:Array Event):(Op.equalIn (n+1) 3 (.int .i64 x) (.int .i64 u)).events prog w es=es:=by rfl
theorem eqP(x y u v:Int)(w:World):(Op.equalIn 10000 120 (.agg #[.int .i64 x,.int .i64 y]) (.agg #[.int .i64 u,.int .i64 v])).run prog w=.ok (x==u&&y==v) w:=by
 rw[show (10000:Nat)=9998+1+1 from rfl];generalize (9998:Nat)=n;unfold Op.equalIn;simp only[Sem.run_bind,runUnderlying120,Result.andThen_ok,sizeOf3];simp only[part,go_sem]
 by_cases h1:x=u<;>by_cases h2:y=v<;>simp[List.range',go_sem,eqI,h1,h2]
theorem Ro(x y u v:Int)(w:World)(es:Array Event):(Op.equalIn 10000 120 (.agg #[.int .i64 x,.int .i64 y]) (.agg #[.int .i64 u,.int .i64 v])).events prog w es=es:=by
 rw[show (10000:Nat)=9998+1+1 from rfl];generalize (9998:Nat)=n;unfold Op.equalIn;simp only[Sem.run_bind,Sem.events_bind,runUnderlying120,Result.andThen_ok,sizeOf3];simp only[part,go_sem]
 by_cases h1:x=u<;>by_cases h2:y=v<;>simp[List.range',go_sem,eqI,Rn,h1,h2]
theorem Rp(x y u v:Int)(w:World)(es:Array Event):(binOp .eql 120 (.agg #[.int .i64 x,.int .i64 y]) (.agg #[.int .i64 u,.int .i64 v])).events prog w es=es:=by
 have hm:Op.maxDepth=10000:=rfl;simp only[binOp,Op.equal,go_sem,Sem.events_bind,hm,Ro,eqP];rfl
theorem Rq(a b:Operand)(x y u v:Int)(w:World)(es:Array Event):(eqGuard .eql 120 a b (.agg #[.int .i64 x,.int .i64 y]) (.agg #[.int .i64 u,.int .i64 v])).events prog w es=es:=by
 rfl
theorem bq(a b c d:Int):(a==c&&b==d)=(decide (c=a)&&decide (d=b)):=by
 have e:∀a c:Int,(a==c)=decide (c=a):=λa c=>by rw[yL,beq_iff_eq,decide_eq_true_eq];omega
 rw[e,e]
def lP(F:Nat)(w:World)(a0:Option Addr)(zs:List (Int×Int)):Prop:=
 ∀j,j<zs.length->∃b off,a0=some ⟨b,off,none⟩/\b≠F/\w.cell? ⟨b,off+j*2,none⟩=some (.int .i64 (zs.getD j (0,0)).1)/\w.cell? ⟨b,off+j*2+1,none⟩=some (.int .i64 (zs.getD j (0,0)).2)
theorem lP.bel{F:Nat}{w w1:World}{a0:Option Addr}{zs:List (Int×Int)}(h:lP F w a0 zs)(e:Bel w.heap.size w w1):lP F w1 a0 zs:=
 λj hj=>let ⟨b,off,h1,h3,h4,h5⟩:=h j hj;⟨b,off,h1,h3,e.cellAt h4,e.cellAt h5⟩
structure IxW(F lo:Nat)(A:World)(a0:Option Addr)(zs:List (Int×Int))(x y:Int)(bx:Nat)(w:World):Prop where
 bel:Bel A.heap.size A w
 lQ:lP F w a0 zs
 c0:w.cell? ⟨bx,0,none⟩=some (.int .i64 x)
 c1:w.cell? ⟨bx,1,none⟩=some (.int .i64 y)
 hbx:bx≠F
theorem IxW.mv{F lo:Nat}{A:World}{a0:Option Addr}{zs:List (Int×Int)}{x y:Int}{bx:Nat}{w w1:World}(h:IxW F lo A a0 zs x y bx w)(e:Bel w.heap.size w w1):IxW F lo A a0 zs x y bx w1:=
 ⟨o7 h.bel e,h.lQ.bel e,e.cellAt h.c0,e.cellAt h.c1,h.hbx⟩
def IxA(a0:Option Addr)(n cap:Nat)(bx:Nat)(x y:Int)(kk:Nat)(J:Nat->Value):Act:=
 ⟨#[.slice a0 n cap,.agg #[.int .i64 x,.int .i64 y],J 2,.pointer (some ⟨bx,0,none⟩),.int .i64 0,J 5,.slice a0 n cap,.int .i64 n,.int .i64 kk,J 9,J 10,J 11,J 12,J 13,J 14,J 15,J 16,J 17,J 18],[]⟩
theorem IxW.drew{F lo:Nat}{A:World}{a0:Option Addr}{zs:List (Int×Int)}{x y:Int}{bx:Nat}{w:World}{d:Nat}(h:IxW F lo A a0 zs x y bx w):IxW F lo A a0 zs x y bx { w with drawn:=d }:=⟨⟨h.bel.os,h.bel.output,h.bel.size,h.bel.block⟩,h.lQ,h.c0,h.c1,h.hbx⟩
def IxB(a0:Option Addr)(n cap:Nat)(bx:Nat)(x y:Int)(kk:Nat)(t:Nat):Value:=match t with|0=>.slice a0 n cap|1=>.agg #[.int .i64 x,.int .i64 y]|3=>.pointer (some ⟨bx,0,none⟩)|4=>.int .i64 0|5=>.int .i64 kk|6=>.slice a0 n cap|7=>.int .i64 n|8=>.int .i64 kk|_=>undef
def IxV(a0:Option Addr)(n cap:Nat)(x y:Int)(zs:List (Int×Int))(kk:Nat)(t:Nat):Value:=match t with|11=>.agg #[.int .i64 x,.int .i64 y]|12=>.slice a0 n cap|13=>.int .i64 kk|14=>.pointer (a0.map λad=>⟨ad.block,ad.off+kk*2,none⟩)|15=>.agg #[.int .i64 (zs.getD kk (0,0)).1,.int .i64 (zs.getD kk (0,0)).2]|16=>.bool (decide (zs.getD kk (0,0)=(x,y)))|_=>undef
theorem Nl{lo F k:Nat}(hF:F<lo)(n:Nat)(ao:n<=64):∀(a0:Option Addr)(cap:Nat)(zs:List (Int×Int))(x y:Int)(A:World),zs.length=n->lo<=A.heap.size->lP F A a0 zs->@sa (cQ lo F k) prog 133 #[.slice a0 n cap,.agg #[.int .i64 x,.int .i64 y]] (2+((4+((n*35+35+2)+5+1)+1)+4+1)) A λv w'=>v=.int .i64 (match zs.findIdx? (λz=>z==(x,y)) with|some i=>(i:Int)|none=>-1)/\Bel A.heap.size A w':=by
 letI:=cQ lo F k
 intro a0 cap zs x y A hn ag hp;apply Fe func133 rfl rfl (N:=((4+((n*35+35+2)+5+1)+1)+4+1));simp only[Tryz.f133,na,il,lB,Nat.reduceAdd,Nat.reduceSub,Array.replicate_succ,Array.replicate_zero,List.push_toArray,List.append_toArray,DF,qm];apply iK (N:=4) (M:=(4+((n*35+35+2)+5+1)+1));apply jd;simp only[na,il,lB,Nat.reduceAdd,eI,List.range,List.range.loop];apply dD rfl rfl ae;intro w1 e1;refine⟨λf ev he=>?_,?_⟩
 .have hm:=mem_listed he;simp[go_sem] at hm
 simp only[Oper.fC,go_sem,Act.put,List.setIfInBounds_toArray,List.set_cons_succ,List.set_cons_zero];simp[Oper.fC,go_sem,Act.put];have h':Bel A.heap.size A w1:=e1
 have hW:IxW F lo A a0 zs x y w1.heap.size (w1.alloc (.cells #[.int .i64 x,.int .i64 y] 120)):=by
  have hr:Bel w1.heap.size w1 (w1.alloc (.cells #[.int .i64 x,.int .i64 y] 120)):=(Bel.refl _ _).alloc (bS _) _;have hs:=h'.size;refine⟨o7 h' hr,(hp.bel h').bel hr,?_,?_,ab⟩
  .exact Al w1 #[.int .i64 x,.int .i64 y] 120 0
  simp
 generalize w1.heap.size=bx at hW ⊢;generalize (w1.alloc (.cells #[.int .i64 x,.int .i64 y] 120))=w at hW ⊢;clear h' e1 hp;apply dD rfl rfl ae;intro w e1;replace hW:=hW.mv e1;refine⟨λf ev he=>by have hm:=mem_listed he;simp[go_sem] at hm,?_⟩;simp[Oper.fC,go_sem,Act.put];clear e1;apply iq;apply iK (N:=((n*35+35+2)+5+1)) (M:=4);apply iK (N:=5) (M:=(n*35+35+2));apply jd (N:=4);simp only[na,il,lB,Nat.reduceAdd,eI,List.range,List.range.loop];generalize hQ:Exit.then _ _=Q;apply dD rfl rfl ae;intro w e1;replace hW:=hW.mv e1;refine⟨λf ev he=>by have hm:=mem_listed he;simp[go_sem] at hm,?_⟩;simp[Oper.fC,go_sem,Act.put];clear e1;apply dD rfl rfl ae;intro w e1;replace hW:=hW.mv e1;refine⟨λf ev he=>by have hm:=mem_listed he;simp[go_sem] at hm,?_⟩;simp[Oper.fC,go_sem,Act.put];clear e1;apply dD rfl rfl ae;intro w e1;replace hW:=hW.mv e1;refine⟨λf ev he=>by have hm:=mem_listed he;simp[go_sem] at hm,?_⟩;simp[Oper.fC,go_sem,Act.put];clear e1;subst hQ;apply iq;apply vW (N:=n*35+35);apply E9 (r0:=34) (I:=λm a w=>∃(kk:Nat)(J:Nat->Value),m+kk=n/\a=IxA a0 n cap bx x y kk J/\IxW F lo A a0 zs x y bx w/\∀j,j<kk->zs.getD j (0,0)≠(x,y)) (n0:=n)
 .exact⟨0,λ_=>undef,ab,rfl,hW,λj hj=>ab⟩
 rintro m a w ⟨kk,J,hm,rfl,hW,ay⟩
 unfold IxA;apply iK (N:=3) (M:=30);apply jd (N:=2);simp only[na,il,lB,Nat.reduceAdd,eI,List.range,List.range.loop];generalize hQ:Exit.then _ _=Q;apply dD rfl rfl ae;intro w e1;replace hW:=hW.mv e1;refine⟨λf ev he=>by have hm:=mem_listed he;simp[go_sem] at hm,?_⟩;simp[Oper.fC,go_sem,Act.put];clear e1;subst hQ;apply iq;apply iK (N:=2) (M:=27);apply zK (t:=decide (kk<n)) (N:=1) (by rfl);by_cases aq:kk<n
 .simp only[aq,decide_true,cz];apply zI;apply iK (N:=22) (M:=4);apply vW (N:=20);apply iK (N:=4) (M:=15);apply jd (N:=3);simp only[na,il,lB,Nat.reduceAdd,eI,List.range,List.range.loop];generalize hQ:Exit.then _ _=Q;apply dD rfl rfl ae;intro w e1;replace hW:=hW.mv e1;refine⟨λf ev he=>by have hm:=mem_listed he;simp[go_sem] at hm,?_⟩;simp[Oper.fC,go_sem,Act.put];clear e1;apply dD rfl rfl ae;intro w e1;replace hW:=hW.mv e1;refine⟨λf ev he=>by have hm:=mem_listed he;simp[go_sem] at hm,?_⟩;simp[Oper.fC,go_sem,Act.put];clear e1;subst hQ;apply iq;apply iK (N:=8) (M:=6);apply F7 (by rfl) 1 (IxW F lo A a0 zs x y bx) 19 [] (λt=>t<9/\t≠2) (λ_=>True) (IxB a0 n cap bx x y kk) (IxV a0 n cap x y zs kk) (λ_ _ _=>True) af (λ_ _ h e=>h.mv e) (λ_ _ h=>h.drew) hW rfl rfl
  .intro t ht;obtain⟨h1,h2⟩:=ht
   match t with
   |0=>rfl
   |1=>rfl
   |2=>trivial
   |3=>rfl
   |4=>rfl
   |5=>rfl
   |6=>rfl
   |7=>rfl
   |8=>rfl
   |t+9=>omega
  .simp
  .intro L a w hx hT _;have aa:a.tmps[16]?.getD undef=.bool (decide (zs.getD kk (0,0)=(x,y))):=hT.run 5 _ 16 rfl rfl trivial (hx 5 af)
   have hA:a=⟨#[.slice a0 n cap,.agg #[.int .i64 x,.int .i64 y],a.tmps[2]?.getD undef,.pointer (some ⟨bx,0,none⟩),.int .i64 0,.int .i64 kk,.slice a0 n cap,.int .i64 n,.int .i64 kk,a.tmps[9]?.getD undef,a.tmps[10]?.getD undef,a.tmps[11]?.getD undef,a.tmps[12]?.getD undef,a.tmps[13]?.getD undef,a.tmps[14]?.getD undef,a.tmps[15]?.getD undef,.bool (decide (zs.getD kk (0,0)=(x,y))),a.tmps[17]?.getD undef,a.tmps[18]?.getD undef],[]⟩:=by
    have hb:=λt h=>hT.base t h
    have hs:=Nj hT.size;have hd:=hT.defers;obtain⟨T,D⟩:=a;simp only at hs hd hb aa ⊢;subst hd;congr 1;refine hs.trans ?_;simp only[List.range,List.range.loop,oU,yH,aa,hb 0 af,hb 1 af,hb 3 af,hb 4 af,hb 5 af,hb 6 af,hb 7 af,hb 8 af,IxB]
   have hW:=hT.world;generalize a.tmps[2]?.getD undef=j2,a.tmps[9]?.getD undef=j9,a.tmps[10]?.getD undef=j10,a.tmps[11]?.getD undef=j11,a.tmps[12]?.getD undef=j12,a.tmps[13]?.getD undef=j13,a.tmps[14]?.getD undef=j14,a.tmps[15]?.getD undef=j15,a.tmps[17]?.getD undef=j17,a.tmps[18]?.getD undef=j18 at hA;subst hA;clear hT aa hx;apply zK (N:=5) (t:=decide (zs.getD kk (0,0)=(x,y))) (by rfl);by_cases heq:zs.getD kk (0,0)=(x,y)
   .simp only[heq,decide_true,cz];apply iK (N:=4) (M:=0);apply jd (N:=3);simp only[na,il,lB,Nat.reduceAdd,eI,List.range,List.range.loop];generalize hQ:Exit.then _ _=Q;apply dD rfl rfl ae;intro w e1;replace hW:=hW.mv e1;refine⟨λf ev he=>by have hm:=mem_listed he;simp[go_sem] at hm,?_⟩;simp[Oper.fC,go_sem,Act.put];clear e1;apply dD rfl rfl ae;intro w e1;replace hW:=hW.mv e1;refine⟨λf ev he=>by have hm:=mem_listed he;simp[go_sem] at hm,?_⟩;simp[Oper.fC,go_sem,Act.put];clear e1;subst hQ;apply iq;apply zJ;simp only[Exit.then,Exit.inBlock];refine⟨ae,ae,λw1 e1=>⟨?_,o7 hW.bel e1⟩⟩
    have hf:zs.findIdx? (λz=>z==(x,y))=some kk:=by
     rw[List.findIdx?_eq_some_iff_getElem]
     have hk:kk<zs.length:=ab
     have e:∀j (h:j<zs.length),zs.getD j (0,0)=zs[j]:=λj h=>by simp[dZ,h]
     rw[e kk hk] at heq
     grind
    simp[hf]
   .have hf:decide (zs.getD kk (0,0)=(x,y))=false:=by simpa using heq
    simp only[hf,dz,cT];refine vV (N:=1) ?_ af;apply zI;simp only[Exit.then,Exit.inBlock];apply jd (N:=3);simp only[na,il,lB,Nat.reduceAdd,eI,List.range,List.range.loop];generalize hQ:Exit.then _ _=Q;apply dD rfl rfl aB;intro w e1;replace hW:=hW.mv e1;refine⟨λf ev he=>by have hm:=mem_listed he;simp[go_sem] at hm,?_⟩;simp[Oper.fC,go_sem,Act.put];clear e1;apply dD rfl rfl aB;intro w e1;replace hW:=hW.mv e1;refine⟨λf ev he=>by have hm:=mem_listed he;simp[go_sem] at hm,?_⟩;simp[Oper.fC,go_sem,Act.put];clear e1;subst hQ;apply iq
    have hw:IntKind.i64.wrap ((kk:Int)+1)=((kk+1:Nat):Int):=by rw[IntKind.wrap_i64];omega
    rw[hw];refine⟨m-1,ab,kk+1,λt=>match t with|2=>j2|5=>.int .i64 kk|9=>j9|10=>j10|11=>j11|12=>j12|13=>j13|14=>j14|15=>j15|16=>.bool false|17=>j17|_=>.int .i64 ((kk+1:Nat):Int),ab,rfl,hW,λj hj=>?_⟩
    grind
  .obtain⟨b,off,rfl,hbF,a9,a'⟩:=hW.lQ kk ab
   have hz:∀w,IxW F lo A (some ⟨b,off,none⟩) zs x y bx w->w.cell? ⟨b,off+kk*2,none⟩=some (.int .i64 (zs.getD kk (0,0)).1)/\w.cell? ⟨b,off+kk*2+1,none⟩=some (.int .i64 (zs.getD kk (0,0)).2):=λw hw=>by
    obtain⟨b',b4,e,_,h4,h5⟩:=hw.lQ kk ab;simp_all
   intro i o ho;have hi:i<6:=(cY.1 ho).1;generalize hQ:Exit.then _ _=Q
   have q:=λ(t:Nat) h1 h2 h3 h4 h5 h6=>F0 (Q:=Q) (r:=none) (P:=prog) (nt:=19) (ds:=[]) (base:=λt=>t<9/\t≠2) (qs:=λ_=>True) (B:=IxB (some ⟨b,off,none⟩) n cap bx x y kk) (V:=IxV (some ⟨b,off,none⟩) n cap x y zs kk) (W:=IxW F lo A (some ⟨b,off,none⟩) zs x y bx) (λ_ _ _=>True) (λ_ _ h e=>h.mv e) (λ_ _ _ _ _ _=>trivial) (i:=i) (o:=o) (t:=t) (λ_ _ _ _ _=>trivial) ho trivial h1 h2 h3 h4 h5 h6
   match i,ho with
   |0,ho=>
    cases ho
    refine q 11 ae rfl af ae (mh af) λL a w hT _ _ he _=>.inl ⟨rfl,λf e h8=>?_,?_⟩
    .have hm:=mem_listed h8;have h3:=hT.base 3 af;simp only[IxB] at h3;simp[go_sem,h3,hT.world.c0,hT.world.c1] at hm
     rcases hm with rfl|rfl<;>exact qB (λe=>absurd e hT.world.hbx)
    .have h3:=hT.base 3 af;simp only[IxB] at h3;simp[go_sem,h3,hT.world.c0,hT.world.c1,IxV]
   |1,ho=>
    cases ho
    refine q 12 ae rfl af ae (mh af) λL a w hT _ _ he _=>.inl ⟨rfl,λf e h8=>?_,?_⟩
    .have hm:=mem_listed h8;simp[go_sem] at hm
    .have h3:=hT.base 0 af;simp only[IxB] at h3;simp[go_sem,h3,IxV]
   |2,ho=>
    cases ho
    refine q 13 ae rfl af ae (mh af) λL a w hT _ _ he _=>.inl ⟨rfl,λf e h8=>?_,?_⟩
    .have hm:=mem_listed h8;simp[go_sem] at hm
    .have h3:=hT.base 5 af;simp only[IxB] at h3;simp[go_sem,h3,IxV]
   |3,ho=>
    cases ho
    refine q 14 ae rfl af ae (mh af) λL a w hT _ _ he _=>.inl ?_
    have h1:=hT.run 1 _ 12 rfl rfl trivial (he ⟨1,.data⟩ ae rfl);have h2:=hT.run 2 _ 13 rfl rfl trivial (he ⟨2,.data⟩ ae rfl);simp only[IxV] at h1 h2
    have aw:(0:Int)<=(kk:Int):=ab
    have ax:(kk:Int)<(n:Int):=ab
    refine⟨rfl,λf e h8=>?_,?_⟩
    .have hm:=mem_listed h8;simp[go_sem,h1,h2] at hm;rw[events_indexAt_slice 25 _ _ _ _ _ rfl ⟨aw,ax⟩] at hm;simp at hm
    .simp[go_sem,h1,h2,IxV,aq]
   |4,ho=>
    cases ho
    refine q 15 ae rfl af ae (mh af) λL a w hT _ _ he _=>.inl ?_
    have h1:=hT.run 3 _ 14 rfl rfl trivial (he ⟨3,.data⟩ ae rfl);simp only[IxV,eh] at h1;obtain⟨z1,z2⟩:=hz w hT.world;refine⟨rfl,λf e h8=>?_,?_⟩
    .have hm:=mem_listed h8;simp[go_sem,h1,z1,z2] at hm
     rcases hm with rfl|rfl<;>exact qB (λe=>absurd e hbF)
    .simp only[IxV];generalize (zs.getD kk (0,0)).1=u1,(zs.getD kk (0,0)).2=u2 at z1 z2 ⊢;simp[go_sem,h1,z1,z2]
   |5,ho=>
    cases ho
    refine q 16 ae rfl af ae (mh af) λL a w hT _ _ he _=>.inl ?_
    have h1:=hT.run 0 _ 11 rfl rfl trivial (he ⟨0,.data⟩ ae rfl);have h2:=hT.run 4 _ 15 rfl rfl trivial (he ⟨4,.data⟩ ae rfl);simp only[IxV] at h1 h2 ⊢;have e0:zs.getD kk (0,0)=((zs.getD kk (0,0)).1,(zs.getD kk (0,0)).2):=rfl;rw[e0];generalize (zs.getD kk (0,0)).1=u1,(zs.getD kk (0,0)).2=u2 at h1 h2 ⊢;refine⟨rfl,λf e h8=>?_,?_⟩
    .have hm:=mem_listed h8;simp[go_sem,h1,h2,Rp,Rq] at hm
    .simp[go_sem,h1,h2,eqP]
     grind
   |i+6,ho=>omega
 .have hf:decide (kk<n)=false:=ak
  simp only[hf,dz,cT];refine vV (N:=0) ?_ af;apply E8;simp only[Exit.then,Exit.inBlock,cz];apply iK (N:=3) (M:=0);apply jd (N:=2);simp only[na,il,lB,Nat.reduceAdd,eI,List.range,List.range.loop];generalize hQ:Exit.then _ _=Q;apply dD rfl rfl ae;intro w e1;replace hW:=hW.mv e1;refine⟨λf ev he=>by have hm:=mem_listed he;simp[go_sem] at hm,?_⟩;simp[Oper.fC,go_sem,Act.put];clear e1;subst hQ;apply iq;apply zJ;simp only[Exit.then,Exit.inBlock];refine⟨ae,ae,λw1 e1=>⟨?_,o7 hW.bel e1⟩⟩
  have hf:zs.findIdx? (λz=>z==(x,y))=none:=by
   rw[List.findIdx?_eq_none_iff];intro z hz;obtain⟨j,hj,rfl⟩:=List.mem_iff_getElem.1 hz;have:=ay j ab
   have e:zs.getD j (0,0)=zs[j]:=by simp[dZ,hj]
   rw[e] at this;simp_all
  simp[hf]
def qR(zs:List (Int×Int))(x y:Int):Bool:=zs.any λz=>z==(x,y)
def uU(n:Nat):Nat:=2+((1+((3+(2+(4+(n*35+35+2+5+1)+1+4+1))+1)+1+1+1)+1)+4+1)
theorem No{lo F k:Nat}(hF:F<lo)(n:Nat)(ao:n<=64):∀(a0:Option Addr)(cap:Nat)(zs:List (Int×Int))(x y:Int)(A:World),zs.length=n->lo<=A.heap.size->lP F A a0 zs->@sa (cQ lo F k) prog 107 #[.slice a0 n cap,.agg #[.int .i64 x,.int .i64 y]] (uU n) A λv w'=>v=.bool (qR zs x y)/\Bel A.heap.size A w':=by
 letI:=cQ lo F k
 intro a0 cap zs x y A hn ag hp;apply Fe func107 rfl rfl (N:=((1+((3+(2+(4+(n*35+35+2+5+1)+1+4+1))+1)+1+1+1)+1)+4+1));simp only[Tryz.f107,na,il,lB,Nat.reduceAdd,Nat.reduceSub,Array.replicate_succ,Array.replicate_zero,List.push_toArray,List.append_toArray,DF,qm];apply iK (N:=4) (M:=(1+((3+(2+(4+(n*35+35+2+5+1)+1+4+1))+1)+1+1+1)+1));apply jd;simp only[na,il,lB,Nat.reduceAdd,eI,List.range,List.range.loop];generalize hQ:Exit.then _ _=Q;apply dD rfl rfl aB;intro w1 e1;refine⟨λf ev he=>?_,?_⟩
 .have hm:=mem_listed he;simp[go_sem] at hm
 simp[Oper.fC,go_sem,Act.put];have h':Bel A.heap.size A w1:=e1
 have hW:IxW F lo A a0 zs x y w1.heap.size (w1.alloc (.cells #[.int .i64 x,.int .i64 y] 120)):=by
  have hr:Bel w1.heap.size w1 (w1.alloc (.cells #[.int .i64 x,.int .i64 y] 120)):=(Bel.refl _ _).alloc (bS _) _;have hs:=h'.size;refine⟨o7 h' hr,(hp.bel h').bel hr,?_,?_,ab⟩
  .exact Al w1 #[.int .i64 x,.int .i64 y] 120 0
  .exact Al w1 #[.int .i64 x,.int .i64 y] 120 1
 generalize w1.heap.size=bx at hW ⊢;generalize (w1.alloc (.cells #[.int .i64 x,.int .i64 y] 120))=w at hW ⊢;clear h' e1 hp;apply dD rfl rfl aB;intro w e1;replace hW:=hW.mv e1;refine⟨λf ev he=>by have hm:=mem_listed he;simp[go_sem] at hm,?_⟩;simp[Oper.fC,go_sem,Act.put];clear e1;subst hQ;apply iq;apply iK (N:=((3+(2+(4+(n*35+35+2+5+1)+1+4+1))+1)+1+1+1)) (M:=1);apply jd (N:=(3+(2+(4+(n*35+35+2+5+1)+1+4+1))+1)+1+1);simp only[na,il,lB,Nat.reduceAdd,eI,List.range,List.range.loop];generalize hQ:Exit.then _ _=Q;apply dD rfl rfl aB;intro w e1;replace hW:=hW.mv e1;refine⟨λf ev he=>by have hm:=mem_listed he;simp[go_sem] at hm,?_⟩;simp[Oper.fC,go_sem,Act.put];clear e1;apply dD rfl rfl aB;intro w e1;replace hW:=hW.mv e1;have a9:=hW.c0;have a':=hW.c1;refine⟨λf ev he=>?_,?_⟩
 .have hm:=mem_listed he;simp[go_sem,a9,a'] at hm
  rcases hm with rfl|rfl<;>exact qB (λe=>absurd e hW.hbx)
 simp[Oper.fC,go_sem,Act.put,a9,a'];clear e1 a9 a'
 refine Fb (N:=(2+(4+(n*35+35+2+5+1)+1+4+1))) (M:=3) (f:=133) (args:=#[.slice a0 n cap,.agg #[.int .i64 x,.int .i64 y]]) rfl rfl aB λw e1=>?_
 replace hW:=hW.mv e1;refine⟨λf ev he=>?_,?_,?_⟩
 .have hm:=mem_listed he;simp[go_sem] at hm
 .simp[go_sem]
 refine E7 (Nl hF n ao a0 cap zs x y w hn ?_ hW.lQ) ?_
 .have:=hW.bel.size;omega
 rintro v w' ⟨rfl,hb⟩
 replace hW:=hW.mv hb;simp only[Act.put];apply dD rfl rfl aB;intro w e1;replace hW:=hW.mv e1;refine⟨λf ev he=>by have hm:=mem_listed he;simp[go_sem] at hm,?_⟩;simp[Oper.fC,go_sem,Act.put];clear e1;apply dD rfl rfl aB;intro w e1;replace hW:=hW.mv e1;refine⟨λf ev he=>by have hm:=mem_listed he;simp[go_sem] at hm,?_⟩;simp[Oper.fC,go_sem,Act.put];clear e1;subst hQ;apply iq;refine vV (N:=0) ?_ af;apply zJ;refine⟨.inr rfl,rfl,λw1 e1=>⟨?_,o7 hW.bel e1⟩⟩;show Value.bool _=_;congr 1;unfold qR
 grind
structure WkD where
 F:Nat
 i:Nat
 lo:Nat
 rb:Nat
 xv:Nat
 xb:Nat
 ib:Nat
 ob:Nat
 ca:Option Addr
 k8:Nat
 bD:List (ByteArray×Int×Bool)
 fa:Option Addr
 nK:Nat
 zs:List (Int×Int)
 n:Nat
 Cv:Nat
 uV:Int
 oI:Bool
def sH(F lo:Nat)(w:World)(a0:Option Addr)(cs:List (ByteArray×Int×Bool)):Prop:=
 ∀j,j<cs.length->∃b off,a0=some ⟨b,off,none⟩/\b≠F/\b<lo/\w.cell? ⟨b,off+j*3,none⟩=some (.string (cs.getD j (default,0,false)).1)/\w.cell? ⟨b,off+j*3+1,none⟩=some (.int .i64 (cs.getD j (default,0,false)).2.1) /\
  w.cell? ⟨b,off+j*3+2,none⟩=some (.bool (cs.getD j (default,0,false)).2.2)
structure WkW(d:WkD)(w:World):Prop where
 size:d.lo<=w.heap.size
 low:d.F<d.lo/\d.rb<d.lo/\d.xv<d.lo/\d.xb<d.lo/\d.ib<d.lo/\d.ob<d.lo
 apart:d.rb≠d.F/\d.xv≠d.F/\d.xb≠d.F/\d.ib≠d.F/\d.ob≠d.F
 sI:w.cell? ⟨d.rb,0,none⟩=some (.slice d.ca d.bD.length d.k8)
 qS:w.cell? ⟨d.rb,3,none⟩=some (.slice d.fa d.zs.length d.nK)
 xvc:w.cell? ⟨d.xv,0,none⟩=some (.pointer (some ⟨d.xb,0,none⟩))
 oJ:w.cell? ⟨d.xb,4,none⟩=some (.slice (some ⟨d.F,0,none⟩) d.n d.Cv)
 ibc:w.cell? ⟨d.ib,0,none⟩=some (.int .i64 d.i)
 ob1:w.cell? ⟨d.ob,1,none⟩=some (.int .i64 d.uV)
 ob2:w.cell? ⟨d.ob,2,none⟩=some (.bool d.oI)
 bD:sH d.F d.lo w d.ca d.bD
 lQ:lP d.F w d.fa d.zs
 qT:∀j,j<d.zs.length->∀ad,d.fa=some ad->ad.block<d.lo
theorem sH.bel{F lo:Nat}{w w1:World}{a0:Option Addr}{cs:List (ByteArray×Int×Bool)}(h:sH F lo w a0 cs)(e:Bel lo w w1):sH F lo w1 a0 cs:=
 λj hj=>let ⟨b,off,h1,h2,h3,h4,h5,h6⟩:=h j hj;⟨b,off,h1,h2,h3,(e.cell (p:=⟨b,_,none⟩) h3).trans h4,(e.cell (p:=⟨b,_,none⟩) h3).trans h5,(e.cell (p:=⟨b,_,none⟩) h3).trans h6⟩
def ji(d:WkD)(w:World)(v:Value):Prop:=∃cF,w.heap[d.F]?=some (.cells cF 136)/\d.i<cF.size/\cF[d.i]?=some v
def iD(d:WkD)(w:World)(v:Value)(l:List Bool):Prop:=w.ownsRow d.lo 4 1 v l.length (l.map Value.bool)
theorem ji.mv{d:WkD}{w w1:World}{v:Value}(h:ji d w v)(e:Bel w.heap.size w w1):ji d w1 v:=
 let ⟨c,h1,h2⟩:=h;⟨c,(e.block _ (cY.1 h1).1).trans h1,h2⟩
theorem ji.cell{d:WkD}{w:World}{v:Value}(h:ji d w v):w.cell? ⟨d.F,d.i,none⟩=some v:=by
 obtain⟨c,h1,_,h3⟩:=h;unfold World.cell?;rw[h1];exact h3
theorem iD.mv{d:WkD}{w w1:World}{v:Value}{l:List Bool}(h:iD d w v l)(e:Bel w.heap.size w w1):iD d w1 v l:=by
 refine⟨h.1,h.2.imp id ?_⟩
 rintro⟨g,cap,cur,a1,a2,a3,a4⟩
 exact⟨g,cap,cur,a1,a2,(e.block _ (cY.1 a3).1).trans a3,a4⟩
def Cw(d:WkD)(k:Nat):Bool:=(decide ((d.bD.getD k (default,0,false)).2.1>=d.uV)&&((d.bD.getD k (default,0,false)).2.2 || !d.oI)) && !qR d.zs d.i k
noncomputable def nL:Code:=match Tryz.f113.body with
 |some (.seq _ c)=>c
 |_=>.skip
theorem lP.low{F lo:Nat}{w w1:World}{a0:Option Addr}{zs:List (Int×Int)}(h:lP F w a0 zs)(ag:∀j,j<zs.length->∀ad,a0=some ad->ad.block<lo)(e:Bel lo w w1):lP F w1 a0 zs:=
 λj hj=>let ⟨b,off,h1,h3,h4,h5⟩:=h j hj
  have hb:b<lo:=ag j hj _ h1
  ⟨b,off,h1,h3,(e.cell (p:=⟨b,_,none⟩) hb).trans h4,(e.cell (p:=⟨b,_,none⟩) hb).trans h5⟩
theorem WkW.xS{d:WkD}{w w1:World}(h:WkW d w)(e:Bel d.lo w w1):WkW d w1:=by
 have c:∀{b o:Nat}{v:Value},b<d.lo->w.cell? ⟨b,o,none⟩=some v->w1.cell? ⟨b,o,none⟩=some v:=λhb hv=>(e.cell (p:=⟨_,_,none⟩) hb).trans hv
 obtain⟨l1,l2,l3,l4,l5,l6⟩:=h.low;exact⟨dJ h.size e.size,h.low,h.apart,c l2 h.sI,c l2 h.qS,c l3 h.xvc,c l4 h.oJ,c l5 h.ibc,c l6 h.ob1,c l6 h.ob2,h.bD.bel e,h.lQ.low h.qT e,h.qT⟩
theorem WkW.mvF{d:WkD}{w w1:World}(h:WkW d w)(hs:w.heap.size<=w1.heap.size)(e:∀b,b≠d.F->w1.heap[b]?=w.heap[b]?):WkW d w1:=by
 have c:∀{b o:Nat}{v:Value},b≠d.F->w.cell? ⟨b,o,none⟩=some v->w1.cell? ⟨b,o,none⟩=some v:=λhb hv=>(World.cell?_of_block (a:=⟨_,_,none⟩) (e _ hb)).trans hv
 obtain⟨l2,l3,l4,l5,l6⟩:=h.apart;refine⟨dJ h.size hs,h.low,h.apart,c l2 h.sI,c l2 h.qS,c l3 h.xvc,c l4 h.oJ,c l5 h.ibc,c l6 h.ob1,c l6 h.ob2,λj hj=>?_,λj hj=>?_,h.qT⟩
 .obtain⟨b,off,a1,a2,a3,a4,a5,a6⟩:=h.bD j hj
  grind
 .obtain⟨b,off,a1,a2,a3,a4⟩:=h.lQ j hj
  grind
theorem WkW.mv{d:WkD}{w w1:World}(h:WkW d w)(e:Bel w.heap.size w w1):WkW d w1:=h.xS (e.mono h.size)
theorem WkW.drew{d:WkD}{w:World}{k:Nat}(h:WkW d w):WkW d { w with drawn:=k }:=h.xS ⟨rfl,rfl,bS _,λ_ _=>rfl⟩
noncomputable def dO:Array Oper:=match Tryz.f113.body with
 |some (.seq _ (.seq _ (.block _ (.loop (.seq _ (.seq _ (.seq (.block _ (.seq _ (.region _ o _))) _)))))))=>o
 |_=>#[]
structure RdD extends WkD where
 cb:Nat
 kk:Nat
 wg:Nat
 name:ByteArray
 cs:Int
 cc:Bool
 hd:Value
def RdD.p(d:RdD):Bool:=decide (d.cs>=d.uV)
def RdD.g(d:RdD):Bool:=d.p&&(d.cc || !d.oI)
def RdD.h(d:RdD):Bool:=qR d.zs d.i d.kk
def iP(d:RdD)(t:Nat):Value:=match t with
 |0=>.pointer (some ⟨d.wg,0,none⟩)|1=>.pointer (some ⟨d.rb,0,none⟩)|2=>.pointer (some ⟨d.xv,0,none⟩)|3=>.pointer (some ⟨d.ib,0,none⟩)|4=>.pointer (some ⟨d.ob,0,none⟩)
 |5=>.int .i64 d.kk|6=>.pointer (some ⟨d.cb,0,none⟩)|8=>.slice d.ca d.bD.length d.k8|9=>.int .i64 d.bD.length|10=>.int .i64 d.kk|_=>undef
def ck(d:RdD)(t:Nat):Value:=match t with
 |15|16|20|21=>.pointer (some ⟨d.xb,0,none⟩)
 |17|22=>.pointer (some ⟨d.xb,4,none⟩)
 |18|23=>.slice (some ⟨d.F,0,none⟩) d.n d.Cv
 |19|24=>.int .i64 d.i
 |25=>.pointer (some ⟨d.F,d.i,none⟩)
 |26=>d.hd
 |27=>.pointer (some ⟨d.cb,1,none⟩)
 |28=>.int .i64 d.cs
 |29=>.pointer (some ⟨d.ob,1,none⟩)
 |30=>.int .i64 d.uV
 |31|32=>.bool d.p
 |33=>if d.p then .pointer (some ⟨d.cb,2,none⟩) else undef
 |34|35=>if d.p then .bool d.cc else undef
 |36=>if d.p && !d.cc then .pointer (some ⟨d.ob,2,none⟩) else undef
 |37=>if d.p && !d.cc then .bool d.oI else undef
 |38=>if d.p && !d.cc then .bool (!d.oI) else undef
 |39=>if d.p then .bool (d.cc || !d.oI) else undef
 |40|41=>.bool d.g
 |42=>if d.g then .pointer (some ⟨d.rb,3,none⟩) else undef
 |43=>if d.g then .slice d.fa d.zs.length d.nK else undef
 |44=>if d.g then .int .i64 d.i else undef
 |45=>if d.g then .int .i64 d.kk else undef
 |46=>if d.g then .agg #[.int .i64 d.i,.int .i64 d.kk] else undef
 |47=>if d.g then .bool d.h else undef
 |48=>if d.g then .bool (!d.h) else undef
 |49=>.bool (d.g && !d.h)
 |_=>undef
structure RdW(d:RdD)(w:World):Prop where
 wk:WkW d.toWkD w
 i:d.i<d.n
 cb0:d.lo<=d.cb
 cb1:w.cell? ⟨d.cb,1,none⟩=some (.int .i64 d.cs)
 cb2:w.cell? ⟨d.cb,2,none⟩=some (.bool d.cc)
abbrev Base(t:Nat):Prop:=t<11/\t≠7
abbrev Qs(i:Nat):Prop:=i<=34
theorem Iw(x y:Int)(w:World):(Instr.build 120 #[(0,.int .i64 x),(1,.int .i64 y)]).run prog w=.ok (.agg #[.int .i64 x,.int .i64 y]) w:=by
 rfl
theorem Ix(x y:Int)(w:World)(es:Array Event):(Instr.build 120 #[(0,.int .i64 x),(1,.int .i64 y)]).events prog w es=es:=by
 rfl
abbrev TQ(d:RdD)(ds:List Deferred)(L:Array Bool)(a:Act)(w:World):Prop:=ia (RdW d) 54 ds dO Base Qs (iP d) (ck d) L a w
abbrev HE(o:Oper)(L:Array Bool):Prop:=∀e∈o.after,Region.binds .any e=true->L.getD e.on false=true
abbrev QC(d:RdD)(o:Oper)(t:Nat)(a:Act)(w:World):Prop:=(Region.wanted o (yielded dO a.tmps)=true/\(∀f,∀e∈listed prog f a o w,EvD d.lo d.F d.i e)/\(execOp a.eval o).run prog w=.ok (.value (ck d t)) w)\/(Region.wanted o (yielded dO a.tmps)=false/\ck d t=undef)
section
variable{d:RdD}{ds:List Deferred}{L:Array Bool}{a:Act}{w:World}
theorem RdW.mv{w w1:World}(h:RdW d w)(e:Bel w.heap.size w w1):RdW d w1:=⟨h.wk.mv e,h.i,h.cb0,e.cellAt h.cb1,e.cellAt h.cb2⟩
theorem RdW.drew{w:World}{k:Nat}(h:RdW d w):RdW d { w with drawn:=k }:=⟨h.wk.drew,h.i,h.cb0,h.cb1,h.cb2⟩
theorem RdW.cbF{w:World}(h:RdW d w):d.cb≠d.F:=by have:=h.wk.low.1;have:=h.cb0;omega
abbrev Cy:Oper:=⟨some 15,(.load 92 (.tmp 2)),92, "dispatch.go:122",#[],none⟩
theorem Rr(hT:TQ d ds L a w)(he:HE Cy L):QC d Cy 15 a w:=by
 have hw:=hT.world;have s2:=hT.base 2 af;simp only[iP] at s2;left;refine⟨rfl,λf e h8=>?_,?_⟩
 .have hm:=mem_listed h8;simp[go_sem,s2,hw.wk.xvc] at hm;subst hm;exact kU hw.wk.apart.2.1
 .simp[go_sem,s2,hw.wk.xvc,ck]
abbrev Cz:Oper:=⟨some 16,(.nilCheck (.tmp 15)),0, "dispatch.go:122",#[⟨0,.data⟩],none⟩
theorem Rs(hT:TQ d ds L a w)(he:HE Cz L):QC d Cz 16 a w:=by
 have hw:=hT.world;have s15:=hT.run 0 _ 15 rfl rfl af (he ⟨0,.data⟩ ae rfl);simp only[ck] at s15;left;refine⟨rfl,λf e h8=>?_,?_⟩
 .have hm:=mem_listed h8;simp[go_sem,s15] at hm
 .simp[go_sem,s15,ck]
abbrev CB:Oper:=⟨some 17,(.fieldAddr 105 (.tmp 16) 1),0, "dispatch.go:122",#[⟨1,.data⟩],none⟩
theorem Ru(hT:TQ d ds L a w)(he:HE CB L):QC d CB 17 a w:=by
 have hw:=hT.world;have s16:=hT.run 1 _ 16 rfl rfl af (he ⟨1,.data⟩ ae rfl);simp only[ck] at s16;left;refine⟨rfl,λf e h8=>?_,?_⟩
 .have hm:=mem_listed h8;simp[go_sem,s16] at hm
 .simp[go_sem,s16,ck]
abbrev CC:Oper:=⟨some 18,(.load 103 (.tmp 17)),103, "dispatch.go:122",#[⟨2,.data⟩],none⟩
theorem Rv(hT:TQ d ds L a w)(he:HE CC L):QC d CC 18 a w:=by
 have hw:=hT.world;have s17:=hT.run 2 _ 17 rfl rfl af (he ⟨2,.data⟩ ae rfl);simp only[ck] at s17;left;refine⟨rfl,λf e h8=>?_,?_⟩
 .have hm:=mem_listed h8;simp[go_sem,s17,hw.wk.oJ] at hm;subst hm;exact kU hw.wk.apart.2.2.1
 .simp[go_sem,s17,hw.wk.oJ,ck]
abbrev CE:Oper:=⟨some 19,(.load 3 (.tmp 3)),3, "dispatch.go:122",#[],none⟩
theorem Rw(hT:TQ d ds L a w)(he:HE CE L):QC d CE 19 a w:=by
 have hw:=hT.world;have s3:=hT.base 3 af;simp only[iP] at s3;left;refine⟨rfl,λf e h8=>?_,?_⟩
 .have hm:=mem_listed h8;simp[go_sem,s3,hw.wk.ibc] at hm;subst hm;exact kU hw.wk.apart.2.2.2.1
 .simp[go_sem,s3,hw.wk.ibc,ck]
abbrev CG:Oper:=⟨some 20,(.load 92 (.tmp 2)),92, "dispatch.go:122",#[],none⟩
theorem Rx(hT:TQ d ds L a w)(he:HE CG L):QC d CG 20 a w:=by
 have hw:=hT.world;have s2:=hT.base 2 af;simp only[iP] at s2;left;refine⟨rfl,λf e h8=>?_,?_⟩
 .have hm:=mem_listed h8;simp[go_sem,s2,hw.wk.xvc] at hm;subst hm;exact kU hw.wk.apart.2.1
 .simp[go_sem,s2,hw.wk.xvc,ck]
abbrev CH:Oper:=⟨some 21,(.nilCheck (.tmp 20)),0, "dispatch.go:122",#[⟨5,.data⟩],none⟩
theorem Ry(hT:TQ d ds L a w)(he:HE CH L):QC d CH 21 a w:=by
 have hw:=hT.world;have s20:=hT.run 5 _ 20 rfl rfl af (he ⟨5,.data⟩ ae rfl);simp only[ck] at s20;left;refine⟨rfl,λf e h8=>?_,?_⟩
 .have hm:=mem_listed h8;simp[go_sem,s20] at hm
 .simp[go_sem,s20,ck]
abbrev CI:Oper:=⟨some 22,(.fieldAddr 105 (.tmp 21) 1),0, "dispatch.go:122",#[⟨6,.data⟩],none⟩
theorem Rz(hT:TQ d ds L a w)(he:HE CI L):QC d CI 22 a w:=by
 have hw:=hT.world;have s21:=hT.run 6 _ 21 rfl rfl af (he ⟨6,.data⟩ ae rfl);simp only[ck] at s21;left;refine⟨rfl,λf e h8=>?_,?_⟩
 .have hm:=mem_listed h8;simp[go_sem,s21] at hm
 .simp[go_sem,s21,ck]
abbrev CJ:Oper:=⟨some 23,(.load 103 (.tmp 22)),103, "dispatch.go:122",#[⟨7,.data⟩],none⟩
theorem RA(hT:TQ d ds L a w)(he:HE CJ L):QC d CJ 23 a w:=by
 have hw:=hT.world;have s22:=hT.run 7 _ 22 rfl rfl af (he ⟨7,.data⟩ ae rfl);simp only[ck] at s22;left;refine⟨rfl,λf e h8=>?_,?_⟩
 .have hm:=mem_listed h8;simp[go_sem,s22,hw.wk.oJ] at hm;subst hm;exact kU hw.wk.apart.2.2.1
 .simp[go_sem,s22,hw.wk.oJ,ck]
abbrev CL:Oper:=⟨some 24,(.load 3 (.tmp 3)),3, "dispatch.go:122",#[],none⟩
theorem RB(hT:TQ d ds L a w)(he:HE CL L):QC d CL 24 a w:=by
 have hw:=hT.world;have s3:=hT.base 3 af;simp only[iP] at s3;left;refine⟨rfl,λf e h8=>?_,?_⟩
 .have hm:=mem_listed h8;simp[go_sem,s3,hw.wk.ibc] at hm;subst hm;exact kU hw.wk.apart.2.2.2.1
 .simp[go_sem,s3,hw.wk.ibc,ck]
abbrev Ar:Oper:=⟨some 25,(.indexAddr 103 (.tmp 23) (.tmp 24)),0, "dispatch.go:122",#[⟨8,.data⟩,⟨9,.data⟩],none⟩
theorem RD(hT:TQ d ds L a w)(he:HE Ar L):QC d Ar 25 a w:=by
 have hw:=hT.world;have s23:=hT.run 8 _ 23 rfl rfl af (he ⟨8,.data⟩ ae rfl);simp only[ck] at s23;have s24:=hT.run 9 _ 24 rfl rfl af (he ⟨9,.data⟩ ae rfl);simp only[ck] at s24;left;refine⟨rfl,λf e h8=>?_,?_⟩
 .have hm:=mem_listed h8;simp[go_sem,s23,s24] at hm;rw[events_indexAt_slice 103 _ _ _ _ _ rfl ⟨JU _,by have:=hw.i;omega⟩] at hm;simp at hm
 .have hi:=hw.i;simp[go_sem,s23,s24,ck,hi]
abbrev rQ:Oper:=⟨some 26,(.load 136 (.tmp 25)),136, "dispatch.go:122",#[⟨10,.data⟩],none⟩
theorem RF(hT:ia (RdW d) 54 ds dO Base Qs (iP d) (ck d) L a w)(hy:w.cell? ⟨d.F,d.i,none⟩=some d.hd)(he:∀e∈rQ.after,Region.binds .any e=true->L.getD e.on false=true):(Region.wanted rQ (yielded dO a.tmps)=true/\(∀f,∀e∈listed prog f a rQ w,EvD d.lo d.F d.i e)/\(execOp a.eval rQ).run prog w=.ok (.value (ck d 26)) w)\/(Region.wanted rQ (yielded dO a.tmps)=false/\ck d 26=undef):=by
 have hw:=hT.world;have s25:=hT.run 10 _ 25 rfl rfl af (he ⟨10,.data⟩ ae rfl);simp only[ck] at s25;left;refine⟨rfl,λf e h8=>?_,?_⟩
 .have hm:=mem_listed h8;simp[go_sem,s25,hy] at hm;subst hm
  exact qB λ_=>rfl
 .simp[go_sem,s25,hy,ck]
abbrev As:Oper:=⟨some 27,(.fieldAddr 89 (.tmp 6) 1),0, "dispatch.go:122",#[],none⟩
theorem RG(hT:TQ d ds L a w)(he:HE As L):QC d As 27 a w:=by
 have hw:=hT.world;have s6:=hT.base 6 af;simp only[iP] at s6;left;refine⟨rfl,λf e h8=>?_,?_⟩
 .have hm:=mem_listed h8;simp[go_sem,s6] at hm
 .simp[go_sem,s6,ck]
abbrev Ax:Oper:=⟨some 28,(.load 3 (.tmp 27)),3, "dispatch.go:122",#[⟨12,.data⟩],none⟩
theorem RH(hT:TQ d ds L a w)(he:HE Ax L):QC d Ax 28 a w:=by
 have hw:=hT.world;have s27:=hT.run 12 _ 27 rfl rfl af (he ⟨12,.data⟩ ae rfl);simp only[ck] at s27;left;refine⟨rfl,λf e h8=>?_,?_⟩
 .have hm:=mem_listed h8;simp[go_sem,s27,hw.cb1] at hm;subst hm;exact kU hw.cbF
 .simp[go_sem,s27,hw.cb1,ck]
abbrev Ay:Oper:=⟨some 29,(.fieldAddr 91 (.tmp 4) 1),0, "dispatch.go:122",#[],none⟩
theorem RJ(hT:TQ d ds L a w)(he:HE Ay L):QC d Ay 29 a w:=by
 have hw:=hT.world;have s4:=hT.base 4 af;simp only[iP] at s4;left;refine⟨rfl,λf e h8=>?_,?_⟩
 .have hm:=mem_listed h8;simp[go_sem,s4] at hm
 .simp[go_sem,s4,ck]
abbrev Az:Oper:=⟨some 30,(.load 3 (.tmp 29)),3, "dispatch.go:122",#[⟨14,.data⟩],none⟩
theorem RK(hT:TQ d ds L a w)(he:HE Az L):QC d Az 30 a w:=by
 have hw:=hT.world;have s29:=hT.run 14 _ 29 rfl rfl af (he ⟨14,.data⟩ ae rfl);simp only[ck] at s29;left;refine⟨rfl,λf e h8=>?_,?_⟩
 .have hm:=mem_listed h8;simp[go_sem,s29,hw.wk.ob1] at hm;subst hm;exact kU hw.wk.apart.2.2.2.2
 .simp[go_sem,s29,hw.wk.ob1,ck]
abbrev AA:Oper:=⟨some 31,(.binOp .geq 3 (.tmp 28) (.tmp 30) 3),4, "dispatch.go:122",#[⟨13,.data⟩,⟨15,.data⟩],none⟩
theorem RO(hT:TQ d ds L a w)(he:HE AA L):QC d AA 31 a w:=by
 have hw:=hT.world;have s28:=hT.run 13 _ 28 rfl rfl af (he ⟨13,.data⟩ ae rfl);simp only[ck] at s28;have s30:=hT.run 15 _ 30 rfl rfl af (he ⟨15,.data⟩ ae rfl);simp only[ck] at s30;left;refine⟨rfl,λf e h8=>?_,?_⟩
 .have hm:=mem_listed h8;simp[go_sem,s28,s30] at hm
 .simp[go_sem,s28,s30,ck,RdD.p]
abbrev AB:Oper:=⟨some 32,(.move (.tmp 31)),4, "dispatch.go:122",#[⟨16,.data⟩],none⟩
theorem RP(hT:TQ d ds L a w)(he:HE AB L):QC d AB 32 a w:=by
 have hw:=hT.world;have s31:=hT.run 16 _ 31 rfl rfl af (he ⟨16,.data⟩ ae rfl);simp only[ck] at s31;left;refine⟨rfl,λf e h8=>?_,?_⟩
 .have hm:=mem_listed h8;simp[go_sem,s31] at hm
 .simp[go_sem,s31,ck]
abbrev wO:Oper:=⟨some 33,(.fieldAddr 89 (.tmp 6) 2),0, "dispatch.go:122",#[⟨17,.guard⟩],(some (17,true))⟩
theorem RQ(hT:TQ d ds L a w)(he:HE wO L):QC d wO 33 a w:=by
 unfold QC;have hw:=hT.world;have s6:=hT.base 6 af;simp only[iP] at s6;have sg:=hT.run 17 _ 32 rfl rfl af (he ⟨17,.guard⟩ ae rfl);simp only[ck] at sg;have h9:=jM (ops:=dO) (o:=wO) (tmps:=a.tmps) (j:=17) (t:=32) (want:=true) rfl rfl sg;obtain⟨bp,hp⟩:∃b,b=d.p:=⟨_,rfl⟩;simp only[ck,<-hp] at *;cases bp
 all_goals simp only[isB,dz,cz,cT,iZ,js,fQ,iJ,ik,jq,ju,jI,iX,jJ] at *
 all_goals first
  |(right;exact⟨h9,rfl⟩)
  |(right;exact h9)
  |(right;exact⟨h9,trivial⟩)
  |(left
    refine⟨h9,λf e h8=>?_,?_⟩
    .have hm:=mem_listed h8;simp[go_sem,s6] at hm
    .simp[go_sem,s6,ck])
abbrev wP:Oper:=⟨some 34,(.load 4 (.tmp 33)),4, "dispatch.go:122",#[⟨18,.data⟩,⟨17,.guard⟩],(some (17,true))⟩
theorem RS(hT:TQ d ds L a w)(he:HE wP L):QC d wP 34 a w:=by
 unfold QC;have hw:=hT.world;have s33:=hT.run 18 _ 33 rfl rfl af (he ⟨18,.data⟩ ae rfl);simp only[ck] at s33;have sg:=hT.run 17 _ 32 rfl rfl af (he ⟨17,.guard⟩ ae rfl);simp only[ck] at sg;have h9:=jM (ops:=dO) (o:=wP) (tmps:=a.tmps) (j:=17) (t:=32) (want:=true) rfl rfl sg;obtain⟨bp,hp⟩:∃b,b=d.p:=⟨_,rfl⟩;simp only[ck,<-hp] at *;cases bp
 all_goals simp only[isB,dz,cz,cT,iZ,js,fQ,iJ,ik,jq,ju,jI,iX,jJ] at *
 all_goals first
  |(right;exact⟨h9,rfl⟩)
  |(right;exact h9)
  |(right;exact⟨h9,trivial⟩)
  |(left
    refine⟨h9,λf e h8=>?_,?_⟩
    .have hm:=mem_listed h8;simp[go_sem,s33,hw.cb2] at hm;subst hm;exact kU hw.cbF
    .simp[go_sem,s33,hw.cb2,ck])
abbrev wQ:Oper:=⟨some 35,(.move (.tmp 34)),4, "dispatch.go:122",#[⟨19,.data⟩,⟨17,.chain⟩,⟨17,.guard⟩],(some (17,true))⟩
theorem RU(hT:TQ d ds L a w)(he:HE wQ L):QC d wQ 35 a w:=by
 unfold QC;have hw:=hT.world;have s34:=hT.run 19 _ 34 rfl rfl af (he ⟨19,.data⟩ ae rfl);simp only[ck] at s34;have sg:=hT.run 17 _ 32 rfl rfl af (he ⟨17,.guard⟩ ae rfl);simp only[ck] at sg;have h9:=jM (ops:=dO) (o:=wQ) (tmps:=a.tmps) (j:=17) (t:=32) (want:=true) rfl rfl sg;obtain⟨bp,hp⟩:∃b,b=d.p:=⟨_,rfl⟩;simp only[ck,<-hp] at *;cases bp
 all_goals simp only[isB,dz,cz,cT,iZ,js,fQ,iJ,ik,jq,ju,jI,iX,jJ] at *
 all_goals first
  |(right;exact⟨h9,rfl⟩)
  |(right;exact h9)
  |(right;exact⟨h9,trivial⟩)
  |(left
    refine⟨h9,λf e h8=>?_,?_⟩
    .have hm:=mem_listed h8;simp[go_sem,s34] at hm
    .simp[go_sem,s34,ck])
abbrev wR:Oper:=⟨some 36,(.fieldAddr 91 (.tmp 4) 2),0, "dispatch.go:122",#[⟨20,.guard⟩],(some (20,false))⟩
theorem RV(hT:TQ d ds L a w)(he:HE wR L):QC d wR 36 a w:=by
 unfold QC;have hw:=hT.world;have s4:=hT.base 4 af;simp only[iP] at s4;have sg:=hT.run 20 _ 35 rfl rfl af (he ⟨20,.guard⟩ ae rfl);simp only[ck] at sg;have h9:=jM (ops:=dO) (o:=wR) (tmps:=a.tmps) (j:=20) (t:=35) (want:=false) rfl rfl sg;obtain⟨bp,hp⟩:∃b,b=d.p:=⟨_,rfl⟩;obtain⟨bcc,ha⟩:∃b,b=d.cc:=⟨_,rfl⟩;simp only[ck,<-hp,<-ha] at *
 cases bp<;>cases bcc
 all_goals simp only[isB,dz,cz,cT,iZ,js,fQ,iJ,ik,jq,ju,jI,iX,jJ] at *
 all_goals first
  |(right;exact⟨h9,rfl⟩)
  |(right;exact h9)
  |(right;exact⟨h9,trivial⟩)
  |(left
    refine⟨h9,λf e h8=>?_,?_⟩
    .have hm:=mem_listed h8;simp[go_sem,s4] at hm
    .simp[go_sem,s4,ck])
abbrev wS:Oper:=⟨some 37,(.load 4 (.tmp 36)),4, "dispatch.go:122",#[⟨21,.data⟩,⟨20,.guard⟩],(some (20,false))⟩
theorem RX(hT:TQ d ds L a w)(he:HE wS L):QC d wS 37 a w:=by
 unfold QC;have hw:=hT.world;have s36:=hT.run 21 _ 36 rfl rfl af (he ⟨21,.data⟩ ae rfl);simp only[ck] at s36;have sg:=hT.run 20 _ 35 rfl rfl af (he ⟨20,.guard⟩ ae rfl);simp only[ck] at sg;have h9:=jM (ops:=dO) (o:=wS) (tmps:=a.tmps) (j:=20) (t:=35) (want:=false) rfl rfl sg;obtain⟨bp,hp⟩:∃b,b=d.p:=⟨_,rfl⟩;obtain⟨bcc,ha⟩:∃b,b=d.cc:=⟨_,rfl⟩;simp only[ck,<-hp,<-ha] at *
 cases bp<;>cases bcc
 all_goals simp only[isB,dz,cz,cT,iZ,js,fQ,iJ,ik,jq,ju,jI,iX,jJ] at *
 all_goals first
  |(right;exact⟨h9,rfl⟩)
  |(right;exact h9)
  |(right;exact⟨h9,trivial⟩)
  |(left
    refine⟨h9,λf e h8=>?_,?_⟩
    .have hm:=mem_listed h8;simp[go_sem,s36,hw.wk.ob2] at hm;subst hm;exact kU hw.wk.apart.2.2.2.2
    .simp[go_sem,s36,hw.wk.ob2,ck])
abbrev wT:Oper:=⟨some 38,(.unOp .not 4 (.tmp 37)),4, "dispatch.go:122",#[⟨22,.data⟩,⟨20,.guard⟩],(some (20,false))⟩
theorem RY(hT:TQ d ds L a w)(he:HE wT L):QC d wT 38 a w:=by
 unfold QC;have hw:=hT.world;have s37:=hT.run 22 _ 37 rfl rfl af (he ⟨22,.data⟩ ae rfl);simp only[ck] at s37;have sg:=hT.run 20 _ 35 rfl rfl af (he ⟨20,.guard⟩ ae rfl);simp only[ck] at sg;have h9:=jM (ops:=dO) (o:=wT) (tmps:=a.tmps) (j:=20) (t:=35) (want:=false) rfl rfl sg;obtain⟨bp,hp⟩:∃b,b=d.p:=⟨_,rfl⟩;obtain⟨bcc,ha⟩:∃b,b=d.cc:=⟨_,rfl⟩;simp only[ck,<-hp,<-ha] at *
 cases bp<;>cases bcc
 all_goals simp only[isB,dz,cz,cT,iZ,js,fQ,iJ,ik,jq,ju,jI,iX,jJ] at *
 all_goals first
  |(right;exact⟨h9,rfl⟩)
  |(right;exact h9)
  |(right;exact⟨h9,trivial⟩)
  |(left
    refine⟨h9,λf e h8=>?_,?_⟩
    .have hm:=mem_listed h8;simp[go_sem,s37] at hm
    .simp[go_sem,s37,ck])
abbrev wU:Oper:=⟨some 39,(.pick (.tmp 35) (.const (.bool true)) (.tmp 38)),4, "dispatch.go:122",#[⟨20,.data⟩,⟨23,.data⟩,⟨17,.guard⟩],(some (17,true))⟩
theorem RZ(hT:TQ d ds L a w)(he:HE wU L):QC d wU 39 a w:=by
 unfold QC;have hw:=hT.world;have s35:=hT.run 20 _ 35 rfl rfl af (he ⟨20,.data⟩ ae rfl);simp only[ck] at s35;have s38:=hT.run 23 _ 38 rfl rfl af (he ⟨23,.data⟩ ae rfl);simp only[ck] at s38;have sg:=hT.run 17 _ 32 rfl rfl af (he ⟨17,.guard⟩ ae rfl);simp only[ck] at sg;have h9:=jM (ops:=dO) (o:=wU) (tmps:=a.tmps) (j:=17) (t:=32) (want:=true) rfl rfl sg;obtain⟨bp,hp⟩:∃b,b=d.p:=⟨_,rfl⟩;obtain⟨bcc,ha⟩:∃b,b=d.cc:=⟨_,rfl⟩;obtain⟨bchair,hc⟩:∃b,b=d.oI:=⟨_,rfl⟩;simp only[ck,<-hp,<-ha,<-hc] at *
 cases bp<;>cases bcc<;>cases bchair
 all_goals simp only[isB,dz,cz,cT,iZ,js,fQ,iJ,ik,jq,ju,jI,iX,jJ] at *
 all_goals first
  |(right;exact⟨h9,rfl⟩)
  |(right;exact h9)
  |(right;exact⟨h9,trivial⟩)
  |(left
    refine⟨h9,λf e h8=>?_,?_⟩
    .have hm:=mem_listed h8;simp[go_sem,s35,s38] at hm
    .simp[go_sem,s35,s38,ck])
abbrev AD:Oper:=⟨some 40,(.pick (.tmp 32) (.tmp 39) (.const (.bool false))),4, "dispatch.go:122",#[⟨17,.data⟩,⟨24,.data⟩],none⟩
theorem R3(hT:TQ d ds L a w)(he:HE AD L):QC d AD 40 a w:=by
 unfold QC;have hw:=hT.world;have s32:=hT.run 17 _ 32 rfl rfl af (he ⟨17,.data⟩ ae rfl);simp only[ck] at s32;have s39:=hT.run 24 _ 39 rfl rfl af (he ⟨24,.data⟩ ae rfl);simp only[ck] at s39;obtain⟨bp,hp⟩:∃b,b=d.p:=⟨_,rfl⟩;obtain⟨bq,hq⟩:∃b,b=(d.cc || !d.oI):=⟨_,rfl⟩;simp only[ck,RdD.g,<-hp,<-hq] at *
 cases bp<;>cases bq
 all_goals simp only[isB,dz,cz,cT,iZ,js,fQ,iJ,ik,jq,ju,jI,iX,jJ] at *
 all_goals first
  |(right;exact⟨h9,rfl⟩)
  |(right;exact h9)
  |(right;exact⟨h9,trivial⟩)
  |(left
    refine⟨rfl,λf e h8=>?_,?_⟩
    .have hm:=mem_listed h8;simp[go_sem,s32,s39] at hm
    .simp[go_sem,s32,s39,ck])
abbrev AE:Oper:=⟨some 41,(.move (.tmp 40)),4, "dispatch.go:122",#[⟨25,.data⟩,⟨20,.chain⟩],none⟩
theorem R4(hT:TQ d ds L a w)(he:HE AE L):QC d AE 41 a w:=by
 have hw:=hT.world;have s40:=hT.run 25 _ 40 rfl rfl af (he ⟨25,.data⟩ ae rfl);simp only[ck] at s40;left;refine⟨rfl,λf e h8=>?_,?_⟩
 .have hm:=mem_listed h8;simp[go_sem,s40] at hm
 .simp[go_sem,s40,ck]
abbrev wV:Oper:=⟨some 42,(.fieldAddr 27 (.tmp 1) 3),0, "dispatch.go:122",#[⟨26,.guard⟩],(some (26,true))⟩
theorem R5(hT:TQ d ds L a w)(he:HE wV L):QC d wV 42 a w:=by
 unfold QC;have hw:=hT.world;have s1:=hT.base 1 af;simp only[iP] at s1;have sg:=hT.run 26 _ 41 rfl rfl af (he ⟨26,.guard⟩ ae rfl);simp only[ck] at sg;have h9:=jM (ops:=dO) (o:=wV) (tmps:=a.tmps) (j:=26) (t:=41) (want:=true) rfl rfl sg;obtain⟨bg,hg⟩:∃b,b=d.g:=⟨_,rfl⟩;simp only[ck,<-hg] at *;cases bg
 all_goals simp only[isB,dz,cz,cT,iZ,js,fQ,iJ,ik,jq,ju,jI,iX,jJ] at *
 all_goals first
  |(right;exact⟨h9,rfl⟩)
  |(right;exact h9)
  |(right;exact⟨h9,trivial⟩)
  |(left
    refine⟨h9,λf e h8=>?_,?_⟩
    .have hm:=mem_listed h8;simp[go_sem,s1] at hm
    .simp[go_sem,s1,ck])
abbrev wW:Oper:=⟨some 43,(.load 25 (.tmp 42)),25, "dispatch.go:122",#[⟨27,.data⟩,⟨26,.guard⟩],(some (26,true))⟩
theorem R6(hT:TQ d ds L a w)(he:HE wW L):QC d wW 43 a w:=by
 unfold QC;have hw:=hT.world;have s42:=hT.run 27 _ 42 rfl rfl af (he ⟨27,.data⟩ ae rfl);simp only[ck] at s42;have sg:=hT.run 26 _ 41 rfl rfl af (he ⟨26,.guard⟩ ae rfl);simp only[ck] at sg;have h9:=jM (ops:=dO) (o:=wW) (tmps:=a.tmps) (j:=26) (t:=41) (want:=true) rfl rfl sg;obtain⟨bg,hg⟩:∃b,b=d.g:=⟨_,rfl⟩;simp only[ck,<-hg] at *;cases bg
 all_goals simp only[isB,dz,cz,cT,iZ,js,fQ,iJ,ik,jq,ju,jI,iX,jJ] at *
 all_goals first
  |(right;exact⟨h9,rfl⟩)
  |(right;exact h9)
  |(right;exact⟨h9,trivial⟩)
  |(left
    refine⟨h9,λf e h8=>?_,?_⟩
    .have hm:=mem_listed h8;simp[go_sem,s42,hw.wk.qS] at hm;subst hm;exact kU hw.wk.apart.1
    .simp[go_sem,s42,hw.wk.qS,ck])
abbrev wX:Oper:=⟨some 44,(.load 3 (.tmp 3)),3, "dispatch.go:122",#[⟨26,.guard⟩],(some (26,true))⟩
theorem R7(hT:TQ d ds L a w)(he:HE wX L):QC d wX 44 a w:=by
 unfold QC;have hw:=hT.world;have s3:=hT.base 3 af;simp only[iP] at s3;have sg:=hT.run 26 _ 41 rfl rfl af (he ⟨26,.guard⟩ ae rfl);simp only[ck] at sg;have h9:=jM (ops:=dO) (o:=wX) (tmps:=a.tmps) (j:=26) (t:=41) (want:=true) rfl rfl sg;obtain⟨bg,hg⟩:∃b,b=d.g:=⟨_,rfl⟩;simp only[ck,<-hg] at *;cases bg
 all_goals simp only[isB,dz,cz,cT,iZ,js,fQ,iJ,ik,jq,ju,jI,iX,jJ] at *
 all_goals first
  |(right;exact⟨h9,rfl⟩)
  |(right;exact h9)
  |(right;exact⟨h9,trivial⟩)
  |(left
    refine⟨h9,λf e h8=>?_,?_⟩
    .have hm:=mem_listed h8;simp[go_sem,s3,hw.wk.ibc] at hm;subst hm;exact kU hw.wk.apart.2.2.2.1
    .simp[go_sem,s3,hw.wk.ibc,ck])
abbrev wY:Oper:=⟨some 45,(.move (.tmp 5)),3, "dispatch.go:122",#[⟨26,.guard⟩],(some (26,true))⟩
theorem R8(hT:TQ d ds L a w)(he:HE wY L):QC d wY 45 a w:=by
 unfold QC;have hw:=hT.world;have s5:=hT.base 5 af;simp only[iP] at s5;have sg:=hT.run 26 _ 41 rfl rfl af (he ⟨26,.guard⟩ ae rfl);simp only[ck] at sg;have h9:=jM (ops:=dO) (o:=wY) (tmps:=a.tmps) (j:=26) (t:=41) (want:=true) rfl rfl sg;obtain⟨bg,hg⟩:∃b,b=d.g:=⟨_,rfl⟩;simp only[ck,<-hg] at *;cases bg
 all_goals simp only[isB,dz,cz,cT,iZ,js,fQ,iJ,ik,jq,ju,jI,iX,jJ] at *
 all_goals first
  |(right;exact⟨h9,rfl⟩)
  |(right;exact h9)
  |(right;exact⟨h9,trivial⟩)
  |(left
    refine⟨h9,λf e h8=>?_,?_⟩
    .have hm:=mem_listed h8;simp[go_sem,s5] at hm
    .simp[go_sem,s5,ck])
abbrev wZ:Oper:=⟨some 46,(.build 120 #[(0,(.tmp 44)),(1,(.tmp 45))]),120, "dispatch.go:122",#[⟨29,.data⟩,⟨30,.data⟩,⟨26,.guard⟩],(some (26,true))⟩
theorem R9(hT:TQ d ds L a w)(he:HE wZ L):QC d wZ 46 a w:=by
 unfold QC;have hw:=hT.world;have s44:=hT.run 29 _ 44 rfl rfl af (he ⟨29,.data⟩ ae rfl);simp only[ck] at s44;have s45:=hT.run 30 _ 45 rfl rfl af (he ⟨30,.data⟩ ae rfl);simp only[ck] at s45;have sg:=hT.run 26 _ 41 rfl rfl af (he ⟨26,.guard⟩ ae rfl);simp only[ck] at sg;have h9:=jM (ops:=dO) (o:=wZ) (tmps:=a.tmps) (j:=26) (t:=41) (want:=true) rfl rfl sg;obtain⟨bg,hg⟩:∃b,b=d.g:=⟨_,rfl⟩;simp only[ck,<-hg] at *;cases bg
 all_goals simp only[isB,dz,cz,cT,iZ,js,fQ,iJ,ik,jq,ju,jI,iX,jJ] at *
 all_goals first
  |(right;exact⟨h9,rfl⟩)
  |(right;exact h9)
  |(right;exact⟨h9,trivial⟩)
  |(left
    refine⟨h9,λf e h8=>?_,?_⟩
    .have hm:=mem_listed h8;simp[go_sem,s44,s45,Iw,Ix] at hm
    .simp[go_sem,s44,s45,Iw,Ix,ck])
abbrev rR:Oper:=⟨some 47,(.call ⟨(.value (.func 107)),#[.tmp 43,(.tmp 46)],#[25,120]⟩),4, "dispatch.go:122",#[⟨28,.data⟩,⟨31,.data⟩,⟨26,.chain⟩,⟨26,.guard⟩],(some (26,true))⟩
abbrev w9:Oper:=⟨some 48,(.unOp .not 4 (.tmp 47)),4, "dispatch.go:122",#[⟨32,.data⟩,⟨26,.guard⟩],(some (26,true))⟩
theorem Sa(hT:TQ d ds L a w)(he:HE w9 L):QC d w9 48 a w:=by
 unfold QC;have hw:=hT.world;have s47:=hT.run 32 _ 47 rfl rfl af (he ⟨32,.data⟩ ae rfl);simp only[ck] at s47;have sg:=hT.run 26 _ 41 rfl rfl af (he ⟨26,.guard⟩ ae rfl);simp only[ck] at sg;have h9:=jM (ops:=dO) (o:=w9) (tmps:=a.tmps) (j:=26) (t:=41) (want:=true) rfl rfl sg;obtain⟨bg,hg⟩:∃b,b=d.g:=⟨_,rfl⟩;simp only[ck,<-hg] at *;cases bg
 all_goals simp only[isB,dz,cz,cT,iZ,js,fQ,iJ,ik,jq,ju,jI,iX,jJ] at *
 all_goals first
  |(right;exact⟨h9,rfl⟩)
  |(right;exact h9)
  |(right;exact⟨h9,trivial⟩)
  |(left
    refine⟨h9,λf e h8=>?_,?_⟩
    .have hm:=mem_listed h8;simp[go_sem,s47] at hm
    .simp[go_sem,s47,ck])
abbrev AF:Oper:=⟨some 49,(.pick (.tmp 41) (.tmp 48) (.const (.bool false))),4, "dispatch.go:122",#[⟨26,.data⟩,⟨33,.data⟩],none⟩
theorem Sb(hT:TQ d ds L a w)(he:HE AF L):QC d AF 49 a w:=by
 unfold QC;have hw:=hT.world;have s41:=hT.run 26 _ 41 rfl rfl af (he ⟨26,.data⟩ ae rfl);simp only[ck] at s41;have s48:=hT.run 33 _ 48 rfl rfl af (he ⟨33,.data⟩ ae rfl);simp only[ck] at s48;obtain⟨bg,hg⟩:∃b,b=d.g:=⟨_,rfl⟩;obtain⟨bh,hh⟩:∃b,b=d.h:=⟨_,rfl⟩;simp only[ck,<-hg,<-hh] at *
 cases bg<;>cases bh
 all_goals simp only[isB,dz,cz,cT,iZ,js,fQ,iJ,ik,jq,ju,jI,iX,jJ] at *
 all_goals first
  |(right;exact⟨h9,rfl⟩)
  |(right;exact h9)
  |(right;exact⟨h9,trivial⟩)
  |(left
    refine⟨rfl,λf e h8=>?_,?_⟩
    .have hm:=mem_listed h8;simp[go_sem,s41,s48] at hm
    .simp[go_sem,s41,s48,ck])
abbrev ua:Oper:=⟨some 50,(.buildSlice 136 1 #[(0,(.tmp 49))]),136, "dispatch.go:122",#[⟨34,.data⟩],none⟩
abbrev ug:Oper:=⟨some 51,(.call ⟨(.builtin .append),#[.tmp 26,(.tmp 50)],#[136,136]⟩),136, "dispatch.go:122",#[⟨11,.data⟩,⟨35,.data⟩,⟨32,.chain⟩],none⟩
abbrev uh:Oper:=⟨some 52,(.indexAddr 103 (.tmp 18) (.tmp 19)),0, "dispatch.go:122",#[⟨3,.data⟩,⟨4,.data⟩,⟨0,.phase⟩,⟨1,.phase⟩,⟨2,.phase⟩,⟨3,.phase⟩,⟨4,.phase⟩,⟨5,.phase⟩,⟨6,.phase⟩,⟨7,.phase⟩,⟨8,.phase⟩,⟨9,.phase⟩,⟨10,.phase⟩,⟨11,.phase⟩,⟨12,.phase⟩,⟨13,.phase⟩,⟨14,.phase⟩,⟨15,.phase⟩,⟨16,.phase⟩,⟨17,.phase⟩,⟨18,.phase⟩,⟨19,.phase⟩,⟨20,.phase⟩,⟨21,.phase⟩,⟨22,.phase⟩,⟨23,.phase⟩,⟨24,.phase⟩,⟨25,.phase⟩,⟨26,.phase⟩,⟨27,.phase⟩,⟨28,.phase⟩,⟨29,.phase⟩,⟨30,.phase⟩,⟨31,.phase⟩,⟨32,.phase⟩,⟨33,.phase⟩,⟨34,.phase⟩,⟨35,.phase⟩,⟨36,.phase⟩],none⟩
abbrev qC:Oper:=⟨none,(.store 136 (.tmp 52) (.tmp 51)),0, "dispatch.go:122",#[⟨37,.data⟩,⟨36,.data⟩,⟨36,.chain⟩,⟨0,.phase⟩,⟨1,.phase⟩,⟨2,.phase⟩,⟨3,.phase⟩,⟨4,.phase⟩,⟨5,.phase⟩,⟨6,.phase⟩,⟨7,.phase⟩,⟨8,.phase⟩,⟨9,.phase⟩,⟨10,.phase⟩,⟨11,.phase⟩,⟨12,.phase⟩,⟨13,.phase⟩,⟨14,.phase⟩,⟨15,.phase⟩,⟨16,.phase⟩,⟨17,.phase⟩,⟨18,.phase⟩,⟨19,.phase⟩,⟨20,.phase⟩,⟨21,.phase⟩,⟨22,.phase⟩,⟨23,.phase⟩,⟨24,.phase⟩,⟨25,.phase⟩,⟨26,.phase⟩,⟨27,.phase⟩,⟨28,.phase⟩,⟨29,.phase⟩,⟨30,.phase⟩,⟨31,.phase⟩,⟨32,.phase⟩,⟨33,.phase⟩,⟨34,.phase⟩,⟨35,.phase⟩,⟨36,.phase⟩],none⟩
end
end Go.Proofs.Tw
