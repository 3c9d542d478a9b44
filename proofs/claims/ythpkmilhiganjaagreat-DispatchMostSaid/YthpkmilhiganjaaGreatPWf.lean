/- Lemmas. -/
import Derived.Test.YthpkmilhiganjaaGreatPWe
import Derived.Test.YthpkmilhiganjaaGreatPNd
set_option linter.all false
set_option maxHeartbeats 32000000
set_option maxRecDepth 100000
namespace Go.Proofs.Tw
open Go Go.Fi Go.Fc Go.Conc Go.RowKit
theorem uo{α:Type}{f:α->List PV}{s:Nat}(hf:∀x,(f x).length=s):∀(l:List α),(l.flatMap f).length=l.length*s
 |[]=>by simp
 |y::l=>by rw[oV,nX,hf,uo hf l,il,iY];omega
theorem xp{α:Type}{f:α->List PV}{s:Nat}(hf:∀x,(f x).length=s):∀(l:List α)(j:Nat)(x:α)(k:Nat),l[j]?=some x->k<s->(l.flatMap f)[j*s+k]?=(f x)[k]?
 |y::l,0,x,k,h,hk=>by
  grind
 |y::l,j+1,x,k,h,hk=>by
  rw[yA] at h;rw[oV,tI (by rw[hf,iY];omega),hf,show (j+1)*s+k-s=j*s+k by rw[iY];omega];exact xp hf l j x k h hk
theorem BB{α:Type}{G:Nat->Prop}{A:World}{v:Value}{l:List α}{f:α->List PV}{s:Nat}(hs:0<s)(hf:∀x,(f x).length=s)(h:Rep G A (.sl l.length (l.flatMap f)) v):∃a0 cap,v=.slice a0 l.length cap/\∀j x,l[j]?=some x->∃b off,a0=some ⟨b,off,none⟩/\b<A.heap.size/\∀k p,k<s->(f x)[k]?=some p->∃u,A.cell? ⟨b,off+(j*s+k),none⟩=some u/\Rep G A p u:=by
 have hlen:(l.flatMap f).length=l.length*s:=uo hf l;generalize hn:l.length=n at h hlen ⊢;generalize hc:l.flatMap f=cells at h hlen
 cases h with
 |slnil=>
  simp_all
 |slz hle=>
  refine⟨_,_,rfl,λj x hj=>?_⟩;have h1:=(eX.1 hj).1
  have:l.length*s=0:=by rw[hn];simp_all
  rcases Nat.mul_eq_zero.1 this with h|h<;>omega
 |sl vals hle a9 hG aa=>
  rename_i cap b off;refine⟨_,cap,rfl,λj x hj=>⟨b,off,rfl,?_,λk p hk hp=>?_⟩⟩
  .have h1:=(eX.1 hj).1;refine a9.lt ?_;rw[hlen];exact Nat.mul_pos ab hs
  .have hg:=xp hf l j x k hj hk;rw[hc,hp] at hg;have b4:=(eX.1 hg).1;exact⟨vals (j*s+k),a9 _ b4,aa _ _ hg⟩
structure RND where
 bD:List (ByteArray×Int×Bool)
 os:List (ByteArray×Int×Bool×Int)
 wt:List (List Int)
 zs:List (Int×Int)
 fS:(∀c∈bD,c.1.size<1000000)/\(∀o∈os,o.1.size<1000000)/\(∀w∈wt,w.length<100000)/\bD.length<100000/\os.length<100000/\wt.length<100000/\zs.length<100000
def Df(l:List Int):PV:=.sl l.length (l.map λn=>.int .i64 n)
def RND.nw(r:RND):Nat:=r.wt.length
def RND.wait(r:RND):List PV:=r.wt.map Df
def fq(c:ByteArray×Int×Bool):List PV:=[.str c.1,.int .i64 c.2.1,.bool c.2.2]
def dY(c:ByteArray×Int×Bool×Int):List PV:=[.str c.1,.int .i64 c.2.1,.bool c.2.2.1,.int .i64 c.2.2.2]
def eD(c:Int×Int):List PV:=[.int .i64 c.1,.int .i64 c.2]
def RND.jY(r:RND):PV:=.sl r.bD.length (r.bD.flatMap fq)
def RND.osP(r:RND):PV:=.sl r.os.length (r.os.flatMap dY)
def RND.lW(r:RND):PV:=.sl r.nw r.wait
def RND.zsP(r:RND):PV:=.sl r.zs.length (r.zs.flatMap eD)
def dT(r:RND):PV:=.agg [r.jY,r.osP,r.lW,r.zsP]
theorem Rep.isSlice{G:Nat->Prop}{A:World}{n:Nat}{cs:List PV}{v:Value}(h:Rep G A (.sl n cs) v):∃a cap,v=.slice a n cap:=by
 cases h with
 |slnil=>simp
 |sl=>simp
 |slz=>simp
section
variable{G:Nat->Prop}{A w:World}{F lo n0:Nat}
theorem Oo{bD:List (ByteArray×Int×Bool)}{v:Value}(h:Rep G A (.sl bD.length (bD.flatMap fq)) v)(hn:A.heap.size<=F)(bi:A.heap.size<=lo)(ht:∀b k v,b<A.heap.size->A.cell? ⟨b,k,none⟩=some v->w.cell? ⟨b,k,none⟩=some v):∃a0 cap,v=.slice a0 bD.length cap/\sH F lo w a0 bD:=by
 obtain⟨a0,cap,rfl,hc⟩:=BB (s:=3) af (λ_=>rfl) h;refine⟨a0,cap,rfl,λj hj=>?_⟩
 have hx:bD[j]?=some (bD.getD j (default,0,false)):=by rw[dP hj];simp[dZ,dP hj]
 obtain⟨b,off,h1,h2,h3⟩:=hc j _ hx;obtain⟨u0,x0,y0⟩:=h3 0 _ af rfl;obtain⟨u1,x1,y1⟩:=h3 1 _ af rfl;obtain⟨u2,x2,y2⟩:=h3 2 _ af rfl;cases y0;cases y1;cases y2
 grind
theorem Oq{os:List (ByteArray×Int×Bool×Int)}{v:Value}(h:Rep G A (.sl os.length (os.flatMap dY)) v)(hn:A.heap.size<=F)(bi:A.heap.size<=lo)(ht:∀b k v,b<A.heap.size->A.cell? ⟨b,k,none⟩=some v->w.cell? ⟨b,k,none⟩=some v):∃a0 cap,v=.slice a0 os.length cap/\nM F w a0 os/\∀j,j<os.length->∀ad,a0=some ad->ad.block<lo:=by
 obtain⟨a0,cap,rfl,hc⟩:=BB (s:=4) af (λ_=>rfl) h
 have hx:∀j,j<os.length->os[j]?=some (os.getD j (default,0,false,0)):=λj hj=>by rw[dP hj];simp[dZ,dP hj]
 refine⟨a0,cap,rfl,λj hj=>?_,λj hj ad c5=>?_⟩
 .obtain⟨b,off,h1,h2,h3⟩:=hc j _ (hx j hj);obtain⟨u0,x0,y0⟩:=h3 0 _ af rfl;obtain⟨u1,x1,y1⟩:=h3 1 _ af rfl;obtain⟨u2,x2,y2⟩:=h3 2 _ af rfl;obtain⟨u3,x3,y3⟩:=h3 3 _ af rfl;cases y0;cases y1;cases y2;cases y3;exact⟨b,off,h1,ab,ht _ _ _ h2 x0,ht _ _ _ h2 x1,ht _ _ _ h2 x2,ht _ _ _ h2 x3⟩
 grind
theorem Ot{zs:List (Int×Int)}{v:Value}(h:Rep G A (.sl zs.length (zs.flatMap eD)) v)(hn:A.heap.size<=F)(bi:A.heap.size<=lo)(ht:∀b k v,b<A.heap.size->A.cell? ⟨b,k,none⟩=some v->w.cell? ⟨b,k,none⟩=some v):∃a0 cap,v=.slice a0 zs.length cap/\lP F w a0 zs/\∀j,j<zs.length->∀ad,a0=some ad->ad.block<lo:=by
 obtain⟨a0,cap,rfl,hc⟩:=BB (s:=2) af (λ_=>rfl) h
 have hx:∀j,j<zs.length->zs[j]?=some (zs.getD j (0,0)):=λj hj=>by rw[dP hj];simp[dZ,dP hj]
 refine⟨a0,cap,rfl,λj hj=>?_,λj hj ad c5=>?_⟩
 .obtain⟨b,off,h1,h2,h3⟩:=hc j _ (hx j hj);obtain⟨u0,x0,y0⟩:=h3 0 _ af rfl;obtain⟨u1,x1,y1⟩:=h3 1 _ af rfl;cases y0;cases y1;exact⟨b,off,h1,ab,ht _ _ _ h2 x0,ht _ _ _ h2 x1⟩
 grind
end
abbrev sU:Code:=.seq (.region 0 xl false) (.seq (.seq (.region 1 qG false) cZ) cR4)
theorem Tb:@codeOk xfW prog sU=true:=aj
theorem Tc(v:Value):Frame.enter Tryz.prog 69 #[v] .normal=b20.atR ⟨#[v]++Array.replicate 37 undef,[]⟩ [.code sU]:=by
 rw[enter_at _ Tryz.func69 Oe];rfl
theorem Td(v:Value):SlS (λt=>if t=0 then some v else none) ⟨#[v]++Array.replicate 37 undef,[]⟩:=
 ⟨ae,rfl,λt x ht=>by
   simp_all⟩
theorem Ou(a:Act):@dh xfW prog Tryz.prog (b20.atR a [.code sU]):=by
 letI:=xfW
 refine⟨λit cf=>?_,eU,.inr ⟨.inl rfl,rfl,rfl,rfl,trivial⟩,λch=>by simp[Frame.atR,b20],⟨_,_,SQ,Tryz.func69,I5,I5⟩⟩
 have:it=.code sU:=by simpa[Frame.atR] using cf
 subst this;exact Tb
theorem uq{fr:Frame}{f:FuncId}{args:Array Value}{P:Program}(h:fr.todo.length≠1):Frame.enter P f args .normal≠fr:=λe=>by
 obtain⟨c,hc⟩:∃c,(Frame.enter P f args .normal).todo=[.code c]:=⟨_,rfl⟩;rw[e] at hc;rw[hc] at h;exact h rfl
structure pQ(P0:Program)[X:Xf][L0:bI](bad0:Nat->Prop)(ci ce:RND->Int)(fr37:Bool):Prop where
 hp:qO P0 Tryz.prog bad0
 CM:∀f,¬Xf.bot f
 Te:∀f args w R,¬EnvD.xt f args w R
 up:∀o,okO (@Cc xfW prog Tryz.prog) o->okO (@Cc X P0 Tryz.prog) o
 ent:∀v,Frame.enter Tryz.prog 55 #[v] .normal=Frame.enter P0 55 #[v] .normal
 Dg:∀v,dh P0 Tryz.prog (Frame.enter P0 55 #[v] .normal)
 chk:∀r,bX P0 55 [dT r] (.tup [.int .i64 (ci r),.int .i64 (ce r)]) fr37
 lim:∀r,ce r=0->r.os.length<=1000/\r.zs.length<=64/\r.bD.length<=1000
section
variable{P0:Program}[X:Xf][L0:bI]{bad0:Nat->Prop}{ci ce:RND->Int}{fr37:Bool}{K:jz}
theorem GR{Gd:Nat->Prop}{A:World}{r:RND}{v:Value}(h:Rep Gd A (dT r) v):∃a0 c0 oa de a2 c2 a3 c3,v=.agg (jD a0 r.bD.length c0 oa r.os.length de a2 r.nw c2 a3 r.zs.length c3)/\Rep Gd A r.jY (.slice a0 r.bD.length c0)/\Rep Gd A r.osP (.slice oa r.os.length de)/\Rep Gd A r.lW (.slice a2 r.nw c2)/\Rep Gd A r.zsP (.slice a3 r.zs.length c3):=by
 unfold dT at h
 cases h with
 |agg hl hr=>
  rename_i vs
  have b7:vs.size=4:=by simpa using hl.symm
  obtain⟨v0,v1,v2,v3,rfl⟩:∃v0 v1 v2 v3,vs=#[v0,v1,v2,v3]:=by
   obtain⟨l⟩:=vs
   match l,b7 with
   |[a,b,c,d],_=>exact⟨a,b,c,d,rfl⟩
  have r0:=hr 0 _ _ rfl rfl;have r1:=hr 1 _ _ rfl rfl;have r2:=hr 2 _ _ rfl rfl;have r3:=hr 3 _ _ rfl rfl;obtain⟨a0,c0,rfl⟩:=Rep.isSlice r0;obtain⟨a1,c1,rfl⟩:=Rep.isSlice r1;obtain⟨a2,c2,rfl⟩:=Rep.isSlice r2;obtain⟨a3,c3,rfl⟩:=Rep.isSlice r3
  grind
theorem Ov{Gd:Nat->Prop}{A:World}{i e:Int}{v:Value}(h:Rep Gd A (.tup [.int .i64 i,.int .i64 e]) v):v=.tuple #[.int .i64 i,.int .i64 e]:=by
 cases h with
 |tup hl hr=>
  rename_i vs
  have b7:vs.size=2:=al
  obtain⟨v0,v1,rfl⟩:∃v0 v1,vs=#[v0,v1]:=by
   obtain⟨l⟩:=vs
   match l,b7 with
   |[a,b],_=>simp
  have r0:=hr 0 _ _ rfl rfl;have r1:=hr 1 _ _ rfl rfl;cases r0;cases r1;rfl
theorem Ow(H:pQ P0 bad0 ci ce fr37){dead:Nat->Prop}{gs:Array Goroutine}{B:World}{sl:Option (Nat×Nat)}{t:Trace}{q:Nat->Nat}{base:List Frame}{v:Value}{r:RND}{Gd:Nat->Prop}(ha:Stg (Cc P0 Tryz.prog) Tryz.prog K dead gs B t q (Frame.enter Tryz.prog 69 #[v] .normal) base)(ao:bI.ok (mkA (Cc P0 Tryz.prog) dead B))(hv:Rep Gd (mkA (Cc P0 Tryz.prog) dead B) (dT r) v):∃h' B' a4 t' q' h8 a rb rv,v=.agg rv/\iQ Tryz.prog (crowd gs B sl) t (crowd h' B' a4) t'/\Stg (Cc P0 Tryz.prog) Tryz.prog K h8 h' B' t' q' ((frA a).finish (.tuple #[.int .i64 (ci r),.int .i64 (ce r)])) base/\SlS (ups (SA rb) 11 (.agg rv)) a/\(∃ty,(mkA (Cc P0 Tryz.prog) h8 B').heap[rb]?=some (.cells rv ty)/\ty=27)/\B.heap.size<=rb/\@dh xfW prog Tryz.prog (frA a)/\Bel B.heap.size (mkA (Cc P0 Tryz.prog) dead B) (mkA (Cc P0 Tryz.prog) h8 B'):=by
 obtain⟨a0,c0,oa,de,a2,c2,a3,c3,rfl,q0,q1,q2,q3⟩:=GR hv;rw[Tc] at ha
 have oD:r8 P0 Tryz.prog K:=λf args c cs base A S R gs B sl t q _ h _ _=>(H.Te _ _ _ _ (h _ (H.hp.kY A A.tape A.drawn))).elim
 obtain⟨gs1,B1,sl1,t1,p1,fr1,A1,run1,sz1,stg1,phi1,ok1,hq,bel1⟩:=xo (XF:=xfW) (sl:=sl) (N:=20) (Φ:=Ja base (mkA (@Cc xfW prog Tryz.prog) dead B) (.slice a0 r.bD.length c0) (.slice oa r.os.length de) (.slice a2 r.nw c2) (.slice a3 r.zs.length c3)) xZ H.up ha (Ou _)
  (SW ⟨_,_,_,rfl⟩ ⟨_,_,_,rfl⟩ ⟨_,_,_,rfl⟩ ⟨_,_,_,rfl⟩ (Td _)) (λfr' cs' w h=>⟨h.1,by obtain⟨_,a,rb,_,_,_,hb,_⟩:=h;exact hb⟩)
  (λf args cs w h=>by
    obtain⟨_,a,rb,e,_⟩:=h
    exact uq (by simp[frA,Frame.atR]) e)
  (λfr cs w w1 h e=>by
    obtain⟨h1,a,rb,h2,h3,h4,h5,h6⟩:=h
    exact⟨h1,a,rb,h2,h3,h4.mv e,h5.trans (e.mono h5.size),h6⟩)
 obtain⟨_,a,rb,rfl,hS,hRb,_,bk⟩:=phi1;rw[eT] at bk;have hRb1:(mkA (Cc P0 Tryz.prog) dead B1).heap[rb]?=some (.cells (jD a0 r.bD.length c0 oa r.os.length de a2 r.nw c2 a3 r.zs.length c3) 27):=GO ((hq rb).symm.trans hRb);obtain⟨gs2,d,sl2,t2,p2,run2,sz2,stg2⟩:=xn (sl:=sl1) stg1 (λw=>.inl (S4 (base:=base) (hS.get 11 _ rfl) w));have bel2:Bel B.heap.size (mkA (Cc P0 Tryz.prog) dead B) (mkA (Cc P0 Tryz.prog) dead (B1.at d)):=⟨bel1.os,bel1.output,bel1.size,bel1.block⟩;have bo:bI.ok (mkA (Cc P0 Tryz.prog) dead (B1.at d)):=bI.keep ao (by rw[eT];exact bel2)
 have cx:Rep Gd (mkA (Cc P0 Tryz.prog) dead (B1.at d)) (dT r) (.agg (jD a0 r.bD.length c0 oa r.os.length de a2 r.nw c2 a3 r.zs.length c3)):=hv.mono (λ_ _ h=>h) λb hb _=>bel2.block b (by rw[eT] at hb;exact hb)
 have b9:=(H.chk r).2 Gd (mkA (Cc P0 Tryz.prog) dead (B1.at d)) #[.agg (jD a0 r.bD.length c0 oa r.os.length de a2 r.nw c2 a3 r.zs.length c3)] bo rfl (λj p v hp hv=>by
  match j with
  |0=>
   simp_all
  |j+1=>simp at hp)
 obtain⟨gs3,B3,sl3,t3,p3,h8,A3,v3,run3,stg3,hR,bh,os3,out3⟩:=Om (sl:=sl2) H.hp oD H.CM (H.ent _) (H.Dg _) (cl:=frA a) (λch=>by simp[frA,Frame.atR,b20]) stg2 b9 (λf args v _=>uq (by
  unfold frA;rw[Frame.finish_atR];simp[Frame.atR]))
 obtain⟨v',e',hy,aa⟩:=hR;cases e';obtain rfl:=Ov aa;have bel3:Bel (mkA (Cc P0 Tryz.prog) dead (B1.at d)).heap.size (mkA (Cc P0 Tryz.prog) dead (B1.at d)) (mkA (Cc P0 Tryz.prog) h8 B3):=Bel.congr hy (λ_=>rfl) bh rfl os3 rfl out3;refine⟨gs3,B3,sl3,t3,p3,h8,a,rb,_,rfl,run1.trans (run2.trans run3),stg3,hS,⟨27,?_,rfl⟩,bk,ok1,bel2.trans (bel3.mono (by have:=bel2.size;rw[eT] at this;exact this))⟩;have b4:rb<(mkA (Cc P0 Tryz.prog) dead (B1.at d)).heap.size:=(cY.1 (show (mkA (Cc P0 Tryz.prog) dead (B1.at d)).heap[rb]?=_ from hRb1)).1;exact (bel3.block rb b4).trans hRb1
end
end Go.Proofs.Tw
namespace Go.Proofs.Tw
open Go Go.Fi Go.Fc Go.Conc Go.RowKit
open Go.ConcR (WgAt wgBlock)
open Go.ConcN (PayAt)
theorem BD{n:Nat}{W:World}{C:Cx}{dead:Nat->Prop}{B:World}{d:Nat}(h:Bel n W (mkA C dead B)):Bel n W (mkA C dead (B.at d)):=⟨h.os,h.output,h.size,h.block⟩
section
variable{P0:Program}[X:Xf][L0:bI]{bad0:Nat->Prop}{ci ce:RND->Int}{fr37:Bool}{K:jz}
 {dead:Nat->Prop} {gs:Array Goroutine} {B:World} {sl:Option (Nat×Nat)} {t:Trace} {q:Nat->Nat} {c:Frame} {cs:List Frame} {a:Act} {rb:Nat}
theorem GU{k:List Item}{v2 v3:Value}(ha:Stg (Cc P0 Tryz.prog) Tryz.prog K dead gs B t q (b20.atR a (.code .ret::k)) (c::cs))(hd:a.defers=[])(h2:a.tmps[2]?.getD undef=v2)(h3:a.tmps[3]?.getD undef=v3):∃h' d a4 t' q',iQ Tryz.prog (crowd gs B sl) t (crowd h' (B.at d) a4) t'/\Stg (Cc P0 Tryz.prog) Tryz.prog K dead h' (B.at d) t' q' (c.finish (.tuple #[v2,v3])) cs:=by
 obtain⟨gs1,d1,sl1,t1,p1,run1,_,stg1⟩:=xn (sl:=sl) ha (λw=>.inl (S6 w));obtain⟨gs2,d2,sl2,t2,p2,run2,_,stg2⟩:=xn (sl:=sl1) stg1 (λw=>.inl (S5 hd h2 h3 w));exact⟨gs2,d2,sl2,t2,p2,run1.trans run2,stg2⟩
theorem refused(H:pQ P0 bad0 ci ce fr37){s0 s1 s2 s3:Value}{i e:Int}(he:e≠0)(ha:Stg (Cc P0 Tryz.prog) Tryz.prog K dead gs B t q ((frA a).finish (.tuple #[.int .i64 i,.int .i64 e])) (c::cs))(hS:SlS (ups (SA rb) 11 (.agg #[s0,s1,s2,s3])) a)(ao:@dh xfW prog Tryz.prog (frA a)):∃h' B' a4 t' q',iQ Tryz.prog (crowd gs B sl) t (crowd h' B' a4) t'/\Stg (Cc P0 Tryz.prog) Tryz.prog K dead h' B' t' q' (c.finish (.tuple #[.pointer none,.int .i64 e])) cs/\Bel B.heap.size (mkA (Cc P0 Tryz.prog) dead B) (mkA (Cc P0 Tryz.prog) dead B'):=by
 obtain⟨gs1,B1,sl1,t1,p1,fr1,A1,run1,sz1,stg1,phi1,ok1,hq,bel1⟩:=xo (XF:=xfW) (sl:=sl) (N:=20) (Φ:=Jc (c::cs) (mkA (@Cc xfW prog Tryz.prog) dead B) e) xZ H.up ha (@dh.finish xfW _ _ _ ao _)
  (SX he hS) (λfr' cs' w h=>⟨h.1,by obtain⟨_,a,_,_,hb⟩:=h;exact hb⟩)
  (λf args cs w h=>by
    obtain⟨_,a,e,_⟩:=h
    exact uq (by simp[I9,Frame.atR]) e)
  (λfr cs w w1 h e=>by
    obtain⟨h1,a,h2,h3,h4⟩:=h
    exact⟨h1,a,h2,h3,h4.trans (e.mono h4.size)⟩)
 obtain⟨_,a',rfl,hL,_⟩:=phi1;obtain⟨gs2,d,sl2,t2,p2,run2,stg2⟩:=GU (sl:=sl1) (k:=[.code cR4]) stg1 hL.defers (hL.at 2) (hL.at 3);exact⟨gs2,B1.at d,sl2,t2,p2,run1.trans run2,stg2,BD bel1⟩
end
theorem Ox{w w':World}{v:Value}{l:List Bool}{lo:Nat}{Gd:Nat->Prop}(h:w.ownsRow lo 4 1 v l.length (l.map Value.bool))(hg:∀g c,lo<=g->w.heap[g]?=some (.cells c 4 (0,0))->0<c.size->w'.heap[g]?=some (.cells c 4 (0,0)))(hG:∀g,lo<=g->Gd g):Rep Gd w' (.sl l.length (l.map PV.bool)) v:=by
 obtain⟨_,⟨rfl,hn⟩|⟨g,cap,cur,rfl,h1,h2,h3,_,h5,h6⟩⟩:=h
 .obtain rfl:=ja hn;exact .slnil
 .by_cases hl:l=[]
  .subst hl;exact .slz h3
  .have ax:0<l.length:=List.length_pos_iff.2 hl
   have b':∀j,j<l.length->cur[j]?=(l.map Value.bool)[j]?:=λj hj=>by
    rw[<-h6,List.getElem?_take_of_lt ab];simp
   refine .sl (off:=0) (λj=>cur[j]?.getD undef) h3 (λj hj=>?_) (λ_=>hG g h1) (λj p hp=>?_)
   .have hw:=hg g cur h1 h2 ab;rw[iI] at hj;have hc:=b' j hj
    have:j<cur.size:=by rw[h5];omega
    refine gi hw ?_;rw[eI];simp_all
   .have hj:j<l.length:=by have:=(eX.1 hp).1;simp_all
    show Rep Gd w' p (cur[j]?.getD undef);rw[b' j hj];rw[im] at hp ⊢;rw[dP hj] at hp ⊢;simp only[eh,db] at hp;subst hp;exact .bool _
noncomputable def odR(r:RND):OD:={ rb:=0,xv:=0,xb:=0,wg:=0,F:=0,lo0:=0,ca:=none,k8:=0,bD:=r.bD,oa:=none,de:=0,os:=r.os,fa:=none,nK:=0,zs:=r.zs }
noncomputable def mU(r:RND)(i:Nat):List Bool:=Dd (odR r) i
section
variable{P0:Program}[X:Xf][L0:bI]{bad0:Nat->Prop}{ci ce:RND->Int}{fr37:Bool}{K:jz}
 {dead:Nat->Prop} {gs:Array Goroutine} {B:World} {sl:Option (Nat×Nat)} {t:Trace} {q:Nat->Nat} {c:Frame} {cs:List Frame} {a:Act} {rb:Nat}
structure At4(r:RND)(rb F xb xv wg:Nat)(rv:Array Value)(n0:Nat)(dead:Nat->Prop)(B:World):Prop where
 f0:n0<=F
 b0:n0<=xb
 v0:n0<=xv
 nr:¬dead rb
 nf:¬dead F
 nb:¬dead xb
 nv:¬dead xv
 rbc:B.heap[rb]?=some (.cells rv 27)
 fc:B.heap[F]?=some (.cells (Array.replicate r.os.length (.slice none 0 0)) 136)
 xbc:B.heap[xb]?=some (.cells #[rv.getD 0 undef,rv.getD 1 undef,rv.getD 2 undef,rv.getD 3 undef,.slice (some ⟨F,0,none⟩) r.os.length r.os.length] 105)
 xvc:B.heap[xv]?=some (.cells #[P_ xb] 92)
theorem At4.ne{r:RND}{F xb xv wg n0:Nat}{rv:Array Value}(h:At4 r rb F xb xv wg rv n0 dead B):rb≠F/\xv≠F/\xb≠F:=by
 refine⟨λe=>?_,λe=>?_,λe=>?_⟩
 .have:=h.rbc;rw[e,h.fc] at this;simp at this
 .have:=h.xvc;rw[e,h.fc] at this;simp at this
 .have:=h.xbc;rw[e,h.fc] at this;simp at this
theorem Oy(H:pQ P0 bad0 ci ce fr37){r:RND}{i:Int}{a0 oa a2 a3:Option Addr}{c0 de c2 c3:Nat}{A0:World}(hlen:r.os.length<=1000)(bel0:Bel A0.heap.size A0 (mkA (Cc P0 Tryz.prog) dead B))(ha:Stg (Cc P0 Tryz.prog) Tryz.prog K dead gs B t q ((frA a).finish (.tuple #[.int .i64 i,.int .i64 0])) (c::cs))(hS:SlS (ups (SA rb) 11 (.agg (jD a0 r.bD.length c0 oa r.os.length de a2 r.nw c2 a3 r.zs.length c3))) a)(ao:@dh xfW prog Tryz.prog (frA a))(b6:(mkA (Cc P0 Tryz.prog) dead B).heap[rb]?=some (.cells (jD a0 r.bD.length c0 oa r.os.length de a2 r.nw c2 a3 r.zs.length c3) 27)):∃h' B' B4 a4 t' q' a' F xb xv,iQ Tryz.prog (crowd gs B sl) t (crowd h' B4 a4) t'/\h'[0]?=some (G (frC a') (c::cs))/\lg (Cc P0 Tryz.prog) K dead B4/\Leavers Tryz.prog t' h' q'/\Past (uZ dead) B'.heap.size t'/\B4.heap=B'.heap.push (wgBlock 147 0 0)/\B4.os=B'.os/\B4.output=B'.output/\K.n0<=B'.heap.size/\SlL [(1,P_ rb),(6,P_ xv),(7,P_ B'.heap.size)] a'/\@dh xfW prog Tryz.prog (frC a')/\(∀b,dead b->b<B'.heap.size)/\At4 r rb F xb xv B'.heap.size (jD a0 r.bD.length c0 oa r.os.length de a2 r.nw c2 a3 r.zs.length c3) A0.heap.size dead B'/\Bel A0.heap.size A0 (mkA (Cc P0 Tryz.prog) dead B'):=by
 have hRb:pP (mkA (@Cc xfW prog Tryz.prog) dead B) rb (.slice a0 r.bD.length c0) (.slice oa r.os.length de) (.slice a2 r.nw c2) (.slice a3 r.zs.length c3):=GO b6
 have b5:A0.heap.size<=B.heap.size:=by have:=bel0.size;rw[eT] at this;exact this
 obtain⟨gs1,B1,sl1,t1,p1,fr1,A1,run1,sz1,stg1,phi1,ok1,hq,bel1⟩:=xo (XF:=xfW) (sl:=sl) (N:=40) (Φ:=Jd (c::cs) (mkA (@Cc xfW prog Tryz.prog) dead B) (jD a0 r.bD.length c0 oa r.os.length de a2 r.nw c2 a3 r.zs.length c3) rb r.os.length) xZ H.up ha (@dh.finish xfW _ _ _ ao _)
  (S3 hlen hRb hS) (λfr' cs' w h=>⟨h.1,by obtain⟨_,a,F,xb,xv,_,_,hb,_⟩:=h;exact hb⟩)
  (λf args cs w h=>by
    obtain⟨_,a,F,xb,xv,e,_⟩:=h
    exact uq (by simp[De,Frame.atR]) e)
  (λfr cs w w1 h e=>by
    obtain⟨h1,a,F,xb,xv,h2,h3,h4,h5⟩:=h
    exact⟨h1,a,F,xb,xv,h2,h3,h4.trans (e.mono h4.size),h5.mv e⟩)
 obtain⟨_,a1,F,xb,xv,rfl,hL,_,ay⟩:=phi1
 obtain⟨gs2,B4,sl2,t2,p2,run2,sz2,z2,rt2,lv2,ps2,c9,os2,out2⟩:=Ol (sl:=sl1) (fr':=frC (a1.put (some 7) (P_ B1.heap.size))) (cs':=c::cs) (c:=#[.int .u64 0,.int .u32 0]) (e:=147) stg1 (λw hw=>by
  obtain⟨d,rfl⟩:=hw
  rfl)
 have hm:∀b,dead b->b<B.heap.size:=λb hb=>by
  obtain⟨_,c,e,f,h⟩:=ha.mT.lK b hb
  grind
 have cv:B.heap.size<=F:=by have:=ay.f1;rw[eT] at this;exact this
 have cu:B.heap.size<=xb:=by have:=ay.b1;rw[eT] at this;exact this
 have cw:B.heap.size<=xv:=by have:=ay.v1;rw[eT] at this;exact this
 have nF:¬dead F:=λh=>by have:=hm F h;omega
 have nb:¬dead xb:=λh=>by have:=hm xb h;omega
 have nv:¬dead xv:=λh=>by have:=hm xv h;omega
 have nr:¬dead rb:=GP b6 ae
 have hszB:B.heap.size<=B1.heap.size:=by have:=bel1.size;rw[eT,eT] at this;exact this
 have br:rb<B.heap.size:=by have:=(cY.1 b6).1;rw[eT] at this;exact this
 have e7:frC (a1.put (some 7) (P_ B1.heap.size))=(De a1).finish (P_ B1.heap.size):=by
  rfl
 refine⟨gs2,B1,B4,sl2,t2,p2,_,F,xb,xv,run1.trans run2,z2,rt2,lv2,ps2,c9,os2,out2,stg1.n0,(hL.put af _ ae).sub ae,by rw[e7];exact @dh.finish xfW _ _ _ ok1 _,λb hb=>lY (hm b hb) hszB,?_,bel0.trans (bel1.mono b5)⟩;exact⟨ab,ab,ab,nr,nF,nb,nv,um ((bel1.block rb br).trans b6) nr,um ((hq F).symm.trans ay.f2) nF,um ((hq xb).symm.trans ay.b2) nb,um ((hq xv).symm.trans ay.v2) nv⟩
end
section
variable{P0:Program}[X:Xf][L0:bI]{bad0:Nat->Prop}{ci ce:RND->Int}{fr37:Bool}{K:jz}
 {dead:Nat->Prop} {gs:Array Goroutine} {B B3:World} {sl:Option (Nat×Nat)} {t:Trace} {q:Nat->Nat} {c:Frame} {cs:List Frame} {a:Act} {rb F xb xv:Nat} {r:RND}
 {a0 oa a2 a3:Option Addr} {c0 de c2 c3:Nat} {A0:World} {Gd:Nat->Prop}
noncomputable def odO(r:RND)(rb F xb xv wg lo0:Nat)(a0 oa a3:Option Addr)(c0 de c3:Nat):OD:={ rb:=rb,xv:=xv,xb:=xb,wg:=wg,F:=F,lo0:=lo0,ca:=a0,k8:=c0,bD:=r.bD,oa:=oa,de:=de,os:=r.os,fa:=a3,nK:=c3,zs:=r.zs }
theorem Oz(H4:At4 r rb F xb xv B3.heap.size (jD a0 r.bD.length c0 oa r.os.length de a2 r.nw c2 a3 r.zs.length c3) A0.heap.size dead B3)(hh:B.heap=B3.heap.push (wgBlock 147 0 0))(hy:Bel A0.heap.size A0 (mkA (Cc P0 Tryz.prog) dead B3))(hc:Rep Gd A0 r.jY (.slice a0 r.bD.length c0))(ho:Rep Gd A0 r.osP (.slice oa r.os.length de))(hz:Rep Gd A0 r.zsP (.slice a3 r.zs.length c3)):iE (odO r rb F xb xv B3.heap.size B.heap.size a0 oa a3 c0 de c3) (mkA (@Cc xfW prog Tryz.prog) (λb=>dead b\/b=B3.heap.size) B):=by
 obtain⟨e1,e2,e3⟩:=H4.ne
 have b7:B.heap.size=B3.heap.size+1:=by rw[hh];simp
 have lt:∀{b:Nat}{o:Obj},B3.heap[b]?=some o->b<B3.heap.size:=λh=>(cY.1 h).1
 have hB:∀b,b<B3.heap.size->B.heap[b]?=B3.heap[b]?:=λb hb=>by
  rw[hh,vq hb];simp
 have lF:=lt H4.fc;have lb:=lt H4.xbc;have lv:=lt H4.xvc;have lr:=lt H4.rbc
 have nd:∀b,¬dead b->b<B3.heap.size->¬(dead b\/b=B3.heap.size):=λb h1 h2 h=>h.elim h1 ab
 have cell:∀b k v,¬dead b->b<B3.heap.size->B3.cell? ⟨b,k,none⟩=some v->(mkA (@Cc xfW prog Tryz.prog) (λb=>dead b\/b=B3.heap.size) B).cell? ⟨b,k,none⟩=some v:=λb k v h1 h2 h3=>
  xg (nd b h1 h2) (by rw[GQ (hB b h2)];exact h3)
 have b5:A0.heap.size<=B3.heap.size:=by have:=hy.size;rw[eT] at this;exact this
 have ht:∀b k v,b<A0.heap.size->A0.cell? ⟨b,k,none⟩=some v->(mkA (@Cc xfW prog Tryz.prog) (λb=>dead b\/b=B3.heap.size) B).cell? ⟨b,k,none⟩=some v:=λb k v hb hv=>by
  have h1:=(hy.cell (p:=⟨b,k,none⟩) hb).trans hv;obtain⟨h2,h3⟩:=Oj h1
  grind
 obtain⟨_,_,x1,x2⟩:=Oo (lo:=B.heap.size) hc H4.f0 ab ht;obtain⟨_,_,y1,y2,y3⟩:=Oq (lo:=B.heap.size) ho H4.f0 ab ht;obtain⟨_,_,z1,z2,z3⟩:=Ot (lo:=B.heap.size) hz H4.f0 ab ht;cases x1;cases y1;cases z1;refine⟨by rw[eT];exact bS _,⟨?_,?_,?_,?_⟩,⟨e1,e2,e3⟩,cell _ _ _ H4.nr lr (gi H4.rbc rfl),cell _ _ _ H4.nr lr (gi H4.rbc rfl),cell _ _ _ H4.nr lr (gi H4.rbc rfl),cell _ _ _ H4.nv lv (gi H4.xvc rfl),cell _ _ _ H4.nb lb (gi H4.xbc rfl),x2,z2,z3,y2,y3⟩
 .show F<B.heap.size;omega
 .show rb<B.heap.size;omega
 .show xv<B.heap.size;omega
 .show xb<B.heap.size;omega
end
section
variable{P0:Program}[X:Xf][L0:bI]{bad0:Nat->Prop}{ci ce:RND->Int}{fr37:Bool}{K:jz}
 {dead:Nat->Prop} {gs:Array Goroutine} {B B3:World} {sl:Option (Nat×Nat)} {t:Trace} {q:Nat->Nat} {c:Frame} {cs:List Frame} {a:Act} {rb F xb xv:Nat} {r:RND}
 {a0 oa a2 a3:Option Addr} {c0 de c2 c3:Nat} {A0:World} {Gd:Nat->Prop}
theorem OA(H:pQ P0 bad0 ci ce fr37)(bz:r.os.length<=1000)(cg:r.zs.length<=64)(cj:r.bD.length<=1000)(H4:At4 r rb F xb xv B3.heap.size (jD a0 r.bD.length c0 oa r.os.length de a2 r.nw c2 a3 r.zs.length c3) A0.heap.size dead B3)(hh:B.heap=B3.heap.push (wgBlock 147 0 0))(bp:B.os=B3.os)(aw:B.output=B3.output)(hy:Bel A0.heap.size A0 (mkA (Cc P0 Tryz.prog) dead B3))(hc:Rep Gd A0 r.jY (.slice a0 r.bD.length c0))(ho:Rep Gd A0 r.osP (.slice oa r.os.length de))(hz:Rep Gd A0 r.zsP (.slice a3 r.zs.length c3))(h0:gs[0]?=some (G (frC a) (c::cs)))(hr:lg (Cc P0 Tryz.prog) K dead B)(hL:Leavers Tryz.prog t gs q)(hP:Past (uZ dead) B3.heap.size t)(b5:K.n0<=B3.heap.size)(hS:SlL [(1,P_ rb),(6,P_ xv),(7,P_ B3.heap.size)] a)(ao:@dh xfW prog Tryz.prog (frC a))(hm:∀b,dead b->b<B3.heap.size):∃h' B' a4 t' q' h8,iQ Tryz.prog (crowd gs B sl) t (crowd h' B' a4) t'/\Stg (Cc P0 Tryz.prog) Tryz.prog K h8 h' B' t' q' (c.finish (.tuple #[P_ xb,.int .i64 0])) cs/\Bel A0.heap.size A0 (mkA (Cc P0 Tryz.prog) h8 B')/\B.heap.size<=B'.heap.size/\(mkA (Cc P0 Tryz.prog) h8 B').heap[xb]?=some (.cells #[.slice a0 r.bD.length c0,.slice oa r.os.length de,.slice a2 r.nw c2,.slice a3 r.zs.length c3,.slice (some ⟨F,0,none⟩) r.os.length r.os.length] 105)/\∀i,i<r.os.length->∃v,(mkA (Cc P0 Tryz.prog) h8 B').cell? ⟨F,i,none⟩=some v/\Rep (λg=>A0.heap.size<=g) (mkA (Cc P0 Tryz.prog) h8 B') (.sl (mU r i).length ((mU r i).map PV.bool)) v:=by
 have hK:=Oz (P0:=P0) H4 hh hy hc ho hz;obtain⟨e1,e2,e3⟩:=H4.ne
 have b7:B.heap.size=B3.heap.size+1:=by rw[hh];simp
 have lt:∀{b:Nat}{o:Obj},B3.heap[b]?=some o->b<B3.heap.size:=λh=>(cY.1 h).1
 have hB:∀b,b<B3.heap.size->B.heap[b]?=B3.heap[b]?:=λb hb=>by
  rw[hh,vq hb];simp
 have lF:=lt H4.fc;have lb:=lt H4.xbc;have lv:=lt H4.xvc;have hFB:=(hB F lF).trans H4.fc
 have hnA:A0.heap.size<=B3.heap.size:=by have:=hy.size;rw[eT] at this;exact this
 let o:=odO r rb F xb xv B3.heap.size B.heap.size a0 oa a3 c0 de c3
 obtain⟨gs5,B5,sl5,t5,p5,fr5,A5,run5,stg5,hI3,ok5,bj,bc,bq,ba,bt,cF5,hF5,hF5n⟩:=On (XF:=xfW) (PL:=IX) (C0:=Cc P0 Tryz.prog) (K:=K) (d:=phd o gs.size dead) (s:=scr o (c::cs)) (sl:=sl) (SS o (c::cs) ae _ _ bz cg cj)
  ⟨show B3.heap.size<B.heap.size by omega,show F<B.heap.size by omega,show F≠B3.heap.size by omega,λb hb=>by
    have:=hm b hb
    exact⟨show b<B.heap.size by omega,λe=>H4.nf (by rw[<-show b=F from e];exact hb),show b≠B3.heap.size by omega⟩,show 1<=gs.size from (cY.1 h0).1,show r.os.length<2147483648 by omega⟩
  (λl k=>SF l _ k) H.up rfl h0 hr hL hP (bS _) rfl (by show B.heap[B3.heap.size]?=some (wgBlock 147 0 0);rw[hh];simp) ⟨_,hFB,by rw[Array.size_replicate];rfl⟩ (λi hi=>gi hFB (by
   rw[yK,b8 (show i<r.os.length from hi)];rfl)) ao b5 ⟨50,S8 (o:=o) (cs:=c::cs) bz hS hK⟩
 obtain⟨a5,rfl,hS5,_⟩:=hI3
 have same:∀b,b<B3.heap.size->b≠F->B5.heap[b]?=B3.heap[b]?:=λb h1 h2=>(bc b (show b<B.heap.size by omega) h2 (show b≠B3.heap.size by omega)).trans (hB b h1)
 have c4:B.heap.size<=B5.heap.size:=bt
 have e6:(Db a5).finish (.tuple #[])=b20.atR (a5.put (some 36) (.tuple #[])) [.inRegion qD [],.code (.seq (.region 13 o9 false) .ret)]:=by
  rfl
 have ok6:=@dh.finish xfW _ _ _ ok5 (.tuple #[]);rw[e6] at stg5 ok6
 have nd:∀b,¬dead b->b<B3.heap.size->¬(dead b\/b=B3.heap.size):=λb h1 h2 h=>h.elim h1 ab
 have hL6:SlL [(6,P_ xv)] (a5.put (some 36) (.tuple #[])):=((hS5.list [(6,P_ xv)] (by intro p hp;simp only[oS] at hp;subst hp;rfl)).put af _ ae).sub ae;have cp:(mkA (@Cc xfW prog Tryz.prog) (λb=>dead b\/b=B3.heap.size) B5).cell? ⟨xv,0,none⟩=some (P_ xb):=gi (qE (nd xv H4.nv lv) ((same xv lv e2).trans H4.xvc)) rfl;obtain⟨gs6,B6,sl6,t6,p6,fr6,A6,run6,sz6,stg6,phi6,_,bv,bel6⟩:=xo (XF:=xfW) (sl:=sl5) (N:=10) (Φ:=Jf (c::cs) (mkA (@Cc xfW prog Tryz.prog) (λb=>dead b\/b=B3.heap.size) B5) xb) xZ H.up stg5 ok6
  (Ta hL6 cp) (λfr' cs' w h=>⟨h.1,by obtain⟨_,a,_,_,hb⟩:=h;exact hb⟩)
  (λf args cs w h=>by
    obtain⟨_,a,e,_⟩:=h
    exact uq (by simp[frF,Frame.atR]) e)
  (λfr cs w w1 h e=>by
    obtain⟨h1,a,h2,h3,h4⟩:=h
    exact⟨h1,a,h2,h3,h4.trans (e.mono h4.size)⟩)
 obtain⟨_,a6,rfl,hL7,_⟩:=phi6;obtain⟨gs7,d7,sl7,t7,p7,run7,_,stg7⟩:=xn (sl:=sl6) stg6 (λw=>.inl (S7 w));obtain⟨gs8,d8,sl8,t8,p8,run8,stg8⟩:=GU (sl:=sl7) (k:=[]) stg7 hL7.defers (hL7.at 2) (hL7.at 3)
 have belP:Bel A0.heap.size (mkA (Cc P0 Tryz.prog) dead B3) (mkA (Cc P0 Tryz.prog) (λb=>dead b\/b=B3.heap.size) B5):=by
  refine⟨bq.trans bp,ba.trans aw,by rw[eT,eT];omega,λb hb=>?_⟩;have bd:b<B3.heap.size:=lY hb hnA
  have hbF:b≠F:=by have:=H4.f0;omega
  have hs:=same b bd hbF;by_cases hd:dead b
  .rw[oz (dead:=λb=>dead b\/b=B3.heap.size) (.inl hd),oz hd,hs]
  .have hx:=du bd;by_cases hk:okO (Cc P0 Tryz.prog) B3.heap[b]
   .rw[nq hd hx hk,nq (nd b hd bd) (hs.trans hx) hk]
   .rw[pb hd hx hk,pb (nd b hd bd) (hs.trans hx) hk]
 have bel8:Bel B5.heap.size (mkA (Cc P0 Tryz.prog) (λb=>dead b\/b=B3.heap.size) B5) (mkA (Cc P0 Tryz.prog) (λb=>dead b\/b=B3.heap.size) ((B6.at d7).at d8)):=BD (BD bel6)
 have hA5:A0.heap.size<=B5.heap.size:=ab
 refine⟨gs8,_,sl8,t8,p8,_,run5.trans (run6.trans (run7.trans run8)),stg8,hy.trans (belP.trans (bel8.mono hA5)),?_,?_,λi hi=>?_⟩
 .have:=bel8.size;rw[eT,eT] at this;omega
 .refine (bel8.block xb ab).trans ?_;exact qE (nd xb H4.nb lb) ((same xb lb e3).trans H4.xbc)
 .obtain⟨Ai,Si,⟨lo,v,bi,hv,ag⟩,bm,aq⟩:=bj i hi
  have hFne:¬Si.part F i:=λh=>(aq F i h).2 rfl
  have co:B5.cell? ⟨F,i,none⟩=some v:=bm.IE hv hFne;refine⟨v,(bel8.cell (p:=⟨F,i,none⟩) (show F<B5.heap.size by omega)).trans (xg (nd F H4.nf lF) co),?_⟩;have ck:B.heap.size<=lo:=bi;refine Ox (lo:=lo) (w:=Ai) ag (λg cc hg bf ax=>?_) (λg hg=>ab)
  have hndS:¬Si.dead g:=λhd=>by
   obtain⟨_,_,_,x1,_⟩:=bm.dead g hd;rw[bf] at x1;simp at x1;rw[x1.1] at ax;simp at ax
  have bw:B5.heap[g]?=some (.cells cc 4 (0,0)):=by
   rcases bm.same g hndS with ⟨e,_⟩|⟨o',_,_,h3,_⟩|⟨cA,cB,e,f,h1,h2,_,h4⟩
   .rw[<-e];exact bf
   .rw[bf] at h3;cases o'<;>cases h3
   .rw[bf] at h1;cases h1;have:cc=cB:=DS (vr λk=>by simpa using h4 k (λhp=>by have:=(aq g k hp).1;have:g=F:=this;omega));subst this;exact h2
  have bl:g<B5.heap.size:=(cY.1 bw).1;refine (bel8.block g bl).trans (qE ?_ bw)
  grind
end
end Go.Proofs.Tw
namespace Go.Proofs.Tw
open Go Go.Fi Go.Fc Go.Conc Go.RowKit
noncomputable def sV(r:RND):PV:=.sl r.os.length ((List.range r.os.length).map λi=>.sl (mU r i).length ((mU r i).map PV.bool))
noncomputable def mV(ce:RND->Int)(r:RND):PV:=if ce r=0 then .tup [.ip [r.jY,r.osP,r.lW,r.zsP,sV r] 0,.int .i64 0] else .tup [.gX,.int .i64 (ce r)]
@[reducible] noncomputable def Jh(ce:RND->Int)(L0:bI):bI where
 E:=L0.E
 ext:=L0.ext
 xt f args w R:=f=69/\L0.ok w/\∃r Gd v,args=#[v]/\Rep Gd w (dT r) v/\∀v' w',Bel w.heap.size w w'->Rep (λb=>b<w.heap.size->Gd b) w' (mV ce r) v'->R v' w'
 D:=L0.D
 nil:=L0.nil
 ok:=L0.ok
 keep:=L0.keep
 mB:=L0.mB
theorem OB{r:RND}{A A':World}{Gd:Nat->Prop}{a0 oa a2 a3:Option Addr}{c0 de c2 c3 F xb:Nat}(hb:Bel A.heap.size A A')(h0:Rep Gd A r.jY (.slice a0 r.bD.length c0))(h1:Rep Gd A r.osP (.slice oa r.os.length de))(h2:Rep Gd A r.lW (.slice a2 r.nw c2))(h3:Rep Gd A r.zsP (.slice a3 r.zs.length c3))(hF:A.heap.size<=F)(cy:A.heap.size<=xb)(hc:A'.heap[xb]?=some (.cells #[.slice a0 r.bD.length c0,.slice oa r.os.length de,.slice a2 r.nw c2,.slice a3 r.zs.length c3,.slice (some ⟨F,0,none⟩) r.os.length r.os.length] 105))(ag:∀i,i<r.os.length->∃v,A'.cell? ⟨F,i,none⟩=some v/\Rep (λg=>A.heap.size<=g) A' (.sl (mU r i).length ((mU r i).map PV.bool)) v):Rep (λb=>b<A.heap.size->Gd b) A' (.tup [.ip [r.jY,r.osP,r.lW,r.zsP,sV r] 0,.int .i64 0]) (.tuple #[P_ xb,.int .i64 0]):=by
 have up:∀{p:PV}{v:Value},Rep Gd A p v->Rep (λb=>b<A.heap.size->Gd b) A' p v:=λh=>h.mono (λb _ hg _=>hg) λb c6 _=>hb.block b c6
 have c8:Rep (λb=>b<A.heap.size->Gd b) A' (sV r) (.slice (some ⟨F,0,none⟩) r.os.length r.os.length):=by
  unfold sV;refine .sl (off:=0) (λj=>(A'.cell? ⟨F,j,none⟩).getD undef) (bS _) (λj hj=>?_) (λ_ b4=>ab) (λj p hp=>?_)
  .have bg:j<r.os.length:=by simpa using hj
   grind
  .have bg:j<r.os.length:=by have:=(eX.1 hp).1;simp_all
   obtain⟨v,hv,hr⟩:=ag j bg;simp only[im,yD bg,eh,db] at hp;subst hp;rw[hv]
   exact hr.imp λb hb b4=>by omega
 refine .tup rfl λj p v hp hv=>?_
 match j with
 |0=>
  simp only[Dz,db] at hp
  have:v=P_ xb:=by simpa using hv.symm
  subst this hp;refine .ip (o:=0) (off:=0) (λj=>(#[Value.slice a0 r.bD.length c0,.slice oa r.os.length de,.slice a2 r.nw c2,.slice a3 r.zs.length c3,.slice (some ⟨F,0,none⟩) r.os.length r.os.length][j]?).getD undef) (λj hj=>?_) (λ_ b4=>ab) (λj p hp=>?_)
  .refine gi hc ?_;have bg:j<5:=hj
   obtain rfl|rfl|rfl|rfl|rfl:j=0\/j=1\/j=2\/j=3\/j=4:=by omega
   all_goals rfl
  grind
 |1=>
  have e1:p=.int .i64 0:=al
  have e2:v=.int .i64 0:=al
  subst e1 e2;exact .int _ _
 |j+2=>simp at hp
theorem OC{e:Int}{A':World}{Gd:Nat->Prop}:Rep Gd A' (.tup [.gX,.int .i64 e]) (.tuple #[.pointer none,.int .i64 e]):=by
 refine .tup rfl λj p v hp hv=>?_
 match j with
 |0=>
  have e1:p=.gX:=al
  have e2:v=.pointer none:=al
  subst e1 e2;exact .gX
 |1=>
  have e1:p=.int .i64 e:=al
  have e2:v=.int .i64 e:=al
  subst e1 e2;exact .int _ _
 |j+2=>simp at hp
section
variable{P0:Program}[X:Xf][L0:bI]{bad0:Nat->Prop}{ci ce:RND->Int}{fr37:Bool}{K:jz}
theorem Tf(H:pQ P0 bad0 ci ce fr37):@r8 X (Jh ce L0).toEnvD P0 Tryz.prog K:=by
 intro f args c cs base A S R gs B sl t q cz cq h9 h0;obtain⟨rfl,ao,r,Gd,v,rfl,hv,bb⟩:=cq A (H.hp.kY A A.tape A.drawn);have hA:=h9.lk.unique h9.whole;have belA:Bel A.heap.size A (mkA (Cc P0 Tryz.prog) S.dead B):=Bel.congr (Bel.refl A.heap.size A) (λ_=>rfl) hA rfl h9.lk.os rfl h9.lk.output;have b7:A.heap.size=B.heap.size:=h9.lk.size;have ha:Stg (Cc P0 Tryz.prog) Tryz.prog K S.dead gs B t q (Frame.enter Tryz.prog 69 #[v] .normal) (c::cs):=⟨h0,lg.Jg h9.lk h9.whole h9.lK h9.pB,h9.old,h9.oC,h9.n0⟩;have bn:bI.ok (mkA (Cc P0 Tryz.prog) S.dead B):=bI.keep ao belA
 have cm:Rep Gd (mkA (Cc P0 Tryz.prog) S.dead B) (dT r) v:=hv.mono (λ_ _ h=>h) λb hb _=>belA.block b hb
 obtain⟨a0,c0,oa,de,a2,c2,a3,c3,rfl,q0,q1,q2,q3⟩:=GR hv;obtain⟨gs1,B1,sl1,t1,p1,dead1,a,rb,rv,erv,run1,stg1,hS,⟨ty,b6,rfl⟩,bk,okA,bel1⟩:=Ow (sl:=sl) H ha bn cm;cases erv;have bel01:Bel A.heap.size A (mkA (Cc P0 Tryz.prog) dead1 B1):=belA.trans (bel1.mono ab)
 have hszB1:B.heap.size<=B1.heap.size:=by have:=bel1.size;rw[eT,eT] at this;exact this
 have fin:∀{h':Array Goroutine}{B':World}{a4:Option (Nat×Nat)}{t':Trace}{q':Nat->Nat}{h8:Nat->Prop}{v':Value},iQ Tryz.prog (crowd gs B sl) t (crowd h' B' a4) t'->Stg (Cc P0 Tryz.prog) Tryz.prog K h8 h' B' t' q' (c.finish v') cs->Bel A.heap.size A (mkA (Cc P0 Tryz.prog) h8 B')->B.heap.size<=B'.heap.size ->
  Rep (λb=>b<A.heap.size->Gd b) (mkA (Cc P0 Tryz.prog) h8 B') (mV ce r) v'->_:=λ{h' B' a4 t' q' h8 v'} ⟨N,hr⟩ hs hb hz aa=>
  (⟨N,h',B',a4,t',q',⟨h8,λ_ _=>False,K.old⟩,A,_,v',hr,H.hp.kY A A.tape A.drawn,bb v' _ hb aa,hs.zero,Gx hs.mT,λ_ _ h=>h,λb hb=>(hs.mT.lK b hb).1,rfl,hs.left,hs.oC,hz⟩:∃(N:Nat)(h':Array Goroutine)(B':World)(a4:Option (Nat×Nat))(t':Trace)(q':Nat->Nat)(S':Sh)(A1 A':World)(v:Value),
    runNT Tryz.prog N (crowd gs B sl) t=(Stepped.next (crowd h' B' a4),t')/\L0.E A A1/\R A1 v A'/\h'[0]?=some (G (c.finish v) cs)/\Lk (Cc P0 Tryz.prog) S' A' B'/\(∀b i,¬S'.part b i)/\(∀b,S'.dead b->K.n0<=b)/\S'.old=K.old/\Leavers Tryz.prog t' h' q'/\Past (nC S') B'.heap.size t'/\B.heap.size<=B'.heap.size)
 by_cases he:ce r=0
 .obtain⟨l1,l2,l3⟩:=H.lim r he;rw[he] at stg1;obtain⟨gs2,B2,B4,sl2,t2,p2,a',F,xb,xv,run2,z2,rt2,lv2,ps2,hh,bp,aw,b5,hSl,hokC,c7,H4,bel02⟩:=Oy (sl:=sl1) H l1 bel01 stg1 hS okA b6
  have hB2:A.heap.size<=B2.heap.size:=by have:=bel02.size;rw[eT] at this;exact this
  obtain⟨gs3,B3,sl3,t3,p3,dead3,run3,stg3,bel03,d3,bu,ag⟩:=OA (sl:=sl2) H l1 l2 l3 H4 hh bp aw bel02 q0 q1 q3 z2 rt2 lv2 ps2 b5 hSl hokC c7;refine fin (run1.trans (run2.trans run3)) stg3 bel03 ?_ ?_
  .have:B4.heap.size=B2.heap.size+1:=by rw[hh];simp
   omega
  .unfold mV;rw[b8 he];exact OB bel03 q0 q1 q2 q3 H4.f0 H4.b0 bu ag
 .obtain⟨gs2,B2,sl2,t2,p2,run2,stg2,bel2⟩:=refused (sl:=sl1) H he stg1 hS okA
  have hszB2:B1.heap.size<=B2.heap.size:=by have:=bel2.size;rw[eT,eT] at this;exact this
  refine fin (run1.trans run2) stg2 (bel01.trans (bel2.mono ab)) ab ?_;unfold mV;rw[bP he];exact OC
end
end Go.Proofs.Tw
