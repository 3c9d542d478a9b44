/- Lemmas. -/
import Derived.Test.YthpkmilhiganjaaGreatPWe
import Derived.Test.YthpkmilhiganjaaGreatPNd
set_option linter.unusedSimpArgs false
set_option linter.unusedVariables false
set_option linter.unusedSectionVars false
set_option maxHeartbeats 32000000
set_option maxRecDepth 100000
namespace Go.Proofs.Tw
open Go Go.Fi Go.Fc Go.Conc Go.RowKit
theorem qM{α:Type}{f:α→List PV}{s:Nat}(hf:∀x,(f x).length=s):∀(l:List α),(l.flatMap f).length=l.length*s
 |[]=>by simp
 |y::l=>by rw[List.flatMap_cons,List.length_append,hf,qM hf l,List.length_cons,Nat.add_mul];omega
theorem tn{α:Type}{f:α→List PV}{s:Nat}(hf:∀x,(f x).length=s):∀(l:List α)(j:Nat)(x:α)(k:Nat),l[j]?=some x→k<s→(l.flatMap f)[j*s+k]?=(f x)[k]?
 |y::l,0,x,k,h,hk=>by
  simp only[List.getElem?_cons_zero,Option.some.injEq] at h;subst h;rw[List.flatMap_cons,Nat.zero_mul,Nat.zero_add,List.getElem?_append_left (by rw[hf];exact hk)]
 |y::l,j+1,x,k,h,hk=>by
  rw[List.getElem?_cons_succ] at h;rw[List.flatMap_cons,List.getElem?_append_right (by rw[hf,Nat.add_mul];omega),hf,show (j+1)*s+k-s=j*s+k by rw[Nat.add_mul];omega];exact tn hf l j x k h hk
theorem xR{α:Type}{G:Nat→Prop}{A:World}{v:Value}{l:List α}{f:α→List PV}{s:Nat}(hs:0<s)(hf:∀x,(f x).length=s)(h:Rep G A (.sl l.length (l.flatMap f)) v):∃a0 cap,v=.slice a0 l.length cap∧∀j x,l[j]?=some x→∃b off,a0=some ⟨b,off,none⟩∧b<A.heap.size∧∀k p,k<s→(f x)[k]?=some p→∃u,A.cell? ⟨b,off+(j*s+k),none⟩=some u∧Rep G A p u:=by
 have hlen:(l.flatMap f).length=l.length*s:=qM hf l;generalize hn:l.length=n at h hlen ⊢;generalize hc:l.flatMap f=cells at h hlen
 cases h with
 |slnil=>
  refine⟨none,0,rfl,fun j x hj=>?_⟩;have:=(List.getElem?_eq_some_iff.1 hj).1;omega
 |slz hle=>
  refine⟨_,_,rfl,fun j x hj=>?_⟩;have h1:=(List.getElem?_eq_some_iff.1 hj).1
  have:l.length*s=0:=by rw[hn];simpa using hlen.symm
  rcases Nat.mul_eq_zero.1 this with h|h<;>omega
 |sl vals hle hcells hG hrep=>
  rename_i cap b off;refine⟨_,cap,rfl,fun j x hj=>⟨b,off,rfl,?_,fun k p hk hp=>?_⟩⟩
  ·have h1:=(List.getElem?_eq_some_iff.1 hj).1;refine hcells.lt ?_;rw[hlen];exact Nat.mul_pos (by omega) hs
  ·have hg:=tn hf l j x k hj hk;rw[hc,hp] at hg;have hlt:=(List.getElem?_eq_some_iff.1 hg).1;exact⟨vals (j*s+k),hcells _ hlt,hrep _ _ hg⟩
structure RND where
 ab:List (ByteArray×Int×Bool)
 os:List (ByteArray×Int×Bool×Int)
 wt:List (List Int)
 zs:List (Int×Int)
 cP:(∀c∈ab,c.1.size<1000000)∧(∀o∈os,o.1.size<1000000)∧(∀w∈wt,w.length<100000)∧ab.length<100000∧os.length<100000∧wt.length<100000∧zs.length<100000
def zu(l:List Int):PV:=.sl l.length (l.map fun n=>.int .i64 n)
def RND.nw(r:RND):Nat:=r.wt.length
def RND.wait(r:RND):List PV:=r.wt.map zu
def cj(c:ByteArray×Int×Bool):List PV:=[.str c.1,.int .i64 c.2.1,.bool c.2.2]
def bG(c:ByteArray×Int×Bool×Int):List PV:=[.str c.1,.int .i64 c.2.1,.bool c.2.2.1,.int .i64 c.2.2.2]
def bH(c:Int×Int):List PV:=[.int .i64 c.1,.int .i64 c.2]
def RND.bS(r:RND):PV:=.sl r.ab.length (r.ab.flatMap cj)
def RND.osP(r:RND):PV:=.sl r.os.length (r.os.flatMap bG)
def RND.bU(r:RND):PV:=.sl r.nw r.wait
def RND.zsP(r:RND):PV:=.sl r.zs.length (r.zs.flatMap bH)
def aR(r:RND):PV:=.agg [r.bS,r.osP,r.bU,r.zsP]
theorem Rep.isSlice{G:Nat→Prop}{A:World}{n:Nat}{cs:List PV}{v:Value}(h:Rep G A (.sl n cs) v):∃a cap,v=.slice a n cap:=by
 cases h with
 |slnil=>exact⟨_,_,rfl⟩
 |sl=>exact⟨_,_,rfl⟩
 |slz=>exact⟨_,_,rfl⟩
section
variable{G:Nat→Prop}{A w:World}{F lo n0:Nat}
theorem JG{ab:List (ByteArray×Int×Bool)}{v:Value}(h:Rep G A (.sl ab.length (ab.flatMap cj)) v)(hn:A.heap.size≤F)(hlo:A.heap.size≤lo)(ht:∀b k v,b<A.heap.size→A.cell? ⟨b,k,none⟩=some v→w.cell? ⟨b,k,none⟩=some v):∃a0 cap,v=.slice a0 ab.length cap∧oM F lo w a0 ab:=by
 obtain⟨a0,cap,rfl,hc⟩:=xR (s:=3) (by decide) (fun _=>rfl) h;refine⟨a0,cap,rfl,fun j hj=>?_⟩
 have hx:ab[j]?=some (ab.getD j (default,0,false)):=by rw[List.getElem?_eq_getElem hj];simp[List.getD_eq_getElem?_getD,List.getElem?_eq_getElem hj]
 obtain⟨b,off,h1,h2,h3⟩:=hc j _ hx;obtain⟨u0,x0,y0⟩:=h3 0 _ (by decide) rfl;obtain⟨u1,x1,y1⟩:=h3 1 _ (by decide) rfl;obtain⟨u2,x2,y2⟩:=h3 2 _ (by decide) rfl;cases y0;cases y1;cases y2;exact⟨b,off,h1,by omega,by omega,ht _ _ _ h2 x0,ht _ _ _ h2 x1,ht _ _ _ h2 x2⟩
theorem JH{os:List (ByteArray×Int×Bool×Int)}{v:Value}(h:Rep G A (.sl os.length (os.flatMap bG)) v)(hn:A.heap.size≤F)(hlo:A.heap.size≤lo)(ht:∀b k v,b<A.heap.size→A.cell? ⟨b,k,none⟩=some v→w.cell? ⟨b,k,none⟩=some v):∃a0 cap,v=.slice a0 os.length cap∧jw F w a0 os∧∀j,j<os.length→∀ad,a0=some ad→ad.block<lo:=by
 obtain⟨a0,cap,rfl,hc⟩:=xR (s:=4) (by decide) (fun _=>rfl) h
 have hx:∀j,j<os.length→os[j]?=some (os.getD j (default,0,false,0)):=fun j hj=>by rw[List.getElem?_eq_getElem hj];simp[List.getD_eq_getElem?_getD,List.getElem?_eq_getElem hj]
 refine⟨a0,cap,rfl,fun j hj=>?_,fun j hj ad had=>?_⟩
 ·obtain⟨b,off,h1,h2,h3⟩:=hc j _ (hx j hj);obtain⟨u0,x0,y0⟩:=h3 0 _ (by decide) rfl;obtain⟨u1,x1,y1⟩:=h3 1 _ (by decide) rfl;obtain⟨u2,x2,y2⟩:=h3 2 _ (by decide) rfl;obtain⟨u3,x3,y3⟩:=h3 3 _ (by decide) rfl;cases y0;cases y1;cases y2;cases y3;exact⟨b,off,h1,by omega,ht _ _ _ h2 x0,ht _ _ _ h2 x1,ht _ _ _ h2 x2,ht _ _ _ h2 x3⟩
 ·obtain⟨b,off,h1,h2,_⟩:=hc j _ (hx j hj);rw[had] at h1;cases h1;show b<lo;omega
theorem JI{zs:List (Int×Int)}{v:Value}(h:Rep G A (.sl zs.length (zs.flatMap bH)) v)(hn:A.heap.size≤F)(hlo:A.heap.size≤lo)(ht:∀b k v,b<A.heap.size→A.cell? ⟨b,k,none⟩=some v→w.cell? ⟨b,k,none⟩=some v):∃a0 cap,v=.slice a0 zs.length cap∧iu F w a0 zs∧∀j,j<zs.length→∀ad,a0=some ad→ad.block<lo:=by
 obtain⟨a0,cap,rfl,hc⟩:=xR (s:=2) (by decide) (fun _=>rfl) h
 have hx:∀j,j<zs.length→zs[j]?=some (zs.getD j (0,0)):=fun j hj=>by rw[List.getElem?_eq_getElem hj];simp[List.getD_eq_getElem?_getD,List.getElem?_eq_getElem hj]
 refine⟨a0,cap,rfl,fun j hj=>?_,fun j hj ad had=>?_⟩
 ·obtain⟨b,off,h1,h2,h3⟩:=hc j _ (hx j hj);obtain⟨u0,x0,y0⟩:=h3 0 _ (by decide) rfl;obtain⟨u1,x1,y1⟩:=h3 1 _ (by decide) rfl;cases y0;cases y1;exact⟨b,off,h1,by omega,ht _ _ _ h2 x0,ht _ _ _ h2 x1⟩
 ·obtain⟨b,off,h1,h2,_⟩:=hc j _ (hx j hj);rw[had] at h1;cases h1;show b<lo;omega
end
abbrev oX:Code:=.seq (.region 0 tc false) (.seq (.seq (.region 1 mX false) cZ) cR4)
theorem N7:@codeOk xfW prog oX=true:=by kernel_rfl
theorem N8(v:Value):Frame.enter Tryz.prog 69 #[v] .normal=b20.atR ⟨#[v]++Array.replicate 37 undef,[]⟩ [.code oX]:=by
 rw[enter_at _ Tryz.func69 Jz];rfl
theorem N9(v:Value):SlS (fun t=>if t=0 then some v else none) ⟨#[v]++Array.replicate 37 undef,[]⟩:=
 ⟨by simp,rfl,fun t x ht=>by
   by_cases e:t=0
   ·subst e;simp only[if_true,Option.some.injEq] at ht;subst ht;simp
   ·simp only[if_neg e] at ht;cases ht⟩
theorem JJ(a:Act):@bD xfW prog Tryz.prog (b20.atR a [.code oX]):=by
 letI:=xfW
 refine⟨fun it hit=>?_,cz,.inr ⟨.inl rfl,rfl,rfl,rfl,trivial⟩,fun ch=>by simp[Frame.atR,b20],⟨_,_,NJ,Tryz.func69,E9,E9⟩⟩
 have:it=.code oX:=by simpa[Frame.atR] using hit
 subst this;exact N7
theorem pX{fr:Frame}{f:FuncId}{args:Array Value}{P:Program}(h:fr.todo.length≠1):Frame.enter P f args .normal≠fr:=fun e=>by
 obtain⟨c,hc⟩:∃c,(Frame.enter P f args .normal).todo=[.code c]:=⟨_,rfl⟩;rw[e] at hc;rw[hc] at h;exact h rfl
structure mn(P0:Program)[X:Xf][L0:ar](bad0:Nat→Prop)(ci ce:RND→Int)(fr37:Bool):Prop where
 hp:nD P0 Tryz.prog bad0
 zg:∀f,¬Xf.bot f
 Oa:∀f args w R,¬EnvD.xt f args w R
 up:∀o,okO (@Cc xfW prog Tryz.prog) o→okO (@Cc X P0 Tryz.prog) o
 ent:∀v,Frame.enter Tryz.prog 55 #[v] .normal=Frame.enter P0 55 #[v] .normal
 zv:∀v,bD P0 Tryz.prog (Frame.enter P0 55 #[v] .normal)
 chk:∀r,aA P0 55 [aR r] (.tup [.int .i64 (ci r),.int .i64 (ce r)]) fr37
 lim:∀r,ce r=0→r.os.length≤1000∧r.zs.length≤64∧r.ab.length≤1000
section
variable{P0:Program}[X:Xf][L0:ar]{bad0:Nat→Prop}{ci ce:RND→Int}{fr37:Bool}{K:fV}
theorem Cz{Gd:Nat→Prop}{A:World}{r:RND}{v:Value}(h:Rep Gd A (aR r) v):∃a0 c0 oa bj a2 c2 a3 c3,v=.agg (fR a0 r.ab.length c0 oa r.os.length bj a2 r.nw c2 a3 r.zs.length c3)∧Rep Gd A r.bS (.slice a0 r.ab.length c0)∧Rep Gd A r.osP (.slice oa r.os.length bj)∧Rep Gd A r.bU (.slice a2 r.nw c2)∧Rep Gd A r.zsP (.slice a3 r.zs.length c3):=by
 unfold aR at h
 cases h with
 |agg hl hr=>
  rename_i vs
  have hsz:vs.size=4:=by simpa using hl.symm
  obtain⟨v0,v1,v2,v3,rfl⟩:∃v0 v1 v2 v3,vs=#[v0,v1,v2,v3]:=by
   obtain⟨l⟩:=vs
   match l,hsz with
   |[a,b,c,d],_=>exact⟨a,b,c,d,rfl⟩
  have r0:=hr 0 _ _ rfl rfl;have r1:=hr 1 _ _ rfl rfl;have r2:=hr 2 _ _ rfl rfl;have r3:=hr 3 _ _ rfl rfl;obtain⟨a0,c0,rfl⟩:=Rep.isSlice r0;obtain⟨a1,c1,rfl⟩:=Rep.isSlice r1;obtain⟨a2,c2,rfl⟩:=Rep.isSlice r2;obtain⟨a3,c3,rfl⟩:=Rep.isSlice r3;exact⟨a0,c0,a1,c1,a2,c2,a3,c3,rfl,r0,r1,r2,r3⟩
theorem JK{Gd:Nat→Prop}{A:World}{i e:Int}{v:Value}(h:Rep Gd A (.tup [.int .i64 i,.int .i64 e]) v):v=.tuple #[.int .i64 i,.int .i64 e]:=by
 cases h with
 |tup hl hr=>
  rename_i vs
  have hsz:vs.size=2:=by simpa using hl.symm
  obtain⟨v0,v1,rfl⟩:∃v0 v1,vs=#[v0,v1]:=by
   obtain⟨l⟩:=vs
   match l,hsz with
   |[a,b],_=>exact⟨a,b,rfl⟩
  have r0:=hr 0 _ _ rfl rfl;have r1:=hr 1 _ _ rfl rfl;cases r0;cases r1;rfl
theorem JL(H:mn P0 bad0 ci ce fr37){dead:Nat→Prop}{gs:Array Goroutine}{B:World}{sl:Option (Nat×Nat)}{t:Trace}{q:Nat→Nat}{base:List Frame}{v:Value}{r:RND}{Gd:Nat→Prop}(hstg:Stg (Cc P0 Tryz.prog) Tryz.prog K dead gs B t q (Frame.enter Tryz.prog 69 #[v] .normal) base)(hok:ar.ok (mkA (Cc P0 Tryz.prog) dead B))(hv:Rep Gd (mkA (Cc P0 Tryz.prog) dead B) (aR r) v):∃gs' B' sl' t' q' dead' a rb rv,v=.agg rv∧fB Tryz.prog (crowd gs B sl) t (crowd gs' B' sl') t'∧Stg (Cc P0 Tryz.prog) Tryz.prog K dead' gs' B' t' q' ((frA a).finish (.tuple #[.int .i64 (ci r),.int .i64 (ce r)])) base∧SlS (ups (SA rb) 11 (.agg rv)) a∧(∃ty,(mkA (Cc P0 Tryz.prog) dead' B').heap[rb]?=some (.cells rv ty)∧ty=27)∧B.heap.size≤rb∧@bD xfW prog Tryz.prog (frA a)∧Bel B.heap.size (mkA (Cc P0 Tryz.prog) dead B) (mkA (Cc P0 Tryz.prog) dead' B'):=by
 obtain⟨a0,c0,oa,bj,a2,c2,a3,c3,rfl,q0,q1,q2,q3⟩:=Cz hv;rw[N8] at hstg
 have kI:oQ P0 Tryz.prog K:=fun f args c cs base A S R gs B sl t q _ h _ _=>(H.Oa _ _ _ _ (h _ (H.hp.gN A A.tape A.drawn))).elim
 obtain⟨gs1,B1,sl1,t1,p1,fr1,A1,run1,sz1,stg1,phi1,ok1,heap1,bel1⟩:=tj (XF:=xfW) (sl:=sl) (N:=20) (Φ:=Fg base (mkA (@Cc xfW prog Tryz.prog) dead B) (.slice a0 r.ab.length c0) (.slice oa r.os.length bj) (.slice a2 r.nw c2) (.slice a3 r.zs.length c3)) uz H.up hstg (JJ _)
  (NR ⟨_,_,_,rfl⟩ ⟨_,_,_,rfl⟩ ⟨_,_,_,rfl⟩ ⟨_,_,_,rfl⟩ (N9 _)) (fun fr' cs' w h=>⟨h.1,by obtain⟨_,a,rb,_,_,_,hb,_⟩:=h;exact hb⟩)
  (fun f args cs w h=>by
    obtain⟨_,a,rb,e,_⟩:=h
    exact pX (by simp[frA,Frame.atR]) e)
  (fun fr cs w w1 h e=>by
    obtain⟨h1,a,rb,h2,h3,h4,h5,h6⟩:=h
    exact⟨h1,a,rb,h2,h3,h4.mv e,h5.trans (e.mono h5.size),h6⟩)
 obtain⟨_,a,rb,rfl,hS,hRb,_,hge⟩:=phi1;rw[cE] at hge;have hRb1:(mkA (Cc P0 Tryz.prog) dead B1).heap[rb]?=some (.cells (fR a0 r.ab.length c0 oa r.os.length bj a2 r.nw c2 a3 r.zs.length c3) 27):=Cv ((heap1 rb).symm.trans hRb);obtain⟨gs2,d,sl2,t2,p2,run2,sz2,stg2⟩:=ti (sl:=sl1) stg1 (fun w=>.inl (NX (base:=base) (hS.get 11 _ rfl) w));have bel2:Bel B.heap.size (mkA (Cc P0 Tryz.prog) dead B) (mkA (Cc P0 Tryz.prog) dead (B1.at d)):=⟨bel1.os,bel1.output,bel1.size,bel1.block⟩;have hok2:ar.ok (mkA (Cc P0 Tryz.prog) dead (B1.at d)):=ar.keep hok (by rw[cE];exact bel2)
 have hv2:Rep Gd (mkA (Cc P0 Tryz.prog) dead (B1.at d)) (aR r) (.agg (fR a0 r.ab.length c0 oa r.os.length bj a2 r.nw c2 a3 r.zs.length c3)):=hv.mono (fun _ _ h=>h) fun b hb _=>bel2.block b (by rw[cE] at hb;exact hb)
 have hcall:=(H.chk r).2 Gd (mkA (Cc P0 Tryz.prog) dead (B1.at d)) #[.agg (fR a0 r.ab.length c0 oa r.os.length bj a2 r.nw c2 a3 r.zs.length c3)] hok2 rfl (fun j p v hp hv=>by
  match j with
  |0=>
   simp only[List.getElem?_cons_zero,Option.some.injEq] at hp;subst hp
   have:v=.agg (fR a0 r.ab.length c0 oa r.os.length bj a2 r.nw c2 a3 r.zs.length c3):=by simpa using hv.symm
   subst this;exact hv2
  |j+1=>simp at hp)
 obtain⟨gs3,B3,sl3,t3,p3,dead',A3,v3,run3,stg3,hR,heap3,os3,out3⟩:=JE (sl:=sl2) H.hp kI H.zg (H.ent _) (H.zv _) (cl:=frA a) (fun ch=>by simp[frA,Frame.atR,b20]) stg2 hcall (fun f args v _=>pX (by
  unfold frA;rw[Frame.finish_atR];simp[Frame.atR]))
 obtain⟨v',e',hbel,hrep⟩:=hR;cases e';obtain rfl:=JK hrep;have bel3:Bel (mkA (Cc P0 Tryz.prog) dead (B1.at d)).heap.size (mkA (Cc P0 Tryz.prog) dead (B1.at d)) (mkA (Cc P0 Tryz.prog) dead' B3):=Bel.congr hbel (fun _=>rfl) heap3 rfl os3 rfl out3;refine⟨gs3,B3,sl3,t3,p3,dead',a,rb,_,rfl,run1.trans (run2.trans run3),stg3,hS,⟨27,?_,rfl⟩,hge,ok1,bel2.trans (bel3.mono (by have:=bel2.size;rw[cE] at this;exact this))⟩;have hlt:rb<(mkA (Cc P0 Tryz.prog) dead (B1.at d)).heap.size:=(Array.getElem?_eq_some_iff.1 (show (mkA (Cc P0 Tryz.prog) dead (B1.at d)).heap[rb]?=_ from hRb1)).1;exact (bel3.block rb hlt).trans hRb1
end
end Go.Proofs.Tw
namespace Go.Proofs.Tw
open Go Go.Fi Go.Fc Go.Conc Go.RowKit
open Go.ConcR (WgAt wgBlock)
open Go.ConcN (PayAt)
theorem xS{n:Nat}{W:World}{C:Cx}{dead:Nat→Prop}{B:World}{d:Nat}(h:Bel n W (mkA C dead B)):Bel n W (mkA C dead (B.at d)):=⟨h.os,h.output,h.size,h.block⟩
section
variable{P0:Program}[X:Xf][L0:ar]{bad0:Nat→Prop}{ci ce:RND→Int}{fr37:Bool}{K:fV}
 {dead:Nat→Prop} {gs:Array Goroutine} {B:World} {sl:Option (Nat×Nat)} {t:Trace} {q:Nat→Nat} {c:Frame} {cs:List Frame} {a:Act} {rb:Nat}
theorem CB{k:List Item}{v2 v3:Value}(hstg:Stg (Cc P0 Tryz.prog) Tryz.prog K dead gs B t q (b20.atR a (.code .ret::k)) (c::cs))(hd:a.defers=[])(h2:a.tmps[2]?.getD undef=v2)(h3:a.tmps[3]?.getD undef=v3):∃gs' d sl' t' q',fB Tryz.prog (crowd gs B sl) t (crowd gs' (B.at d) sl') t'∧Stg (Cc P0 Tryz.prog) Tryz.prog K dead gs' (B.at d) t' q' (c.finish (.tuple #[v2,v3])) cs:=by
 obtain⟨gs1,d1,sl1,t1,p1,run1,_,stg1⟩:=ti (sl:=sl) hstg (fun w=>.inl (N3 w));obtain⟨gs2,d2,sl2,t2,p2,run2,_,stg2⟩:=ti (sl:=sl1) stg1 (fun w=>.inl (NZ hd h2 h3 w));exact⟨gs2,d2,sl2,t2,p2,run1.trans run2,stg2⟩
theorem refused(H:mn P0 bad0 ci ce fr37){s0 s1 s2 s3:Value}{i e:Int}(he:e≠0)(hstg:Stg (Cc P0 Tryz.prog) Tryz.prog K dead gs B t q ((frA a).finish (.tuple #[.int .i64 i,.int .i64 e])) (c::cs))(hS:SlS (ups (SA rb) 11 (.agg #[s0,s1,s2,s3])) a)(hok:@bD xfW prog Tryz.prog (frA a)):∃gs' B' sl' t' q',fB Tryz.prog (crowd gs B sl) t (crowd gs' B' sl') t'∧Stg (Cc P0 Tryz.prog) Tryz.prog K dead gs' B' t' q' (c.finish (.tuple #[.pointer none,.int .i64 e])) cs∧Bel B.heap.size (mkA (Cc P0 Tryz.prog) dead B) (mkA (Cc P0 Tryz.prog) dead B'):=by
 obtain⟨gs1,B1,sl1,t1,p1,fr1,A1,run1,sz1,stg1,phi1,ok1,heap1,bel1⟩:=tj (XF:=xfW) (sl:=sl) (N:=20) (Φ:=Fj (c::cs) (mkA (@Cc xfW prog Tryz.prog) dead B) e) uz H.up hstg (@bD.finish xfW _ _ _ hok _)
  (NS he hS) (fun fr' cs' w h=>⟨h.1,by obtain⟨_,a,_,_,hb⟩:=h;exact hb⟩)
  (fun f args cs w h=>by
    obtain⟨_,a,e,_⟩:=h
    exact pX (by simp[Ff,Frame.atR]) e)
  (fun fr cs w w1 h e=>by
    obtain⟨h1,a,h2,h3,h4⟩:=h
    exact⟨h1,a,h2,h3,h4.trans (e.mono h4.size)⟩)
 obtain⟨_,a',rfl,hL,_⟩:=phi1;obtain⟨gs2,d,sl2,t2,p2,run2,stg2⟩:=CB (sl:=sl1) (k:=[.code cR4]) stg1 hL.defers (hL.at 2) (hL.at 3);exact⟨gs2,B1.at d,sl2,t2,p2,run1.trans run2,stg2,xS bel1⟩
end
theorem JM{w w':World}{v:Value}{l:List Bool}{lo:Nat}{Gd:Nat→Prop}(h:w.ownsRow lo 4 1 v l.length (l.map Value.bool))(hg:∀g c,lo≤g→w.heap[g]?=some (.cells c 4 (0,0))→0<c.size→w'.heap[g]?=some (.cells c 4 (0,0)))(hG:∀g,lo≤g→Gd g):Rep Gd w' (.sl l.length (l.map PV.bool)) v:=by
 obtain⟨_,⟨rfl,hn⟩|⟨g,cap,cur,rfl,h1,h2,h3,_,h5,h6⟩⟩:=h
 ·obtain rfl:=List.eq_nil_of_length_eq_zero hn;exact .slnil
 ·by_cases hl:l=[]
  ·subst hl;exact .slz h3
  ·have hpos:0<l.length:=List.length_pos_iff.2 hl
   have hcur:∀j,j<l.length→cur[j]?=(l.map Value.bool)[j]?:=fun j hj=>by
    rw[←h6,List.getElem?_take_of_lt (by omega)];simp
   refine .sl (off:=0) (fun j=>cur[j]?.getD undef) h3 (fun j hj=>?_) (fun _=>hG g h1) (fun j p hp=>?_)
   ·have hw:=hg g cur h1 h2 (by omega);rw[List.length_map] at hj;have hc:=hcur j hj
    have:j<cur.size:=by rw[h5];omega
    refine dD hw ?_;rw[Nat.zero_add];simp[Array.getElem?_eq_getElem this]
   ·have hj:j<l.length:=by have:=(List.getElem?_eq_some_iff.1 hp).1;simpa using this
    show Rep Gd w' p (cur[j]?.getD undef);rw[hcur j hj];rw[List.getElem?_map] at hp ⊢;rw[List.getElem?_eq_getElem hj] at hp ⊢;simp only[Option.map_some,Option.some.injEq] at hp;subst hp;exact .bool _
noncomputable def odR(r:RND):OD:={ rb:=0,xv:=0,xb:=0,wg:=0,F:=0,lo0:=0,ca:=none,gI:=0,ab:=r.ab,oa:=none,bj:=0,os:=r.os,fa:=none,ju:=0,zs:=r.zs }
noncomputable def iV(r:RND)(i:Nat):List Bool:=zt (odR r) i
section
variable{P0:Program}[X:Xf][L0:ar]{bad0:Nat→Prop}{ci ce:RND→Int}{fr37:Bool}{K:fV}
 {dead:Nat→Prop} {gs:Array Goroutine} {B:World} {sl:Option (Nat×Nat)} {t:Trace} {q:Nat→Nat} {c:Frame} {cs:List Frame} {a:Act} {rb:Nat}
structure At4(r:RND)(rb F xb xv wg:Nat)(rv:Array Value)(n0:Nat)(dead:Nat→Prop)(B:World):Prop where
 f0:n0≤F
 b0:n0≤xb
 v0:n0≤xv
 nr:¬dead rb
 nf:¬dead F
 nb:¬dead xb
 nv:¬dead xv
 rbc:B.heap[rb]?=some (.cells rv 27)
 fc:B.heap[F]?=some (.cells (Array.replicate r.os.length (.slice none 0 0)) 136)
 xbc:B.heap[xb]?=some (.cells #[rv.getD 0 undef,rv.getD 1 undef,rv.getD 2 undef,rv.getD 3 undef,.slice (some ⟨F,0,none⟩) r.os.length r.os.length] 105)
 xvc:B.heap[xv]?=some (.cells #[P_ xb] 92)
theorem At4.ne{r:RND}{F xb xv wg n0:Nat}{rv:Array Value}(h:At4 r rb F xb xv wg rv n0 dead B):rb≠F∧xv≠F∧xb≠F:=by
 refine⟨fun e=>?_,fun e=>?_,fun e=>?_⟩
 ·have:=h.rbc;rw[e,h.fc] at this;simp at this
 ·have:=h.xvc;rw[e,h.fc] at this;simp at this
 ·have:=h.xbc;rw[e,h.fc] at this;simp at this
theorem JN(H:mn P0 bad0 ci ce fr37){r:RND}{i:Int}{a0 oa a2 a3:Option Addr}{c0 bj c2 c3:Nat}{A0:World}(hlen:r.os.length≤1000)(bel0:Bel A0.heap.size A0 (mkA (Cc P0 Tryz.prog) dead B))(hstg:Stg (Cc P0 Tryz.prog) Tryz.prog K dead gs B t q ((frA a).finish (.tuple #[.int .i64 i,.int .i64 0])) (c::cs))(hS:SlS (ups (SA rb) 11 (.agg (fR a0 r.ab.length c0 oa r.os.length bj a2 r.nw c2 a3 r.zs.length c3))) a)(hok:@bD xfW prog Tryz.prog (frA a))(hrb:(mkA (Cc P0 Tryz.prog) dead B).heap[rb]?=some (.cells (fR a0 r.ab.length c0 oa r.os.length bj a2 r.nw c2 a3 r.zs.length c3) 27)):∃gs' B' B4 sl' t' q' a' F xb xv,fB Tryz.prog (crowd gs B sl) t (crowd gs' B4 sl') t'∧gs'[0]?=some (G (frC a') (c::cs))∧gP (Cc P0 Tryz.prog) K dead B4∧Leavers Tryz.prog t' gs' q'∧Past (qL dead) B'.heap.size t'∧B4.heap=B'.heap.push (wgBlock 147 0 0)∧B4.os=B'.os∧B4.output=B'.output∧K.n0≤B'.heap.size∧SlL [(1,P_ rb),(6,P_ xv),(7,P_ B'.heap.size)] a'∧@bD xfW prog Tryz.prog (frC a')∧(∀b,dead b→b<B'.heap.size)∧At4 r rb F xb xv B'.heap.size (fR a0 r.ab.length c0 oa r.os.length bj a2 r.nw c2 a3 r.zs.length c3) A0.heap.size dead B'∧Bel A0.heap.size A0 (mkA (Cc P0 Tryz.prog) dead B'):=by
 have hRb:mj (mkA (@Cc xfW prog Tryz.prog) dead B) rb (.slice a0 r.ab.length c0) (.slice oa r.os.length bj) (.slice a2 r.nw c2) (.slice a3 r.zs.length c3):=Cv hrb
 have hn0:A0.heap.size≤B.heap.size:=by have:=bel0.size;rw[cE] at this;exact this
 obtain⟨gs1,B1,sl1,t1,p1,fr1,A1,run1,sz1,stg1,phi1,ok1,heap1,bel1⟩:=tj (XF:=xfW) (sl:=sl) (N:=40) (Φ:=Fl (c::cs) (mkA (@Cc xfW prog Tryz.prog) dead B) (fR a0 r.ab.length c0 oa r.os.length bj a2 r.nw c2 a3 r.zs.length c3) rb r.os.length) uz H.up hstg (@bD.finish xfW _ _ _ hok _)
  (NW hlen hRb hS) (fun fr' cs' w h=>⟨h.1,by obtain⟨_,a,F,xb,xv,_,_,hb,_⟩:=h;exact hb⟩)
  (fun f args cs w h=>by
    obtain⟨_,a,F,xb,xv,e,_⟩:=h
    exact pX (by simp[qI,Frame.atR]) e)
  (fun fr cs w w1 h e=>by
    obtain⟨h1,a,F,xb,xv,h2,h3,h4,h5⟩:=h
    exact⟨h1,a,F,xb,xv,h2,h3,h4.trans (e.mono h4.size),h5.mv e⟩)
 obtain⟨_,a1,F,xb,xv,rfl,hL,_,hla⟩:=phi1
 obtain⟨gs2,B4,sl2,t2,p2,run2,sz2,z2,rt2,lv2,ps2,hh2,os2,out2⟩:=JD (sl:=sl1) (fr':=frC (a1.put (some 7) (P_ B1.heap.size))) (cs':=c::cs) (c:=#[.int .u64 0,.int .u32 0]) (e:=147) stg1 (fun w hw=>by
  obtain⟨d,rfl⟩:=hw
  exact NY (B1.at d))
 have hdead:∀b,dead b→b<B.heap.size:=fun b hb=>by
  obtain⟨_,c,e,f,h⟩:=hstg.iU.iw b hb;exact (Array.getElem?_eq_some_iff.1 h).1
 have hf1:B.heap.size≤F:=by have:=hla.f1;rw[cE] at this;exact this
 have hb1:B.heap.size≤xb:=by have:=hla.b1;rw[cE] at this;exact this
 have hv1:B.heap.size≤xv:=by have:=hla.v1;rw[cE] at this;exact this
 have nF:¬dead F:=fun h=>by have:=hdead F h;omega
 have nb:¬dead xb:=fun h=>by have:=hdead xb h;omega
 have nv:¬dead xv:=fun h=>by have:=hdead xv h;omega
 have nr:¬dead rb:=Cw hrb (by simp)
 have hszB:B.heap.size≤B1.heap.size:=by have:=bel1.size;rw[cE,cE] at this;exact this
 have hrbl:rb<B.heap.size:=by have:=(Array.getElem?_eq_some_iff.1 hrb).1;rw[cE] at this;exact this
 have e7:frC (a1.put (some 7) (P_ B1.heap.size))=(qI a1).finish (P_ B1.heap.size):=by
  unfold frC qI;rw[Frame.finish_atR];rfl
 refine⟨gs2,B1,B4,sl2,t2,p2,_,F,xb,xv,run1.trans run2,z2,rt2,lv2,ps2,hh2,os2,out2,stg1.n0,(hL.put (by decide) _ (by simp)).sub (by simp),by rw[e7];exact @bD.finish xfW _ _ _ ok1 _,fun b hb=>Nat.lt_of_lt_of_le (hdead b hb) hszB,?_,bel0.trans (bel1.mono hn0)⟩;exact⟨by omega,by omega,by omega,nr,nF,nb,nv,pW ((bel1.block rb hrbl).trans hrb) nr,pW ((heap1 F).symm.trans hla.f2) nF,pW ((heap1 xb).symm.trans hla.b2) nb,pW ((heap1 xv).symm.trans hla.v2) nv⟩
end
section
variable{P0:Program}[X:Xf][L0:ar]{bad0:Nat→Prop}{ci ce:RND→Int}{fr37:Bool}{K:fV}
 {dead:Nat→Prop} {gs:Array Goroutine} {B B3:World} {sl:Option (Nat×Nat)} {t:Trace} {q:Nat→Nat} {c:Frame} {cs:List Frame} {a:Act} {rb F xb xv:Nat} {r:RND}
 {a0 oa a2 a3:Option Addr} {c0 bj c2 c3:Nat} {A0:World} {Gd:Nat→Prop}
noncomputable def odO(r:RND)(rb F xb xv wg lo0:Nat)(a0 oa a3:Option Addr)(c0 bj c3:Nat):OD:={ rb:=rb,xv:=xv,xb:=xb,wg:=wg,F:=F,lo0:=lo0,ca:=a0,gI:=c0,ab:=r.ab,oa:=oa,bj:=bj,os:=r.os,fa:=a3,ju:=c3,zs:=r.zs }
theorem JO(H4:At4 r rb F xb xv B3.heap.size (fR a0 r.ab.length c0 oa r.os.length bj a2 r.nw c2 a3 r.zs.length c3) A0.heap.size dead B3)(hh:B.heap=B3.heap.push (wgBlock 147 0 0))(hbel:Bel A0.heap.size A0 (mkA (Cc P0 Tryz.prog) dead B3))(hc:Rep Gd A0 r.bS (.slice a0 r.ab.length c0))(ho:Rep Gd A0 r.osP (.slice oa r.os.length bj))(hz:Rep Gd A0 r.zsP (.slice a3 r.zs.length c3)):eJ (odO r rb F xb xv B3.heap.size B.heap.size a0 oa a3 c0 bj c3) (mkA (@Cc xfW prog Tryz.prog) (fun b=>dead b∨b=B3.heap.size) B):=by
 obtain⟨e1,e2,e3⟩:=H4.ne
 have hsz:B.heap.size=B3.heap.size+1:=by rw[hh];simp
 have lt:∀{b:Nat}{o:Obj},B3.heap[b]?=some o→b<B3.heap.size:=fun h=>(Array.getElem?_eq_some_iff.1 h).1
 have hB:∀b,b<B3.heap.size→B.heap[b]?=B3.heap[b]?:=fun b hb=>by
  rw[hh,Array.getElem?_push_lt hb];simp[Array.getElem?_eq_getElem hb]
 have lF:=lt H4.fc;have lb:=lt H4.xbc;have lv:=lt H4.xvc;have lr:=lt H4.rbc
 have nd:∀b,¬dead b→b<B3.heap.size→¬(dead b∨b=B3.heap.size):=fun b h1 h2 h=>h.elim h1 (by omega)
 have cell:∀b k v,¬dead b→b<B3.heap.size→B3.cell? ⟨b,k,none⟩=some v→(mkA (@Cc xfW prog Tryz.prog) (fun b=>dead b∨b=B3.heap.size) B).cell? ⟨b,k,none⟩=some v:=fun b k v h1 h2 h3=>
  sT (nd b h1 h2) (by rw[Cy (hB b h2)];exact h3)
 have hn0:A0.heap.size≤B3.heap.size:=by have:=hbel.size;rw[cE] at this;exact this
 have ht:∀b k v,b<A0.heap.size→A0.cell? ⟨b,k,none⟩=some v→(mkA (@Cc xfW prog Tryz.prog) (fun b=>dead b∨b=B3.heap.size) B).cell? ⟨b,k,none⟩=some v:=fun b k v hb hv=>by
  have h1:=(hbel.cell (p:=⟨b,k,none⟩) hb).trans hv;obtain⟨h2,h3⟩:=JC h1;exact cell b k v h2 (Nat.lt_of_lt_of_le hb hn0) h3
 obtain⟨_,_,x1,x2⟩:=JG (lo:=B.heap.size) hc H4.f0 (by omega) ht;obtain⟨_,_,y1,y2,y3⟩:=JH (lo:=B.heap.size) ho H4.f0 (by omega) ht;obtain⟨_,_,z1,z2,z3⟩:=JI (lo:=B.heap.size) hz H4.f0 (by omega) ht;cases x1;cases y1;cases z1;refine⟨by rw[cE];exact Nat.le_refl _,⟨?_,?_,?_,?_⟩,⟨e1,e2,e3⟩,cell _ _ _ H4.nr lr (dD H4.rbc rfl),cell _ _ _ H4.nr lr (dD H4.rbc rfl),cell _ _ _ H4.nr lr (dD H4.rbc rfl),cell _ _ _ H4.nv lv (dD H4.xvc rfl),cell _ _ _ H4.nb lb (dD H4.xbc rfl),x2,z2,z3,y2,y3⟩
 ·show F<B.heap.size;omega
 ·show rb<B.heap.size;omega
 ·show xv<B.heap.size;omega
 ·show xb<B.heap.size;omega
end
section
variable{P0:Program}[X:Xf][L0:ar]{bad0:Nat→Prop}{ci ce:RND→Int}{fr37:Bool}{K:fV}
 {dead:Nat→Prop} {gs:Array Goroutine} {B B3:World} {sl:Option (Nat×Nat)} {t:Trace} {q:Nat→Nat} {c:Frame} {cs:List Frame} {a:Act} {rb F xb xv:Nat} {r:RND}
 {a0 oa a2 a3:Option Addr} {c0 bj c2 c3:Nat} {A0:World} {Gd:Nat→Prop}
theorem JP(H:mn P0 bad0 ci ce fr37)(hl1:r.os.length≤1000)(hl2:r.zs.length≤64)(hl3:r.ab.length≤1000)(H4:At4 r rb F xb xv B3.heap.size (fR a0 r.ab.length c0 oa r.os.length bj a2 r.nw c2 a3 r.zs.length c3) A0.heap.size dead B3)(hh:B.heap=B3.heap.push (wgBlock 147 0 0))(hos:B.os=B3.os)(hout:B.output=B3.output)(hbel:Bel A0.heap.size A0 (mkA (Cc P0 Tryz.prog) dead B3))(hc:Rep Gd A0 r.bS (.slice a0 r.ab.length c0))(ho:Rep Gd A0 r.osP (.slice oa r.os.length bj))(hz:Rep Gd A0 r.zsP (.slice a3 r.zs.length c3))(h0:gs[0]?=some (G (frC a) (c::cs)))(hr:gP (Cc P0 Tryz.prog) K dead B)(hL:Leavers Tryz.prog t gs q)(hP:Past (qL dead) B3.heap.size t)(hn0:K.n0≤B3.heap.size)(hS:SlL [(1,P_ rb),(6,P_ xv),(7,P_ B3.heap.size)] a)(hok:@bD xfW prog Tryz.prog (frC a))(hdead:∀b,dead b→b<B3.heap.size):∃gs' B' sl' t' q' dead',fB Tryz.prog (crowd gs B sl) t (crowd gs' B' sl') t'∧Stg (Cc P0 Tryz.prog) Tryz.prog K dead' gs' B' t' q' (c.finish (.tuple #[P_ xb,.int .i64 0])) cs∧Bel A0.heap.size A0 (mkA (Cc P0 Tryz.prog) dead' B')∧B.heap.size≤B'.heap.size∧(mkA (Cc P0 Tryz.prog) dead' B').heap[xb]?=some (.cells #[.slice a0 r.ab.length c0,.slice oa r.os.length bj,.slice a2 r.nw c2,.slice a3 r.zs.length c3,.slice (some ⟨F,0,none⟩) r.os.length r.os.length] 105)∧∀i,i<r.os.length→∃v,(mkA (Cc P0 Tryz.prog) dead' B').cell? ⟨F,i,none⟩=some v∧Rep (fun g=>A0.heap.size≤g) (mkA (Cc P0 Tryz.prog) dead' B') (.sl (iV r i).length ((iV r i).map PV.bool)) v:=by
 have hK:=JO (P0:=P0) H4 hh hbel hc ho hz;obtain⟨e1,e2,e3⟩:=H4.ne
 have hsz:B.heap.size=B3.heap.size+1:=by rw[hh];simp
 have lt:∀{b:Nat}{o:Obj},B3.heap[b]?=some o→b<B3.heap.size:=fun h=>(Array.getElem?_eq_some_iff.1 h).1
 have hB:∀b,b<B3.heap.size→B.heap[b]?=B3.heap[b]?:=fun b hb=>by
  rw[hh,Array.getElem?_push_lt hb];simp[Array.getElem?_eq_getElem hb]
 have lF:=lt H4.fc;have lb:=lt H4.xbc;have lv:=lt H4.xvc;have hFB:=(hB F lF).trans H4.fc
 have hnA:A0.heap.size≤B3.heap.size:=by have:=hbel.size;rw[cE] at this;exact this
 let o:=odO r rb F xb xv B3.heap.size B.heap.size a0 oa a3 c0 bj c3
 obtain⟨gs5,B5,sl5,t5,p5,fr5,A5,run5,stg5,hI3,ok5,hfin,hsame,hos5,hout5,hsz5,cF5,hF5,hF5n⟩:=JF (XF:=xfW) (PL:=E4) (C0:=Cc P0 Tryz.prog) (K:=K) (d:=phd o gs.size dead) (s:=scr o (c::cs)) (sl:=sl) (NM o (c::cs) (by simp) _ _ hl1 hl2 hl3)
  ⟨show B3.heap.size<B.heap.size by omega,show F<B.heap.size by omega,show F≠B3.heap.size by omega,fun b hb=>by
    have:=hdead b hb
    exact⟨show b<B.heap.size by omega,fun e=>H4.nf (by rw[←show b=F from e];exact hb),show b≠B3.heap.size by omega⟩,show 1≤gs.size from (Array.getElem?_eq_some_iff.1 h0).1,show r.os.length<2147483648 by omega⟩
  (fun l k=>Nx l _ k) H.up rfl h0 hr hL hP (Nat.le_refl _) rfl (by show B.heap[B3.heap.size]?=some (wgBlock 147 0 0);rw[hh];simp) ⟨_,hFB,by rw[Array.size_replicate];rfl⟩ (fun i hi=>dD hFB (by
   rw[Array.getElem?_replicate,if_pos (show i<r.os.length from hi)];rfl)) hok hn0 ⟨50,N5 (o:=o) (cs:=c::cs) hl1 hS hK⟩
 obtain⟨a5,rfl,hS5,_⟩:=hI3
 have same:∀b,b<B3.heap.size→b≠F→B5.heap[b]?=B3.heap[b]?:=fun b h1 h2=>(hsame b (show b<B.heap.size by omega) h2 (show b≠B3.heap.size by omega)).trans (hB b h1)
 have hsz5':B.heap.size≤B5.heap.size:=hsz5
 have e6:(uv a5).finish (.tuple #[])=b20.atR (a5.put (some 36) (.tuple #[])) [.inRegion mR [],.code (.seq (.region 13 lB false) .ret)]:=by
  unfold uv;rw[Frame.finish_atR];rfl
 have ok6:=@bD.finish xfW _ _ _ ok5 (.tuple #[]);rw[e6] at stg5 ok6
 have nd:∀b,¬dead b→b<B3.heap.size→¬(dead b∨b=B3.heap.size):=fun b h1 h2 h=>h.elim h1 (by omega)
 have hL6:SlL [(6,P_ xv)] (a5.put (some 36) (.tuple #[])):=((hS5.list [(6,P_ xv)] (by intro p hp;simp only[List.mem_singleton] at hp;subst hp;rfl)).put (by decide) _ (by simp)).sub (by simp);have hx6:(mkA (@Cc xfW prog Tryz.prog) (fun b=>dead b∨b=B3.heap.size) B5).cell? ⟨xv,0,none⟩=some (P_ xb):=dD (mV (nd xv H4.nv lv) ((same xv lv e2).trans H4.xvc)) rfl;obtain⟨gs6,B6,sl6,t6,p6,fr6,A6,run6,sz6,stg6,phi6,_,heap6,bel6⟩:=tj (XF:=xfW) (sl:=sl5) (N:=10) (Φ:=Fp (c::cs) (mkA (@Cc xfW prog Tryz.prog) (fun b=>dead b∨b=B3.heap.size) B5) xb) uz H.up stg5 ok6
  (N6 hL6 hx6) (fun fr' cs' w h=>⟨h.1,by obtain⟨_,a,_,_,hb⟩:=h;exact hb⟩)
  (fun f args cs w h=>by
    obtain⟨_,a,e,_⟩:=h
    exact pX (by simp[frF,Frame.atR]) e)
  (fun fr cs w w1 h e=>by
    obtain⟨h1,a,h2,h3,h4⟩:=h
    exact⟨h1,a,h2,h3,h4.trans (e.mono h4.size)⟩)
 obtain⟨_,a6,rfl,hL7,_⟩:=phi6;obtain⟨gs7,d7,sl7,t7,p7,run7,_,stg7⟩:=ti (sl:=sl6) stg6 (fun w=>.inl (N4 w));obtain⟨gs8,d8,sl8,t8,p8,run8,stg8⟩:=CB (sl:=sl7) (k:=[]) stg7 hL7.defers (hL7.at 2) (hL7.at 3)
 have belP:Bel A0.heap.size (mkA (Cc P0 Tryz.prog) dead B3) (mkA (Cc P0 Tryz.prog) (fun b=>dead b∨b=B3.heap.size) B5):=by
  refine⟨hos5.trans hos,hout5.trans hout,by rw[cE,cE];omega,fun b hb=>?_⟩;have hb3:b<B3.heap.size:=Nat.lt_of_lt_of_le hb hnA
  have hbF:b≠F:=by have:=H4.f0;omega
  have hs:=same b hb3 hbF;by_cases hd:dead b
  ·rw[jV (dead:=fun b=>dead b∨b=B3.heap.size) (.inl hd),jV hd,hs]
  ·have hx:=Array.getElem?_eq_getElem hb3;by_cases hk:okO (Cc P0 Tryz.prog) B3.heap[b]
   ·rw[jh hd hx hk,jh (nd b hd hb3) (hs.trans hx) hk]
   ·rw[lG hd hx hk,lG (nd b hd hb3) (hs.trans hx) hk]
 have bel8:Bel B5.heap.size (mkA (Cc P0 Tryz.prog) (fun b=>dead b∨b=B3.heap.size) B5) (mkA (Cc P0 Tryz.prog) (fun b=>dead b∨b=B3.heap.size) ((B6.at d7).at d8)):=xS (xS bel6)
 have hA5:A0.heap.size≤B5.heap.size:=by omega
 refine⟨gs8,_,sl8,t8,p8,_,run5.trans (run6.trans (run7.trans run8)),stg8,hbel.trans (belP.trans (bel8.mono hA5)),?_,?_,fun i hi=>?_⟩
 ·have:=bel8.size;rw[cE,cE] at this;exact Nat.le_trans hsz5' this
 ·refine (bel8.block xb (by omega)).trans ?_;exact mV (nd xb H4.nb lb) ((same xb lb e3).trans H4.xbc)
 ·obtain⟨Ai,Si,⟨lo,v,hlo,hv,hrow⟩,hlk,hpart⟩:=hfin i hi
  have hFne:¬Si.part F i:=fun h=>(hpart F i h).2 rfl
  have hv5:B5.cell? ⟨F,i,none⟩=some v:=hlk.EI hv hFne;refine⟨v,(bel8.cell (p:=⟨F,i,none⟩) (show F<B5.heap.size by omega)).trans (sT (nd F H4.nf lF) hv5),?_⟩;have hlo':B.heap.size≤lo:=hlo;refine JM (lo:=lo) (w:=Ai) hrow (fun g cc hg hgc hpos=>?_) (fun g hg=>by omega)
  have hndS:¬Si.dead g:=fun hd=>by
   obtain⟨_,_,_,x1,_⟩:=hlk.dead g hd;rw[hgc] at x1;simp at x1;rw[x1.1] at hpos;simp at hpos
  have hg5:B5.heap[g]?=some (.cells cc 4 (0,0)):=by
   rcases hlk.same g hndS with ⟨e,_⟩|⟨o',_,_,h3,_⟩|⟨cA,cB,e,f,h1,h2,_,h4⟩
   ·rw[←e];exact hgc
   ·rw[hgc] at h3;cases o'<;>cases h3
   ·rw[hgc] at h1;cases h1;have:cc=cB:=Array.ext' (List.ext_getElem? fun k=>by simpa using h4 k (fun hp=>by have:=(hpart g k hp).1;have:g=F:=this;omega));subst this;exact h2
  have hglt:g<B5.heap.size:=(Array.getElem?_eq_some_iff.1 hg5).1;refine (bel8.block g hglt).trans (mV ?_ hg5)
  rintro (hd|e)
  ·have:=hdead g hd;omega
  ·omega
end
end Go.Proofs.Tw
namespace Go.Proofs.Tw
open Go Go.Fi Go.Fc Go.Conc Go.RowKit
noncomputable def oY(r:RND):PV:=.sl r.os.length ((List.range r.os.length).map fun i=>.sl (iV r i).length ((iV r i).map PV.bool))
noncomputable def iW(ce:RND→Int)(r:RND):PV:=if ce r=0 then .tup [.ip [r.bS,r.osP,r.bU,r.zsP,oY r] 0,.int .i64 0] else .tup [.dP,.int .i64 (ce r)]
@[reducible] noncomputable def Fs(ce:RND→Int)(L0:ar):ar where
 E:=L0.E
 ext:=L0.ext
 xt f args w R:=f=69∧L0.ok w∧∃r Gd v,args=#[v]∧Rep Gd w (aR r) v∧∀v' w',Bel w.heap.size w w'→Rep (fun b=>b<w.heap.size→Gd b) w' (iW ce r) v'→R v' w'
 D:=L0.D
 nil:=L0.nil
 ok:=L0.ok
 keep:=L0.keep
 iL:=L0.iL
theorem JQ{r:RND}{A A':World}{Gd:Nat→Prop}{a0 oa a2 a3:Option Addr}{c0 bj c2 c3 F xb:Nat}(hb:Bel A.heap.size A A')(h0:Rep Gd A r.bS (.slice a0 r.ab.length c0))(h1:Rep Gd A r.osP (.slice oa r.os.length bj))(h2:Rep Gd A r.bU (.slice a2 r.nw c2))(h3:Rep Gd A r.zsP (.slice a3 r.zs.length c3))(hF:A.heap.size≤F)(hxb:A.heap.size≤xb)(hc:A'.heap[xb]?=some (.cells #[.slice a0 r.ab.length c0,.slice oa r.os.length bj,.slice a2 r.nw c2,.slice a3 r.zs.length c3,.slice (some ⟨F,0,none⟩) r.os.length r.os.length] 105))(hrow:∀i,i<r.os.length→∃v,A'.cell? ⟨F,i,none⟩=some v∧Rep (fun g=>A.heap.size≤g) A' (.sl (iV r i).length ((iV r i).map PV.bool)) v):Rep (fun b=>b<A.heap.size→Gd b) A' (.tup [.ip [r.bS,r.osP,r.bU,r.zsP,oY r] 0,.int .i64 0]) (.tuple #[P_ xb,.int .i64 0]):=by
 have up:∀{p:PV}{v:Value},Rep Gd A p v→Rep (fun b=>b<A.heap.size→Gd b) A' p v:=fun h=>h.mono (fun b _ hg _=>hg) fun b hb' _=>hb.block b hb'
 have hfit:Rep (fun b=>b<A.heap.size→Gd b) A' (oY r) (.slice (some ⟨F,0,none⟩) r.os.length r.os.length):=by
  unfold oY;refine .sl (off:=0) (fun j=>(A'.cell? ⟨F,j,none⟩).getD undef) (Nat.le_refl _) (fun j hj=>?_) (fun _ hlt=>by omega) (fun j p hp=>?_)
  ·have hj':j<r.os.length:=by simpa using hj
   obtain⟨v,hv,_⟩:=hrow j hj';rw[Nat.zero_add];show _=some ((A'.cell? ⟨F,j,none⟩).getD undef);rw[hv];rfl
  ·have hj':j<r.os.length:=by have:=(List.getElem?_eq_some_iff.1 hp).1;simpa using this
   obtain⟨v,hv,hr⟩:=hrow j hj';simp only[List.getElem?_map,List.getElem?_range hj',Option.map_some,Option.some.injEq] at hp;subst hp;rw[hv]
   exact hr.imp fun b hb hlt=>by omega
 refine .tup rfl fun j p v hp hv=>?_
 match j with
 |0=>
  simp only[List.getElem?_cons_zero,Option.some.injEq] at hp
  have:v=P_ xb:=by simpa using hv.symm
  subst this hp;refine .ip (o:=0) (off:=0) (fun j=>(#[Value.slice a0 r.ab.length c0,.slice oa r.os.length bj,.slice a2 r.nw c2,.slice a3 r.zs.length c3,.slice (some ⟨F,0,none⟩) r.os.length r.os.length][j]?).getD undef) (fun j hj=>?_) (fun _ hlt=>by omega) (fun j p hp=>?_)
  ·refine dD hc ?_;have hj':j<5:=hj
   obtain rfl|rfl|rfl|rfl|rfl:j=0∨j=1∨j=2∨j=3∨j=4:=by omega
   all_goals rfl
  ·have hj':j<5:=(List.getElem?_eq_some_iff.1 hp).1
   obtain rfl|rfl|rfl|rfl|rfl:j=0∨j=1∨j=2∨j=3∨j=4:=by omega
   ·cases hp;exact up h0
   ·cases hp;exact up h1
   ·cases hp;exact up h2
   ·cases hp;exact up h3
   ·cases hp;exact hfit
 |1=>
  have e1:p=.int .i64 0:=by simpa using hp.symm
  have e2:v=.int .i64 0:=by simpa using hv.symm
  subst e1 e2;exact .int _ _
 |j+2=>simp at hp
theorem JR{e:Int}{A':World}{Gd:Nat→Prop}:Rep Gd A' (.tup [.dP,.int .i64 e]) (.tuple #[.pointer none,.int .i64 e]):=by
 refine .tup rfl fun j p v hp hv=>?_
 match j with
 |0=>
  have e1:p=.dP:=by simpa using hp.symm
  have e2:v=.pointer none:=by simpa using hv.symm
  subst e1 e2;exact .dP
 |1=>
  have e1:p=.int .i64 e:=by simpa using hp.symm
  have e2:v=.int .i64 e:=by simpa using hv.symm
  subst e1 e2;exact .int _ _
 |j+2=>simp at hp
section
variable{P0:Program}[X:Xf][L0:ar]{bad0:Nat→Prop}{ci ce:RND→Int}{fr37:Bool}{K:fV}
theorem Ob(H:mn P0 bad0 ci ce fr37):@oQ X (Fs ce L0).toEnvD P0 Tryz.prog K:=by
 intro f args c cs base A S R gs B sl t q hxf hxt hsit h0;obtain⟨rfl,hok,r,Gd,v,rfl,hv,hpost⟩:=hxt A (H.hp.gN A A.tape A.drawn);have hA:=hsit.lk.unique hsit.whole;have belA:Bel A.heap.size A (mkA (Cc P0 Tryz.prog) S.dead B):=Bel.congr (Bel.refl A.heap.size A) (fun _=>rfl) hA rfl hsit.lk.os rfl hsit.lk.output;have hsz:A.heap.size=B.heap.size:=hsit.lk.size;have hstg:Stg (Cc P0 Tryz.prog) Tryz.prog K S.dead gs B t q (Frame.enter Tryz.prog 69 #[v] .normal) (c::cs):=⟨h0,gP.Fq hsit.lk hsit.whole hsit.iw hsit.ma,hsit.old,hsit.kE,hsit.n0⟩;have hok':ar.ok (mkA (Cc P0 Tryz.prog) S.dead B):=ar.keep hok belA
 have hv':Rep Gd (mkA (Cc P0 Tryz.prog) S.dead B) (aR r) v:=hv.mono (fun _ _ h=>h) fun b hb _=>belA.block b hb
 obtain⟨a0,c0,oa,bj,a2,c2,a3,c3,rfl,q0,q1,q2,q3⟩:=Cz hv;obtain⟨gs1,B1,sl1,t1,p1,dead1,a,rb,rv,erv,run1,stg1,hS,⟨ty,hrb,rfl⟩,hge,okA,bel1⟩:=JL (sl:=sl) H hstg hok' hv';cases erv;have bel01:Bel A.heap.size A (mkA (Cc P0 Tryz.prog) dead1 B1):=belA.trans (bel1.mono (by omega))
 have hszB1:B.heap.size≤B1.heap.size:=by have:=bel1.size;rw[cE,cE] at this;exact this
 have fin:∀{gs':Array Goroutine}{B':World}{sl':Option (Nat×Nat)}{t':Trace}{q':Nat→Nat}{dead':Nat→Prop}{v':Value},fB Tryz.prog (crowd gs B sl) t (crowd gs' B' sl') t'→Stg (Cc P0 Tryz.prog) Tryz.prog K dead' gs' B' t' q' (c.finish v') cs→Bel A.heap.size A (mkA (Cc P0 Tryz.prog) dead' B')→B.heap.size≤B'.heap.size →
  Rep (fun b=>b<A.heap.size→Gd b) (mkA (Cc P0 Tryz.prog) dead' B') (iW ce r) v'→_:=fun {gs' B' sl' t' q' dead' v'} ⟨N,hr⟩ hs hb hz hrep=>
  (⟨N,gs',B',sl',t',q',⟨dead',fun _ _=>False,K.old⟩,A,_,v',hr,H.hp.gN A A.tape A.drawn,hpost v' _ hb hrep,hs.zero,Cf hs.iU,fun _ _ h=>h,fun b hb=>(hs.iU.iw b hb).1,rfl,hs.left,hs.kE,hz⟩:∃(N:Nat)(gs':Array Goroutine)(B':World)(sl':Option (Nat×Nat))(t':Trace)(q':Nat→Nat)(S':Sh)(A1 A':World)(v:Value),
    runNT Tryz.prog N (crowd gs B sl) t=(Stepped.next (crowd gs' B' sl'),t')∧L0.E A A1∧R A1 v A'∧gs'[0]?=some (G (c.finish v) cs)∧Lk (Cc P0 Tryz.prog) S' A' B'∧(∀b i,¬S'.part b i)∧(∀b,S'.dead b→K.n0≤b)∧S'.old=K.old∧Leavers Tryz.prog t' gs' q'∧Past (jz S') B'.heap.size t'∧B.heap.size≤B'.heap.size)
 by_cases he:ce r=0
 ·obtain⟨l1,l2,l3⟩:=H.lim r he;rw[he] at stg1;obtain⟨gs2,B2,B4,sl2,t2,p2,a',F,xb,xv,run2,z2,rt2,lv2,ps2,hh,hos,hout,hn0,hSl,hokC,hdd,H4,bel02⟩:=JN (sl:=sl1) H l1 bel01 stg1 hS okA hrb
  have hB2:A.heap.size≤B2.heap.size:=by have:=bel02.size;rw[cE] at this;exact this
  obtain⟨gs3,B3,sl3,t3,p3,dead3,run3,stg3,bel03,hz3,hxb3,hrow⟩:=JP (sl:=sl2) H l1 l2 l3 H4 hh hos hout bel02 q0 q1 q3 z2 rt2 lv2 ps2 hn0 hSl hokC hdd;refine fin (run1.trans (run2.trans run3)) stg3 bel03 ?_ ?_
  ·have:B4.heap.size=B2.heap.size+1:=by rw[hh];simp
   omega
  ·unfold iW;rw[if_pos he];exact JQ bel03 q0 q1 q2 q3 H4.f0 H4.b0 hxb3 hrow
 ·obtain⟨gs2,B2,sl2,t2,p2,run2,stg2,bel2⟩:=refused (sl:=sl1) H he stg1 hS okA
  have hszB2:B1.heap.size≤B2.heap.size:=by have:=bel2.size;rw[cE,cE] at this;exact this
  refine fin (run1.trans run2) stg2 (bel01.trans (bel2.mono (by omega))) (by omega) ?_;unfold iW;rw[if_neg he];exact JR
end
end Go.Proofs.Tw
