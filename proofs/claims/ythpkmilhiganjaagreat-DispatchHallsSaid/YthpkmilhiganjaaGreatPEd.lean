/- Lemmas. -/
import Derived.Test.YthpkmilhiganjaaGreatPEc
import Derived.Test.YthpkmilhiganjaaGreatPDb
import Derived.Test.YthpkmilhiganjaaGreatPDc
set_option linter.all false
set_option maxHeartbeats 32000000
set_option maxRecDepth 100000
namespace Go.Proofs.YthpkmilhiganjaaGreat
open Go Go.Fi
noncomputable instance C5:av:=LD
theorem sC(r:Tw.RND)(l:List Int)(h2:bo r.os.length l≠0):chP r l=.tup [.sl 0 [],.int .i64 (bo r.os.length l)]:=by
 unfold chP chS;rw[aB h2,aB h2]
theorem sF(r:Tw.RND)(l:List Int)(h1:bo r.os.length l=0)(h2:(l.length:Int)<=(ah r.ab r.os r.zs l r.ab.length).length):chP r l=.tup [.sl 0 [],.int .i64 20]:=by
 have hn:¬(bo r.os.length l≠0):=λh=>h h1
 unfold chP chS;rw[ar hn,aB h2,aB (by decide)]
theorem sO(r:Tw.RND)(l:List Int)(h1:bo r.os.length l=0)(h2:¬(l.length:Int)<=(ah r.ab r.os r.zs l r.ab.length).length):chP r l=.tup [.sl (ah r.ab r.os r.zs l r.ab.length).length (ints (ah r.ab r.os r.zs l r.ab.length)),.int .i64 0]:=by
 have hn:¬(bo r.os.length l≠0):=λh=>h h1
 unfold chP chS;rw[ar hn,ar h2,ar (λh=>h rfl)]
theorem r4(ab:List Car)(os:List Ord)(wt:List (List Int))(zs:List Par)(l:List Int):mM Tz.prog Tryz.f10 (Tryz.f10.body.getD .skip) [.agg [.sl ab.length (aS ab),.sl os.length (aR os),.sl wt.length (a8 wt),.sl zs.length (aT zs)],.sl l.length (ints l)] (.bool true) true:=by
 have ca:=oT;have cf:=pH ab os wt zs;refine ny (di (by kernel_rfl)) ?_;have hb:Tryz.f10.body=some _:=rfl;rw[hb];clear hb;simp only[gk,Tryz.ntmps10,Tryz.results10]
 cases hw:jK ab os wt zs with
 |false=>
  rw[hw] at cf;clear hw
  repeat' first|(with_reducible first|apply ai|apply au|apply az|apply af|apply al|refine And.intro ?_ ?_|refine cw (ca) ?_|refine cw (cf) ?_|intro _)|(simp[*])|(refine ae (ca) ?_ ?_;(· (simp[*];done)))|(refine ae (cf) ?_ ?_;(· (simp[*];done)))
  all_goals first|omega|exact dz (by decide)
 |true=>
  rw[hw] at cf;by_cases hl:l.length<=10
  .have i2:¬(10:Int)<l.length:=by omega
   obtain⟨⟨l1,k1⟩,⟨l2,k2⟩,l3,l4,l5,l6,l7⟩:=nD hw
   have c1:aC Tz.prog 20 [.agg [.sl ab.length (aS ab),.sl os.length (aR os),.sl wt.length (a8 wt),.sl zs.length (aT zs)]] (.int .i64 (ceR (cG ab os wt zs hw))) true:=
    lU ab os wt zs (by omega) (by omega) (by omega) (by omega) (λx hx=>by have:=l5 x hx;omega) (λx hx=>by have:=l6 x hx;omega) (λx hx=>by have:=l7 x hx;omega)
   have ci:=oR l (by omega)
   have h3:l.length<100000:=by omega
   obtain⟨r,hr⟩:∃r,r=cG ab os wt zs hw:=⟨_,rfl⟩
   have ev:Tw.aM r=.agg [.sl ab.length (aS ab),.sl os.length (aR os),.sl wt.length (a8 wt),.sl zs.length (aT zs)]:=by rw[hr];rfl
   have er:r.ab=ab/\r.os=os/\r.wt=wt/\r.zs=zs:=by rw[hr];exact⟨rfl,rfl,rfl,rfl⟩
   have cc:=nC r;rw[<-hr] at c1;rw[ev] at cc;by_cases he:ceR r=0
   .have ok:=eM r he;have lo8:r.os.length<=8:=ok.lo;have cd:=pe r l h3 he;have ch:=nV r he
    have h5:os.length<=4:=by have:=er.2.1;rw[this] at lo8;omega
    have cq:=rE ab os wt zs (by omega) h5 (by omega);have co:=od ab os wt zs l h3 (by omega)
    have cs:=λh=>kg ab os wt zs l h3 (by omega) (by omega) h
    have ec:=eF ab os zs l ab.length;rw[rk r (by rw[er.2.1];exact h5)] at ch;have p1:=sC r l;have p2:=sF r l;have p3:=sO r l;rw[he] at c1;rw[ev] at cd ch;obtain⟨rfl,rfl,rfl,rfl⟩:=er;have ci2:=oQ (ah r.ab r.os r.zs l r.ab.length) (ah r.ab r.os r.zs l r.ab.length) (by omega);rw[nB,decide_eq_true rfl] at ci2
    have hin:=λh=>km (no:=r.os.length) (l:=l) h
    generalize chP r l=P at *;generalize ah r.ab r.os r.zs l r.ab.length=C at *;generalize bo r.os.length l=E at *
    have hq:(∃H:List Int,cn r.ab r.os r.zs=some H/\H.length<100000)\/cn r.ab r.os r.zs=none:=by
     cases hh:cn r.ab r.os r.zs with
     |none=>exact .inr rfl
     |some H=>
      refine .inl ⟨H,rfl,?_⟩;unfold cn at hh;obtain⟨s,hs,hh⟩:=SO hh;have hm:=SP hh
      have hs:s<5:=by rw[Dk] at hs;omega
      have:=(eG (m:=r.os.length) (by omega) hs hm).1;omega
    generalize cn r.ab r.os r.zs=HR at *;clear l1 l2 l3 l4 l5 l6 l7 k1 k2 hr hw ok lo8 h5 ev he hl h3 ec;by_cases hE:E=0
    .have cs:=cs (hin hE);subst hE;clear hin p1;have p2:=p2 rfl;have p3:=p3 rfl;by_cases hle:(l.length:Int)<=(C.length:Int)
     .obtain rfl:=p2 hle;clear p2 p3
      rcases hq with ⟨H,rfl,hH⟩|rfl
      .have ci3:=oQ H H hH;rw[nB,decide_eq_true rfl] at ci3;unfold cr at ch;unfold cC at cq;dsimp only at ch cq
       repeat' first|(with_reducible first|apply ai|apply au|apply az|apply af|apply al|refine And.intro ?_ ?_|refine cw (ca) ?_|refine cw (cf) ?_|refine cw (cc) ?_|refine cw (ci) ?_|refine cw (c1) ?_|refine cw (cd) ?_|refine cw (ch) ?_|refine cw (cq) ?_|refine cw (co) ?_|refine cw (cs) ?_|refine cw (ci3) ?_|intro _)|(simp[*,i2,hle])|(refine ae (ca) ?_ ?_;(· (simp[*];done)))|(refine ae (cf) ?_ ?_;(· (simp[*];done)))|(refine ae (cc) ?_ ?_;(· (simp[*];done)))|(refine ae (ci) ?_ ?_;(· (simp[*];done)))|(refine ae (c1) ?_ ?_;(· (simp[*];done)))|(refine ae (cd) ?_ ?_;(· (simp[*];done)))|(refine ae (ch) ?_ ?_;(· (simp[*];done)))|(refine ae (cq) ?_ ?_;(· (simp[*];done)))|(refine ae (co) ?_ ?_;(· (simp[*];done)))|(refine ae (cs) ?_ ?_;(· (simp[*];done)))|(refine ae (ci3) ?_ ?_;(· (simp[*];done)))
       all_goals first|omega|exact dz (by decide)
      .unfold cr at ch;unfold cC at cq;dsimp only at ch cq
       repeat' first|(with_reducible first|apply ai|apply au|apply az|apply af|apply al|refine And.intro ?_ ?_|refine cw (ca) ?_|refine cw (cf) ?_|refine cw (cc) ?_|refine cw (ci) ?_|refine cw (c1) ?_|refine cw (cd) ?_|refine cw (ch) ?_|refine cw (cq) ?_|refine cw (co) ?_|refine cw (cs) ?_|intro _)|(simp[*,i2,hle])|(refine ae (ca) ?_ ?_;(· (simp[*];done)))|(refine ae (cf) ?_ ?_;(· (simp[*];done)))|(refine ae (cc) ?_ ?_;(· (simp[*];done)))|(refine ae (ci) ?_ ?_;(· (simp[*];done)))|(refine ae (c1) ?_ ?_;(· (simp[*];done)))|(refine ae (cd) ?_ ?_;(· (simp[*];done)))|(refine ae (ch) ?_ ?_;(· (simp[*];done)))|(refine ae (cq) ?_ ?_;(· (simp[*];done)))|(refine ae (co) ?_ ?_;(· (simp[*];done)))|(refine ae (cs) ?_ ?_;(· (simp[*];done)))
       all_goals first|omega|exact dz (by decide)
     .obtain rfl:=p3 hle;clear p2 p3
      rcases hq with ⟨H,rfl,hH⟩|rfl
      .have ci3:=oQ H H hH;rw[nB,decide_eq_true rfl] at ci3;unfold cr at ch;unfold cC at cq;dsimp only at ch cq
       repeat' first|(with_reducible first|apply ai|apply au|apply az|apply af|apply al|refine And.intro ?_ ?_|refine cw (ca) ?_|refine cw (cf) ?_|refine cw (cc) ?_|refine cw (ci) ?_|refine cw (c1) ?_|refine cw (cd) ?_|refine cw (ch) ?_|refine cw (cq) ?_|refine cw (co) ?_|refine cw (cs) ?_|refine cw (ci2) ?_|refine cw (ci3) ?_|intro _)|(simp[*,i2,hle])|(refine ae (ca) ?_ ?_;(· (simp[*];done)))|(refine ae (cf) ?_ ?_;(· (simp[*];done)))|(refine ae (cc) ?_ ?_;(· (simp[*];done)))|(refine ae (ci) ?_ ?_;(· (simp[*];done)))|(refine ae (c1) ?_ ?_;(· (simp[*];done)))|(refine ae (cd) ?_ ?_;(· (simp[*];done)))|(refine ae (ch) ?_ ?_;(· (simp[*];done)))|(refine ae (cq) ?_ ?_;(· (simp[*];done)))|(refine ae (co) ?_ ?_;(· (simp[*];done)))|(refine ae (cs) ?_ ?_;(· (simp[*];done)))|(refine ae (ci2) ?_ ?_;(· (simp[*];done)))|(refine ae (ci3) ?_ ?_;(· (simp[*];done)))
       all_goals first|omega|exact dz (by decide)
      .unfold cr at ch;unfold cC at cq;dsimp only at ch cq
       repeat' first|(with_reducible first|apply ai|apply au|apply az|apply af|apply al|refine And.intro ?_ ?_|refine cw (ca) ?_|refine cw (cf) ?_|refine cw (cc) ?_|refine cw (ci) ?_|refine cw (c1) ?_|refine cw (cd) ?_|refine cw (ch) ?_|refine cw (cq) ?_|refine cw (co) ?_|refine cw (cs) ?_|refine cw (ci2) ?_|intro _)|(simp[*,i2,hle])|(refine ae (ca) ?_ ?_;(· (simp[*];done)))|(refine ae (cf) ?_ ?_;(· (simp[*];done)))|(refine ae (cc) ?_ ?_;(· (simp[*];done)))|(refine ae (ci) ?_ ?_;(· (simp[*];done)))|(refine ae (c1) ?_ ?_;(· (simp[*];done)))|(refine ae (cd) ?_ ?_;(· (simp[*];done)))|(refine ae (ch) ?_ ?_;(· (simp[*];done)))|(refine ae (cq) ?_ ?_;(· (simp[*];done)))|(refine ae (co) ?_ ?_;(· (simp[*];done)))|(refine ae (cs) ?_ ?_;(· (simp[*];done)))|(refine ae (ci2) ?_ ?_;(· (simp[*];done)))
       all_goals first|omega|exact dz (by decide)
    .obtain rfl:=p1 hE;clear cs hin p1 p2 p3
     rcases hq with ⟨H,rfl,hH⟩|rfl
     .have ci3:=oQ H H hH;rw[nB,decide_eq_true rfl] at ci3;unfold cr at ch;unfold cC at cq;dsimp only at ch cq
      repeat' first|(with_reducible first|apply ai|apply au|apply az|apply af|apply al|refine And.intro ?_ ?_|refine cw (ca) ?_|refine cw (cf) ?_|refine cw (cc) ?_|refine cw (ci) ?_|refine cw (c1) ?_|refine cw (cd) ?_|refine cw (ch) ?_|refine cw (cq) ?_|refine cw (co) ?_|refine cw (ci3) ?_|intro _)|(simp[*,i2,hE])|(refine ae (ca) ?_ ?_;(· (simp[*];done)))|(refine ae (cf) ?_ ?_;(· (simp[*];done)))|(refine ae (cc) ?_ ?_;(· (simp[*];done)))|(refine ae (ci) ?_ ?_;(· (simp[*];done)))|(refine ae (c1) ?_ ?_;(· (simp[*];done)))|(refine ae (cd) ?_ ?_;(· (simp[*];done)))|(refine ae (ch) ?_ ?_;(· (simp[*];done)))|(refine ae (cq) ?_ ?_;(· (simp[*];done)))|(refine ae (co) ?_ ?_;(· (simp[*];done)))|(refine ae (ci3) ?_ ?_;(· (simp[*];done)))
      all_goals first|omega|exact dz (by decide)
     .unfold cr at ch;unfold cC at cq;dsimp only at ch cq
      repeat' first|(with_reducible first|apply ai|apply au|apply az|apply af|apply al|refine And.intro ?_ ?_|refine cw (ca) ?_|refine cw (cf) ?_|refine cw (cc) ?_|refine cw (ci) ?_|refine cw (c1) ?_|refine cw (cd) ?_|refine cw (ch) ?_|refine cw (cq) ?_|refine cw (co) ?_|intro _)|(simp[*,i2,hE])|(refine ae (ca) ?_ ?_;(· (simp[*];done)))|(refine ae (cf) ?_ ?_;(· (simp[*];done)))|(refine ae (cc) ?_ ?_;(· (simp[*];done)))|(refine ae (ci) ?_ ?_;(· (simp[*];done)))|(refine ae (c1) ?_ ?_;(· (simp[*];done)))|(refine ae (cd) ?_ ?_;(· (simp[*];done)))|(refine ae (ch) ?_ ?_;(· (simp[*];done)))|(refine ae (cq) ?_ ?_;(· (simp[*];done)))|(refine ae (co) ?_ ?_;(· (simp[*];done)))
      all_goals first|omega|exact dz (by decide)
   .have cd:=ot r l he;have ch:=rL r he;rw[ev] at cd ch;generalize ceR r=e at *;clear l1 l2 l3 l4 l5 l6 l7 k1 k2 hr hw ev er hl h3
    repeat' first|(with_reducible first|apply ai|apply au|apply az|apply af|apply al|refine And.intro ?_ ?_|refine cw (ca) ?_|refine cw (cf) ?_|refine cw (cc) ?_|refine cw (ci) ?_|refine cw (c1) ?_|refine cw (cd) ?_|refine cw (ch) ?_|intro _)|(simp[*,i2,he])|(refine ae (ca) ?_ ?_;(· (simp[*];done)))|(refine ae (cf) ?_ ?_;(· (simp[*];done)))|(refine ae (cc) ?_ ?_;(· (simp[*];done)))|(refine ae (ci) ?_ ?_;(· (simp[*];done)))|(refine ae (c1) ?_ ?_;(· (simp[*];done)))|(refine ae (cd) ?_ ?_;(· (simp[*];done)))|(refine ae (ch) ?_ ?_;(· (simp[*];done)))
    all_goals first|omega|exact dz (by decide)
  .have i2:(10:Int)<l.length:=by omega
   clear hw hl
   repeat' first|(with_reducible first|apply ai|apply au|apply az|apply af|apply al|refine And.intro ?_ ?_|refine cw (ca) ?_|refine cw (cf) ?_|intro _)|(simp[*,i2])|(refine ae (ca) ?_ ?_;(· (simp[*];done)))|(refine ae (cf) ?_ ?_;(· (simp[*];done)))
   all_goals first|omega|exact dz (by decide)
end Go.Proofs.YthpkmilhiganjaaGreat
