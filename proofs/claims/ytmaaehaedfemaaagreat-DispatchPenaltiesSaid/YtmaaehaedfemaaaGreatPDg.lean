/- Lemmas. -/
import Derived.Test.YtmaaehaedfemaaaGreatPDf
import Derived.Test.YtmaaehaedfemaaaGreatPDe
import Derived.Test.YtmaaehaedfemaaaGreatPDd
import Derived.Test.YtmaaehaedfemaaaGreatPDc
import Derived.Test.YtmaaehaedfemaaaGreatPDb
import Derived.KernelRfl
import Derived.Test.YtmaaehaedfemaaaGreatRows
import Derived.Conc.LeavingOf
import Derived.Test.YtmaaehaedfemaaaGreatPMc
import Derived.ProofKit
set_option linter.unusedSimpArgs false
set_option linter.unusedVariables false
set_option linter.unusedSectionVars false
set_option maxHeartbeats 32000000
set_option maxRecDepth 100000
namespace Go.Proofs.YtmaaehaedfemaaaGreat
open Go Go.Fi
noncomputable instance Yn:ak:=LD
def nK(x:Rd)(s:Nat)(l:List Int):Bool:=decide ((nJ x l).length<s)
def zD(x:Rd):Option (List Int):=(List.range' 0 (x.os.length+1-0)).findSome? fun s=>fX (nK x s) x.os.length s 0 []
def uz:Option (List Int)→PV
 |none=>.tup [.sl 0 [],.int .i64 12]
 |some l=>.tup [.sl l.length (ints l),.int .i64 0]
theorem LN(r:Tw.RND)(h:ceR r=0):aF Tz.prog 14 [Tw.bM r] (uz (zD (aA r))) false:=by
 have ok:=nE r h;have c1:=kB r;rw[od r h] at c1;generalize hx:aA r=x at *;clear hx h
 have cc:=fun l h1 h2=>Lg x ok l h1 h2
 have cl:=fun l h1=>Li l h1
 have ch:=Lq;have lo:=ok.lo;generalize hR:zD x=R;have kR:aR ((List.range' 0 (x.os.length+1-0)).findSome? (fun s=>fX (nK x s) x.os.length s 0 [])=R):=hR;have kk:=keep (And.intro cc (And.intro cl (And.intro ch kR)));clear cc cl ch hR kR ok;unfold Tw.bM at *;unfold Rd.pv at c1;generalize r.dK=q1 at *;generalize r.osP=q2 at *;generalize r.eF=q3 at *;generalize r.zsP=q4 at *;refine xK Tz.func14 (by kernel_rfl) rfl (Nat.le_of_ble_eq_true (by kernel_rfl)) ?_;simp only[Tryz.results14,Tryz.ntmps14];refine bB (bw ?_)
 repeat' (first|(with_reducible first|refine af ?_|intro _)|(simp[*]))
 refine bB (bw ?_)
 repeat' (first|(with_reducible first|refine af ?_|refine And.intro ?_ ?_|refine cw (c1) ?_|intro _)|(simp[*])|(refine az (c1) ?_ ?_;(· (simp[*];done))))
 refine bB (bB (bw ?_))
 repeat' (first|(with_reducible first|refine af ?_|intro _)|(simp[*]))
 refine lE (o:=false) (f:=false) (b:=false) rfl ?_;simp only[cond_false];refine bw ?_
 repeat' (first|(with_reducible first|refine aB ?_|intro _)|(simp[*]))
 refine bB (bB (bw ?_));have hni:inI .i64 ((x.os.length:Int)+1):=aH (by omega) (by omega)
 repeat' (first|(with_reducible first|refine af ?_|intro _)|(simp[*,hni]))
 clear c1 hni;refine mT (DS (fun s:Nat=>s≤x.os.length+1∧aR ((List.range' s (x.os.length+1-s)).findSome? (fun s=>fX (nK x s) x.os.length s 0 [])=R)) (fun s=>⟨[(23,.w false false (.int .i64 s)),(22,.w false false (.int .i64 ((x.os.length:Int)+1))),(2,.ptr 1 1 0),(3,.ptr 2 1 0),(4,.ptr 3 1 0)],[(3,[.w false false x.pv]),(2,[.w false false (.int .i64 0)]),(1,[.w false false (.sl 0 [])])],4,44⟩) (fun s=>x.os.length+1-s) 0 ?_ ?_ (fun s hs=>?_))
 ·exact⟨Nat.zero_le _,kk.2.2.2⟩
 ·clear kk;unfold Rd.pv
  refine aN [] ?_ ?_<;>first|trivial|(simp;done)
 obtain⟨h1,h2⟩:=hs;refine bB (bw ?_);by_cases hlt:s<x.os.length+1
 ·have hltI:(s:Int)<(x.os.length:Int)+1:=by omega
  repeat' (first|(with_reducible first|refine af ?_|intro _)|(simp[*,hltI]))
  refine bB (lE (o:=false) (f:=false) (b:=true) rfl ?_);simp only[cond_true];refine bw ?_
  repeat' (first|(with_reducible first|refine aB ?_|intro _)|(simp[*]))
  refine bB (mT (bB (bw ?_)))
  repeat' (first|(with_reducible first|refine af ?_|intro _)|(simp[*]))
  refine bB (bw ?_);have c3:=kk.2.2.1 x.os.length s;unfold Rd.pv
  repeat' (first|(with_reducible first|refine bF (id:=7) 8 mixed (by decide +kernel) ?_|refine And.intro ?_ ?_|refine cw (c3) ?_|intro _)|(simp[*])|(refine az (c3) ?_ ?_;(· (simp[*];done))))
  clear c3;refine mT (xJ (st':=⟨[(33,.w false false (.fn 50 [.ip [.int .i64 s] 0,.ip [.int .i64 x.os.length] 0])),(23,.w false false (.int .i64 s)),(22,.w false false (.int .i64 ((x.os.length:Int)+1))),(2,.ptr 1 1 0),(3,.ptr 2 1 0),(4,.ptr 3 1 0),(6,.ptr 4 1 0)],[(4,[.w false false (.int .i64 s)]),(3,[.w false false x.pv]),(2,[.w false false (.int .i64 0)]),(1,[.w false false (.sl 0 [])])],5,44⟩) ?_ (Db (gf:=50) (ar:=[.w false false (.ip [.int .i64 s] 0),.w false false (.ip [.int .i64 x.os.length] 0)]) rfl Tz.func50 (by kernel_rfl) rfl (Nat.le_of_ble_eq_true (by kernel_rfl)) (fun lp=>?_)))
  ·clear kk;unfold Rd.pv
   refine aN [] ?_ ?_<;>first|trivial|(simp;done)
  simp only[Tryz.results50,Tryz.ntmps50];refine eZ (dY ?_);unfold Rd.pv
  repeat' (first|(with_reducible first|refine af ?_|intro _)|(simp[*]))
  refine eZ (dY ?_)
  repeat' (first|(with_reducible first|refine af ?_|intro _)|(simp[*]))
  refine eZ (dY ?_)
  repeat' (first|(with_reducible first|refine af ?_|intro _)|(simp[*]))
  refine Ln (id:=3) 1 51 Tz.func51 (by kernel_rfl) (show Tryz.f51.body=some (Tryz.f51.body.getD .skip) from rfl) (by decide) rfl ?_
  repeat' (first|(with_reducible first|intro _)|(simp[*]))
  refine DR (dD s x.os.length) rfl (Nat.le_of_ble_eq_true (by kernel_rfl)) (by simp) rfl ?_;refine DN (st':=⟨bP 0 ([.w false false (.int .i64 (0:Nat)),.w false false (.sl ([]:List Int).length (ints []))]++dD s x.os.length),chH x lp s x.os.length (.sl 0 []) (.int .i64 0),7,Tryz.f51.ntmps⟩) ?_ (DT x (nK x s) x.os.length s (by omega) (by omega) (.sl 0 []) (.int .i64 0) _ ?_ s 0 [] false false 7 _ _ (Nat.le_refl _) (by simp) (Nat.zero_le _) (by simp) (fun e=>?_) (fun q e m2 hm2=>?_))
  ·clear kk;unfold chH dD Rd.pv
   refine aN [] ?_ ?_<;>first|trivial|(simp[ints];done)
  ·intro l o f m K Kl hm hl hr hK hKl;have c3:=kk.1 l (by omega) hr;have c4:=kk.2.1 l (by omega);clear kk h2;unfold nK at hK hKl
   have m0:0<m:=by omega
   have m1:1<m:=by omega
   have m2:2<m:=by omega
   have m3:3<m:=by omega
   have m4:4<m:=by omega
   have m5:5<m:=by omega
   have m6:6<m:=by omega
   refine⟨rfl,by simp,?_⟩;by_cases hb:(nJ x l).length<s
   ·have hbI:((nJ x l).length:Int)<(s:Int):=by omega
    have kK:=keep (hKl (by simp[hb]));clear hK hKl;unfold Rd.pv at c3;unfold chH dD Rd.pv
    repeat' (first|(with_reducible first|refine aj ?_|refine aL ?_|refine aD ?_|refine af ?_|refine bF (id:=9) 6 mixed (by decide +kernel) ?_|refine al ?_|refine And.intro ?_ ?_|intro _)|(simp[*,hbI])|(refine az (c3) ?_ ?_;(· (simp[*];done)))|(refine az (c4) ?_ ?_;(· (simp[*];done))))
    refine Kb _ _ 44 ?_ kK
    ·unfold chH dD Rd.pv
     refine aN [] ?_ ?_<;>first|trivial|(simp[m0,m1,m2,m3,m4,m5,m6];done)|(simp[m0,m1,m2,m3,m4,m5,m6];omega)
   ·have hbI:¬((nJ x l).length:Int)<(s:Int):=by omega
    have kK:=keep (hK (by simp[hb]));clear hK hKl;unfold Rd.pv at c3;unfold chH dD Rd.pv
    repeat' (first|(with_reducible first|refine aj ?_|refine aL ?_|refine aB ?_|refine af ?_|refine bF (id:=9) 6 mixed (by decide +kernel) ?_|refine al ?_|refine And.intro ?_ ?_|intro _)|(simp[*,hbI])|(refine az (c3) ?_ ?_;(· (simp[*];done))))
    refine Ka _ _ 44 ?_ kK
    ·unfold chH dD Rd.pv
     refine aN [] ?_ ?_<;>first|trivial|(simp[m0,m1,m2,m3,m4,m5,m6];done)|(simp[m0,m1,m2,m3,m4,m5,m6];omega)
  ·have hj:=keep ((xZ (fun s=>fX (nK x s) x.os.length s 0 []) (x.os.length+1) s hlt).symm.trans h2);have hi1:inI .i64 ((s:Int)+1):=aH (by omega) (by omega);rw[e] at hj;clear kk h2;unfold chH dD Rd.pv
   repeat' (first|(with_reducible first|intro _)|(simp[*]))
   simp[cj,dB,fj,oneOf];refine bw ?_
   repeat' (first|(with_reducible first|refine af ?_|intro _)|(simp[*,hi1]))
   refine pR _ _ _ _ _ (s+1) _ ⟨by omega,hj⟩ (by omega) ?_
   refine aN [] ?_ ?_<;>first|trivial|(simp;done)
  ·have hj:=(xZ (fun s=>fX (nK x s) x.os.length s 0 []) (x.os.length+1) s hlt).symm.trans h2;rw[e] at hj;have hj:some q=R:=hj;subst hj;clear kk h2;unfold chH dD Rd.pv uz
   repeat' (first|(with_reducible first|intro _)|(simp[*]))
   simp[cj,dB,fj,oneOf]
 ·have hltI:¬(s:Int)<(x.os.length:Int)+1:=by omega
  repeat' (first|(with_reducible first|refine af ?_|intro _)|(simp[*,hltI]))
  have hse:s=x.os.length+1:=by omega
  subst hse
  have hj:none=R:=by rw[←(show _=R from h2)];simp
  subst hj;clear kk h2;refine bB (lE (o:=false) (f:=false) (b:=false) rfl ?_);simp only[cond_false];refine bw ?_;unfold uz
  repeat' (first|(with_reducible first|refine aY ?_|intro _)|(simp[*]))
  refine bw ?_
  repeat' (first|(with_reducible first|refine aj ?_|refine aD ?_|refine af ?_|intro _)|(simp[*]))
end Go.Proofs.YtmaaehaedfemaaaGreat
namespace Go.Proofs.YtmaaehaedfemaaaGreat
open Go Go.Fi
variable[ak]
def pe(L:List Int)(j:Nat):List Int:=(L.set (j+1) (nth L j)).set j (nth L (j+1))
def mh(L:List Int):Nat→List Int
 |0=>L
 |j+1=>if nth L (j+1)<nth L j then mh (pe L j) j else L
def jG(L:List Int):Nat→List Int
 |0=>L
 |k+1=>mh (jG L k) (k+1)
def gF(L:List Int):List Int:=jG L (L.length-1)
@[simp] theorem LQ(L:List Int)(j:Nat):(pe L j).length=L.length:=by simp[pe]
theorem D9:∀(j:Nat)(L:List Int),(mh L j).length=L.length
 |0,_=>rfl
 |j+1,L=>by
  unfold mh;split
  ·rw[D9 j];simp
  ·rfl
theorem yd(L:List Int):∀k,(jG L k).length=L.length
 |0=>rfl
 |k+1=>by rw[jG,D9,yd L k]
theorem FF(a:Int):aF Tz.prog 111 [.int .i64 a] (.bool false) true:=by
 refine rcK Tz.func111 ?_;simp only[Tryz.results111,Tryz.ntmps111]
 repeat' (first|(with_reducible first|refine aj ?_|refine aD ?_|refine af ?_|intro _)|(simp[*]))
theorem LS(a b:Int):aF Tz.prog 89 [.int .i64 a,.int .i64 b] (.bool (decide (a<b))) true:=by
 have c1:=FF a;have c2:=FF b;refine rcK Tz.func89 ?_;simp only[Tryz.results89,Tryz.ntmps89]
 repeat' (first|(with_reducible first|refine aj ?_|refine aD ?_|refine af ?_|refine And.intro ?_ ?_|refine cw (c1) ?_|intro _)|(simp[*])|(refine az (c1) ?_ ?_;(· (simp[*];done)))|(refine az (c2) ?_ ?_;(· (simp[*];done))))
theorem Pl(n:Nat)(L:List Int)(hnn:L.length=n)(hn:1≤n)(hl:n≤12)(K:AV→ab→Nat→Prop)(hK:K (.tup []) [(1,iA (gF L))] 2):aM ⟨2,none⟩ Tz.prog (Tryz.f83.body.getD .skip) ⟨bP 0 [.msl 1 n 1 0 n,.w false false (.int .i64 0),.w false false (.int .i64 n)],[(1,iA L)],2,Tryz.f83.ntmps⟩ (cH Tz.prog Tryz.f83.results.toList K):=by
 have eE:gF L=jG L (n-1):=by rw[←hnn];rfl
 have eS:∀k,jG L (k+1)=mh (jG L k) (k+1):=fun _=>rfl
 have eL:∀k,(jG L k).length=n:=fun k=>(yd L k).trans hnn
 have e0:jG L 0=L:=rfl;rw[eE] at hK;generalize jG L=M at *;have kk:=keep (And.intro eS (And.intro eL hK));have i1:inI .i64 1:=aH (by omega) (by omega);clear eS eL hK eE hnn;have hb:Tryz.f83.body=some _:=rfl;rw[hb];clear hb;simp only[Option.getD_some,Tryz.ntmps83,Tryz.results83]
 repeat' (first|(with_reducible first|refine aj ?_|refine af ?_|intro _)|(simp[*,i1]))
 refine cM 2 (fun(k:Nat)=>k+1≤n) [] (fun(k:Nat)=>[(0,.msl 1 n 1 0 n),(1,.w false false (.int .i64 0)),(2,.w false false (.int .i64 n)),(6,.w false false (.int .i64 ((k:Int)+1)))]) [] (fun(k:Nat)=>[(1,iA (M k))]) (fun(k:Nat)=>n-k) (fun(_u:Unit)=>True) [] (fun(_u:Unit)=>[]) [] (fun(_u:Unit)=>[(1,iA (M (n-1)))]) (0) hn (aN [] (by simp[e0]) (by simp[e0])) (fun k hk=>?_) (fun _u hf=>?_)
 ·by_cases hlt:k+1<n
  ·obtain⟨eS,eL,hK⟩:=kk
   have hltI:(k:Int)+1<(n:Int):=by omega
   have hR:=eS k;generalize hRR:M (k+1)=R at *;have hj0:aR ((M k).length=n∧mh (M k) (k+1)=R):=⟨eL k,hR.symm⟩;have kRR:=keep hRR
   have kR:aR (R.length=n):=by rw[←hRR];exact eL (k+1)
   clear eS eL hK hR hRR;generalize M k=Mk at *
   repeat' (first|(with_reducible first|refine aj ?_|refine aL ?_|refine aB ?_|refine af ?_|refine al ?_|intro _)|(simp[*,hltI]))
   refine cM 2 (fun(y:Nat×List Int)=>y.1≤k+1∧aR (y.2.length=n∧mh y.2 y.1=R)) [] (fun(y:Nat×List Int)=>[(0,.msl 1 n 1 0 n),(1,.w false false (.int .i64 0)),(2,.w false false (.int .i64 n)),(6,.w false false (.int .i64 ((k:Int)+1))),(7,.w false false (.int .i64 y.1))]) [] (fun(y:Nat×List Int)=>[(1,iA y.2)]) (fun(y:Nat×List Int)=>y.1) (fun(_u:Unit)=>True) [] (fun(_u:Unit)=>[(0,.msl 1 n 1 0 n),(1,.w false false (.int .i64 0)),(2,.w false false (.int .i64 n)),(6,.w false false (.int .i64 ((k:Int)+1)))]) [] (fun(_u:Unit)=>[(1,iA R)]) ((k+1,Mk)) ⟨Nat.le_refl _,hj0⟩ (aN [] (by simp) (by simp)) (fun y hk=>?_) (fun _u hf=>?_)
   ·obtain⟨j,N⟩:=y;obtain⟨h1,h2⟩:=hk;dsimp only at h1 h2 ⊢
    cases j with
    |zero=>
     have hj:N=R:=h2.2;clear h2
     repeat' (first|(with_reducible first|refine aj ?_|refine aY ?_|refine bF (id:=4) 15 mixed (by decide +kernel) ?_|refine al ?_|intro _)|(simp[*]))
     all_goals first
      |(refine bl () ?_ ?_;(· trivial);(refine aG ?_ ?_<;>first|trivial|(simp[*];done)))
    |succ j=>
     have hl2:N.length=n:=h2.1;have hb:(if nth N (j+1)<nth N j then mh (pe N j) j else N)=R:=h2.2;have c1:=LS (nth N (j+1)) (nth N j)
     have hj1:j+1<n:=by omega
     have hj0:j<n:=by omega
     have hjI:(0:Int)<(j:Int)+1:=by omega
     have hz:j≤k+1:=by omega
     have eW:pe N j=(N.set (j+1) (nth N j)).set j (nth N (j+1)):=rfl;have i2:inI .i64 ((j:Int)+1):=aH (by omega) (by omega);have i3:inI .i64 (j:Int):=aH (by omega) (by omega);clear h2;by_cases hlt2:nth N (j+1)<nth N j
     ·rw[if_pos hlt2] at hb;have kb:=keep (And.intro ((LQ N j).trans hl2) hb);clear hb
      repeat' (first|(with_reducible first|refine aj ?_|refine nY ?_|refine aB ?_|refine af ?_|refine bF (id:=4) 15 mixed (by decide +kernel) ?_|refine CX (id:=6) [0,1,2,3,4,5,6,7,8,9,10,11,12,13,14] [15,16,17] [[],[],[.slot 0],[.slot 0],[.slot 0],[],[],[],[],[],[],[],[],[],[]] [[.slot 0],[],[.slot 0]] mixed (by decide +kernel) ?_|refine al ?_|refine And.intro ?_ ?_|refine cw (c1) ?_|intro _)|(simp[*,hlt2,hj1,hj0,hjI,hl2,i2,i3])|(refine az (c1) ?_ ?_;(· (simp[*];done))))
      all_goals first
       |omega
       |assumption
       |(refine nx (j,pe N j) ?_ ?_;(· exact⟨hz,kb⟩);(refine aN [] ?_ ?_<;>first|trivial|(simp[*,eW];done)))
     ·rw[if_neg hlt2] at hb;subst hb
      repeat' (first|(with_reducible first|refine aj ?_|refine aY ?_|refine bF (id:=4) 15 mixed (by decide +kernel) ?_|refine al ?_|refine And.intro ?_ ?_|refine cw (c1) ?_|intro _)|(simp[*,hlt2,hj1,hj0,hjI,hl2,i2,i3])|(refine az (c1) ?_ ?_;(· (simp[*];done))))
      all_goals first
       |omega
       |assumption
       |(refine bl () ?_ ?_;(· trivial);(refine aG ?_ ?_<;>first|trivial|(simp[*];done)))
   ·clear hj0;have i2:inI .i64 ((k:Int)+1+1):=aH (by omega) (by omega)
    repeat' (first|(with_reducible first|refine af ?_|intro _)|(simp[*,i2]))
    all_goals first
     |omega
     |assumption
     |(refine nx (k+1) ?_ ?_;(· exact hlt);(refine aN [] ?_ ?_<;>first|trivial|(simp[*,(show M (k+1)=R from kRR)];done)))
  ·have hke:k+1=n:=by omega
   have hltI:¬(k:Int)+1<(n:Int):=by omega
   have e1:n-1=k:=by omega
   clear kk
   repeat' (first|(with_reducible first|refine aj ?_|refine aY ?_|refine af ?_|refine al ?_|intro _)|(simp[*,hltI]))
   all_goals first
    |omega
    |(refine bl () ?_ ?_;(· trivial);(refine aN [] ?_ ?_<;>first|trivial|(simp[*,e1];done)))
 ·have h:=keep kk.2.2;clear kk
  repeat' (first|(with_reducible first|intro _)|(simp[*]))
  all_goals first
   |(simp[cj,dB,fj,oneOf];exact h)
def FG(n:Nat):Int:=if n=0 then 0 else Nat.log2 n+1
theorem LU(n:Nat)(h:n≤12)  (v:Int) (hv:v=FG n):aF Tz.prog 93 [.int .u64 n] (.int .i64 v) true:=by
 have h1:¬(4294967296:Int)≤(n:Int):=by omega
 have h2:¬(65536:Int)≤(n:Int):=by omega
 have h3:¬(256:Int)≤(n:Int):=by omega
 refine rcK Tz.func93 ?_;simp only[Tryz.results93,Tryz.ntmps93]
 repeat' (first|(with_reducible first|refine aj ?_|refine aB ?_|refine aD ?_|refine af ?_|refine al ?_|refine And.intro ?_ ?_|intro _)|(simp[*,h1,h2,h3]))
 all_goals clear h1 h2 h3
 all_goals try subst hv
 all_goals
  have hx:n=0∨n=1∨n=2∨n=3∨n=4∨n=5∨n=6∨n=7∨n=8∨n=9∨n=10∨n=11∨n=12:=by omega
  clear h
  rcases hx with rfl|rfl|rfl|rfl|rfl|rfl|rfl|rfl|rfl|rfl|rfl|rfl|rfl<;>first|rfl|decide|(unfold inI;decide)|(constructor<;>decide)
theorem Pm(n:Nat)(h:n≤12):aF Tz.prog 46 [.int .u64 n] (.int .i64 (FG n)) true:=by
 have c1:=LU n h _ rfl;refine rcK Tz.func46 ?_;simp only[Tryz.results46,Tryz.ntmps46]
 repeat' (first|(with_reducible first|refine aj ?_|refine aB ?_|refine aD ?_|refine af ?_|refine al ?_|refine And.intro ?_ ?_|refine cw (c1) ?_|intro _)|(simp[*])|(refine az (c1) ?_ ?_;(· (simp[*];done))))
theorem LV(n:Nat)(L:List Int)(hnn:L.length=n)(hn:1≤n)(hl:n≤12)(K:AV→ab→Nat→Prop)(hK:K (.tup []) [(1,iA (gF L))] 2):aM ⟨2,none⟩ Tz.prog (Tryz.f27.body.getD .skip) ⟨bP 0 [.msl 1 n 1 0 n],[(1,iA L)],2,Tryz.f27.ntmps⟩ (cH Tz.prog Tryz.f27.results.toList K):=by
 have c1:=Pm n hl;have ci:=Pl n L hnn hn hl;have kk:=keep (And.intro ci hK)
 have hnI:(n:Int)≤12:=by omega
 have hni:inI .i64 (n:Int):=aH (by omega) (by omega);have hnu:inI .u64 (n:Int):=⟨by show (0:Int)≤_;omega,by show _≤(18446744073709551615:Int);omega⟩;clear ci hK hnn hn;have hb:Tryz.f27.body=some _:=rfl;rw[hb];clear hb;simp only[Option.getD_some,Tryz.ntmps27,Tryz.results27]
 repeat' (first|(with_reducible first|refine tA (id:=1) 5 Tz.func45 (by kernel_rfl) rfl (by decide) rfl ?_|refine aj ?_|refine af ?_|refine And.intro ?_ ?_|refine cw (c1) ?_|intro _)|(simp[*,hnu,hni])|(refine az (c1) ?_ ?_;(· (simp[*];done))))
 refine tz (Nat.le_of_ble_eq_true (by kernel_rfl)) (by simp) rfl ?_;simp only[Tryz.ntmps45,Tryz.results45]
 repeat' (first|(with_reducible first|refine aj ?_|refine af ?_|intro _)|(simp[*]))
 refine pz (vB (fun _:Unit=>True) (fun _=>⟨[(0,.msl 1 n 1 0 n),(1,.w false false (.int .i64 0)),(2,.w false false (.int .i64 n))],[(1,iA L)],2,134⟩) (fun _=>0) () trivial (aN [] (by simp) (by simp)) (fun _ _=>?_))
 repeat' (first|(with_reducible first|refine tA (id:=4) 3 Tz.func83 (by kernel_rfl) (show Tryz.f83.body=some (Tryz.f83.body.getD .skip) from rfl) (by decide) rfl ?_|refine aj ?_|refine aL ?_|refine af ?_|refine al ?_|intro _)|(simp[*,hnI,hni]))
 refine tz (Nat.le_of_ble_eq_true (by kernel_rfl)) (by simp) rfl ?_;refine kk.1 _ ?_;have h:=keep kk.2;clear kk c1
 repeat' (first|(with_reducible first|refine aD ?_|intro _)|(simp[*]))
 all_goals simp[cj,dB,fj,oneOf]
 all_goals exact h
def zE(L:List Int):Prop:=∀k,k+1<L.length→nth L (k+1)≠nth L k
theorem LX(L:List Int)(hl:L.length<100000)(hd:zE L):aF Tz.prog 29 [.sl L.length (ints L)] (.sl L.length (ints L)) false:=by
 by_cases h2:L.length<2
 ·have h2I:(L.length:Int)<2:=by omega
  clear hd;refine rcK Tz.func29 ?_;simp only[Tryz.results29,Tryz.ntmps29]
  repeat' (first|(with_reducible first|refine aj ?_|refine aD ?_|refine af ?_|refine al ?_|intro _)|(simp[*,h2I]))
 ·have h2I:¬(L.length:Int)<2:=by omega
  have kd:=keep hd;clear hd;refine rcK Tz.func29 ?_;simp only[Tryz.results29,Tryz.ntmps29]
  repeat' (first|(with_reducible first|refine aj ?_|refine aB ?_|refine af ?_|refine al ?_|intro _)|(simp[*,h2I]))
  refine du (fun(k:Nat)=>k+1≤L.length) [] (fun(k:Nat)=>[(0,.w false false (.sl L.length (ints L))),(3,.w false false (.int .i64 ((k:Int)+1)))]) [] (fun(k:Nat)=>[]) (fun(k:Nat)=>L.length-k) (fun(_u:Unit)=>True) [0] (fun(_u:Unit)=>[]) [] (fun(_u:Unit)=>[]) (0) (by omega) (by simp) (by simp) (fun k hk=>?_) (fun _u hf=>?_)
  ·by_cases hlt:k+1<L.length
   ·have hd:∀k,k+1<L.length→nth L (k+1)≠nth L k:=kd;have hne:=hd k hlt
    have hltI:(k:Int)+1<(L.length:Int):=by omega
    have hk0:k<L.length:=by omega
    have hi1:inI .i64 ((k:Int)+1+1):=aH (by omega) (by omega);have hi2:inI .i64 (k:Int):=aH (by omega) (by omega)
    have hi3:(0:Int)≤(k:Int)+1:=by omega
    clear hd kd
    repeat' (first|(with_reducible first|refine aj ?_|refine aL ?_|refine aB ?_|refine af ?_|refine bF (id:=6) 10 mixed (by decide +kernel) ?_|refine al ?_|intro _)|(simp[*,hltI,hlt,hk0,hne,hi1,hi2,hi3]))
    all_goals first
     |omega
     |assumption
     |(refine nx (k+1) ?_ ?_;(· exact hlt);(refine aN [] ?_ ?_<;>first|trivial|(simp[*];done)))
   ·have hltI:¬(k:Int)+1<(L.length:Int):=by omega
    clear kd
    repeat' (first|(with_reducible first|refine aj ?_|refine aY ?_|refine af ?_|refine al ?_|intro _)|(simp[*,hltI]))
    all_goals first
     |omega
     |(refine bl () ?_ ?_;(· trivial);(refine aG ?_ ?_<;>first|trivial|(simp[*];done)))
  ·clear kd
   repeat' (first|(with_reducible first|refine aj ?_|refine aD ?_|refine af ?_|intro _)|(simp[*]))
end Go.Proofs.YtmaaehaedfemaaaGreat
namespace Go.Proofs.YtmaaehaedfemaaaGreat
open Go Go.Fi
noncomputable instance Yw:ak:=LD
def jJ(x:Rd):Nat→List Int
 |0=>[0]
 |k+1=>jJ x k++nth x.wt k
def eQ(x:Rd):List Int:=jJ x x.os.length
def kQ(x:Rd)(plan:List Int):Nat→Int
 |0=>0
 |k+1=>if nth plan k=-1 then kQ x plan k else if kQ x plan k<nth (nth x.wt k) (nth plan k).toNat then nth (nth x.wt k) (nth plan k).toNat else kQ x plan k
def zK(x:Rd)(plan:List Int):Int:=kQ x plan plan.length
def kU(x:Rd)(most:Int):List Int→Int×List Int
 |[]=>(0,List.replicate x.os.length (-1))
 |w::l=>if (dM x w).2=most then (zK x (dM x w).1,(dM x w).1) else kU x most l
def pf(x:Rd):Int×List Int:=kU x (dM x 100000).2 (gF (eQ x))
theorem Mh(x:Rd)(w:Int):o7 x (dM x w).1:=by
 have h:=(xV x w x.os.length (Nat.le_refl _)).1;refine⟨iE _ _ _,fun k hk=>?_⟩
 have hk':k<x.os.length:=by rw[←iE (cD x w x.os.length).1 x.os.length x.ae.length];exact hk
 rcases yn (cD x w x.os.length).1 x.os.length x.ae.length (fun k hk=>by have:=h.rg k hk;dsimp only at this;rcases this with h|h<;>omega) k with h|h|h
 ·exact .inl h
 ·exact .inr h
 ·omega
theorem Eh(x:Rd)(ok:eJ x):∀k,k≤x.os.length→(jJ x k).length=1+k*x.ae.length
 |0,_=>by simp[jJ]
 |k+1,h=>by
  rw[jJ,List.length_append,Eh x ok k (by omega),ok.wr k (by omega),Nat.succ_mul];omega
theorem Ei(x:Rd)(ok:eJ x)(plan:List Int)(hp:o7 x plan):∀k,k≤plan.length→0≤kQ x plan k∧kQ x plan k≤100000
 |0,_=>by simp[kQ]
 |k+1,h=>by
  have ih:=Ei x ok plan hp k (by omega);unfold kQ;split
  ·exact ih
  ·have:=hp.at_ k (by omega);have hl:=hp.len;have hw:=ok.wn k (by omega) (nth plan k).toNat (by omega)
   split<;>omega
theorem Mi(x:Rd)(most:Int)(l:List Int)(k:Nat)(h:k<l.length):kU x most (l.drop k)=if (dM x (nth l k)).2=most then (zK x (dM x (nth l k)).1,(dM x (nth l k)).1) else kU x most (l.drop (k+1)):=by
 rw[dG l k h];rfl
theorem Mj(l:List Int):bJ (iA l)=true:=xY l
theorem Ml(r:Tw.RND)(h:ceR r=0)(h12:(eQ (aA r)).length≤12)(hd:zE (gF (eQ (aA r)))):aF Tz.prog 12 [Tw.bM r] (.tup [.int .i64 (pf (aA r)).1,.sl (aA r).os.length (ints (pf (aA r)).2),.int .i64 0]) false:=by
 have ok:=nE r h;have c1:=kB r;rw[od r h] at c1;generalize hx:aA r=x at *;clear hx h
 have cm:=fun w=>La x ok w
 have hin:=Mh x
 have hbd:=fun w=>Ei x ok _ (hin w)
 have hWl:=Eh x ok
 have hWs:∀k,jJ x (k+1)=jJ x k++nth x.wt k:=fun _=>rfl
 have hW0:jJ x 0=[0]:=rfl;have hsl:(gF (eQ x)).length=(eQ x).length:=yd _ _;have cc:=LX (gF (eQ x)) (by omega) hd
 have hso:=fun K=>LV (eQ x).length (eQ x) rfl (by unfold eQ;rw[hWl _ (Nat.le_refl _)];omega) h12 K
 have hdr:=Mi x (dM x 100000).2 (gF (eQ x));have hnil:kU x (dM x 100000).2 []=(0,List.replicate x.os.length (-1)):=rfl;have eL:pf x=kU x (dM x 100000).2 (gF (eQ x)):=rfl
 have cs:=fun w=>Dn x (dM x w).1
 have r1:=mU (-1) x.os.length (by have:=ok.lo;omega);generalize hR:pf x=R at *;have kR:aR (kU x (dM x 100000).2 ((gF (eQ x)).drop 0)=R):=eL.symm;have hWW:eQ x=jJ x x.os.length:=rfl;generalize eQ x=W at *;generalize gF W=V at *;obtain⟨R1,R2⟩:=R;dsimp only;have lo:=ok.lo;have lc:=ok.lc;have lw:=ok.lw;have wr:=ok.wr;have kk:=keep (And.intro cm (And.intro hin (And.intro hbd (And.intro hdr (And.intro hnil (And.intro cs ok))))));have kso:=keep hso;rw[←lw] at hWl wr hWW
 have lo2:x.wt.length≤8:=by omega
 have klw:=keep lw;have kW:=keep (And.intro hWl (And.intro hWs wr));have kWW:=keep (And.intro hWW (And.intro hsl h12));clear cm hin hbd hdr hnil cs ok eL hso hWl hWs wr hWW hsl hR hd lw;unfold Tw.bM at *;generalize r.dK=q1 at *;generalize r.osP=q2 at *;generalize r.eF=q3 at *;generalize r.zsP=q4 at *;unfold Rd.pv at c1;refine xK Tz.func12 (by kernel_rfl) rfl (Nat.le_of_ble_eq_true (by kernel_rfl)) ?_;simp only[Tryz.results12,Tryz.ntmps12];refine bB (bw ?_)
 repeat' (first|(with_reducible first|refine af ?_|intro _)|(simp[*]))
 refine bB (bw ?_)
 repeat' (first|(with_reducible first|refine af ?_|refine And.intro ?_ ?_|refine cw (c1) ?_|intro _)|(simp[*])|(refine az (c1) ?_ ?_;(· (simp[*];done))))
 refine bB (bB (bw ?_))
 repeat' (first|(with_reducible first|refine af ?_|intro _)|(simp[*]))
 refine lE (o:=false) (f:=false) (b:=false) rfl ?_;simp only[cond_false];refine bw ?_
 repeat' (first|(with_reducible first|refine aB ?_|intro _)|(simp[*]))
 refine bB (bw ?_)
 repeat' (first|(with_reducible first|refine af ?_|intro _)|(simp[*]))
 refine bB (bB (bw ?_))
 repeat' (first|(with_reducible first|refine af ?_|intro _)|(simp[*]))
 refine bw ?_;clear c1;generalize jJ x=WK at *
 have e1:(WK 0).length=1:=by rw[hW0];rfl
 have e2:iA (WK 0)=[.w false false (.int .i64 0)]:=by rw[hW0];rfl
 refine cM 2 (fun(k:Nat)=>k≤x.wt.length) [5,32,33] (fun(k:Nat)=>[(7,.msl 1 (WK k).length 1 0 (WK k).length),(34,.w false false (.int .i64 k))]) [] (fun(k:Nat)=>[(1,iA (WK k))]) (fun(k:Nat)=>x.wt.length-k) (fun(_u:Unit)=>True) [5] (fun(_u:Unit)=>[(7,.msl 1 (WK x.wt.length).length 1 0 (WK x.wt.length).length)]) [] (fun(_u:Unit)=>[(1,iA (WK x.wt.length))]) (0) (Nat.zero_le _) (aN [] (by simp[e1,e2]) (by simp[e1,e2])) (fun k hk=>?_) (fun _u hf=>?_)
 ·clear e1 e2 kso kWW kk kR hW0 r1 cc;obtain⟨hWl,hWs,wr⟩:=kW;by_cases hlt:k<x.wt.length
  ·have hs:=hWs k;have hl1:=hWl k (by omega);have hl2:=wr k hlt;have hkc:k*x.ae.length≤8*8:=Nat.mul_le_mul (by omega) lc
   have hb1:(WK k).length≤100:=by omega
   have e3:iA (WK (k+1))=iA (WK k)++iA (nth x.wt k):=by rw[hs,←qe]
   have e4:(WK (k+1)).length=(WK k).length+(nth x.wt k).length:=by rw[hs,List.length_append]
   have e5:∀l:List Int,(ints l).map (AV.w false false)=iA l:=fun _=>rfl
   have hi1:inI .i64 ((k:Int)+1):=aH (by omega) (by omega)
   have hb2:(WK k).length+(nth x.wt k).length≤1000000000:=by omega
   have hz:k+1≤x.wt.length:=by omega
   clear hWl hWs wr hs hl1 hl2 hkc hb1;have e6:=Mj (nth x.wt k)
   repeat' (first|(with_reducible first|refine aj ?_|refine aL ?_|refine aB ?_|refine af ?_|refine al ?_|intro _)|(simp[*,hlt,e5,hi1,e6]))
   all_goals first
    |omega
    |assumption
    |(refine nx (k+1) ?_ ?_;(· exact hz);(refine aN [] ?_ ?_<;>first|trivial|(simp[*,e3,e4];done)))
  ·have hke:k=x.wt.length:=by omega
   subst hke;clear hWl hWs wr
   repeat' (first|(with_reducible first|refine aj ?_|refine aY ?_|refine af ?_|refine al ?_|intro _)|(simp[*,hlt]))
   all_goals first
    |omega
    |(refine bl () ?_ ?_;(· trivial);(refine aG ?_ ?_<;>first|trivial|(simp[*];done)))
 ·clear e1 e2 hW0;have hWW:W=WK x.wt.length:=kWW.1;rw[←hWW];clear hWW kW;have hVW:=kWW.2.1;rw[←hVW] at kso ⊢;clear hVW;refine bB (bw ?_)
  repeat' (first|(with_reducible first|refine tA (id:=10) 1 Tz.func27 (by kernel_rfl) (show Tryz.f27.body=some (Tryz.f27.body.getD .skip) from rfl) (by decide) rfl ?_|intro _)|(simp[*]))
  refine tz (Nat.le_of_ble_eq_true (by kernel_rfl)) (by simp) rfl ?_;refine kso _ ?_
  have hV12:V.length≤12:=by have:=kWW.2.1;have:=kWW.2.2;omega
  clear kso kWW;have c2:=kk.1 100000;unfold Rd.pv at c2;generalize hmost:(dM x 100000).2=most at *
  repeat' (first|(with_reducible first|intro _)|(simp[*]))
  refine bB (bw ?_)
  repeat' (first|(with_reducible first|refine af ?_|refine And.intro ?_ ?_|refine cw (c2) ?_|intro _)|(simp[*])|(refine az (c2) ?_ ?_;(· (simp[*];done))))
  clear c2;refine bB (bB (xJ (st':=⟨[(5,.w false false x.pv),(11,.w false false (.int .i64 most)),(7,.w false false (.sl V.length (ints V)))],[],0,84⟩) ?_ (bw ?_)))
  ·clear kk cc r1;unfold Rd.pv
   refine aN [1] ?_ ?_<;>first|trivial|(simp;done)
  repeat' (first|(with_reducible first|refine af ?_|refine And.intro ?_ ?_|refine cw (cc) ?_|intro _)|(simp[*])|(refine az (cc) ?_ ?_;(· (simp[*];done))))
  clear cc;refine mT (DS (fun k:Nat=>k≤V.length∧aR (kU x most (V.drop k)=(R1,R2))) (fun k=>⟨[(52,.w false false (.int .i64 k)),(51,.w false false (.int .i64 V.length)),(50,.w false false (.sl V.length (ints V))),(5,.w false false x.pv),(11,.w false false (.int .i64 most))],[],0,84⟩) (fun k=>V.length-k) 0 ?_ ?_ (fun k hk=>?_))
  ·exact⟨Nat.zero_le _,kR⟩
  ·clear kk r1;unfold Rd.pv
   refine aN [] ?_ ?_<;>first|trivial|(simp;done)
  obtain⟨h1,h2⟩:=hk;refine bB (bw ?_);by_cases hlt:k<V.length
  ·have hltI:(k:Int)<(V.length:Int):=by omega
   have hi1:inI .i64 ((k:Int)+1):=aH (by omega) (by omega)
   repeat' (first|(with_reducible first|refine af ?_|intro _)|(simp[*,hltI]))
   refine bB (lE (o:=false) (f:=false) (b:=true) rfl ?_);simp only[cond_true];refine bw ?_
   repeat' (first|(with_reducible first|refine aB ?_|intro _)|(simp[*]))
   refine bB (mT (bB (bw ?_)))
   repeat' (first|(with_reducible first|refine af ?_|intro _)|(simp[*,hlt]))
   refine bB (bw ?_);obtain⟨cm,hin,hbd,hdr,hnil,cs,ok⟩:=kk;have c3:=cm (nth V k);have hi:=hin (nth V k);have hb:=hbd (nth V k);have hdk:=hdr k hlt;have c4:=cs (nth V k);have kk:=keep (And.intro cm (And.intro hin (And.intro hbd (And.intro hdr (And.intro hnil (And.intro cs ok))))));clear cm hin hbd hdr hnil cs ok;unfold zK at hdk;generalize hLK:kQ x (dM x (nth V k)).1=LK at *;generalize dM x (nth V k)=mm at *;obtain⟨plan,cnt⟩:=mm;dsimp only at c3 hi hb hdk c4 hLK;have hpl:=hi.len;have hpa:=hi.at_;rw[←hpl] at c3;unfold Rd.pv at c3 c4 ⊢;have kx:=keep (And.intro hb (And.intro hpa (And.intro hpl hLK)));clear hb hpa hpl hi hLK
   repeat' (first|(with_reducible first|refine af ?_|refine And.intro ?_ ?_|refine cw (c3) ?_|intro _)|(simp[*])|(refine az (c3) ?_ ?_;(· (simp[*];done))))
   clear c3;refine bB (bw ?_);by_cases hcm:cnt=most
   ·rw[if_pos hcm] at hdk;have hres:(LK plan.length,plan)=(R1,R2):=hdk.symm.trans h2;obtain⟨rfl,rfl⟩:=Prod.mk.inj hres;clear h2 hdk hres
    repeat' (first|(with_reducible first|refine af ?_|intro _)|(simp[*,hcm]))
    refine lE (o:=false) (f:=false) (b:=true) rfl ?_;simp only[cond_true];refine bB (bw ?_)
    repeat' (first|(with_reducible first|refine af ?_|intro _)|(simp[*]))
    refine bB (bB (bw ?_))
    repeat' (first|(with_reducible first|refine af ?_|refine And.intro ?_ ?_|refine cw (c4) ?_|intro _)|(simp[*])|(refine az (c4) ?_ ?_;(· (simp[*];done))))
    clear c4;refine mT (xJ (st':=⟨[(67,.w false false (.fn 48 [.ip [.sl plan.length (ints plan)] 0,.ip [.ip [.sl x.ae.length (bN x.ae),.sl x.os.length (bL x.os),.sl x.wt.length (ig x.wt),.sl x.zs.length (bQ x.zs),.sl x.fit.length (jA x.fit)] 0] 0])),(14,.w false false (.sl plan.length (ints plan))),(16,.ptr 0 1 0)],[(0,[.w false false (.int .i64 0)])],1,84⟩) ?_ (Dc (gf:=48) (ar:=[.w false false (.ip [.sl plan.length (ints plan)] 0),.w false false (.ip [.ip [.sl x.ae.length (bN x.ae),.sl x.os.length (bL x.os),.sl x.wt.length (ig x.wt),.sl x.zs.length (bQ x.zs),.sl x.fit.length (jA x.fit)] 0] 0)]) rfl Tz.func48 (by kernel_rfl) rfl (Nat.le_of_ble_eq_true (by kernel_rfl)) (fun lp=>?_)))
    ·clear kk kx r1
     refine aN [] ?_ ?_<;>first|trivial|(simp;done)
    simp only[Tryz.results48,Tryz.ntmps48];simp
    repeat' (first|(with_reducible first|refine aj ?_|refine af ?_|intro _)|(simp[*]))
    have e0:LK 0=0:=by rw[←kx.2.2.2];rfl
    have eS:∀k,LK (k+1)=if nth plan k=-1 then LK k else if LK k<nth (nth x.wt k) (nth plan k).toNat then nth (nth x.wt k) (nth plan k).toNat else LK k:=fun k=>by rw[←kx.2.2.2];rfl
    obtain⟨hb,hpa,hpl,_⟩:=kx;have ok:=kk.2.2.2.2.2.2;have wn:=ok.wn;have wr:=ok.wr;have kz:=keep (And.intro eS (And.intro hb (And.intro hpa (And.intro hpl (And.intro wn wr)))));clear eS hb hpa hpl wn wr ok kk hmost r1;refine cM 1 (fun(j:Nat)=>j≤plan.length) [0,2,6,7] (fun(j:Nat)=>[(8,.w false false (.int .i64 j))]) [] (fun(j:Nat)=>[(0,[.w false false (.int .i64 (LK j))])]) (fun(j:Nat)=>plan.length-j) (fun(_u:Unit)=>True) [] (fun(_u:Unit)=>[]) [] (fun(_u:Unit)=>[(0,[.w false false (.int .i64 (LK plan.length))])]) (0) (Nat.zero_le _) (aN [] (by simp[e0]) (by simp[e0])) (fun j hk=>?_) (fun _u hf=>?_)
    ·clear e0;by_cases hjt:j<plan.length
     ·obtain⟨eS,hb,hpa,hpl,wn,wr⟩:=kz
      have hjo:j<x.os.length:=by omega
      have hjw:j<x.wt.length:=by have:x.wt.length=x.os.length:=klw;omega
      have h4:=eS j;have hn:=hpa j hjt;have hr:=wr j hjo;have hw:=wn j hjo;have hi2:inI .i64 ((j:Int)+1):=aH (by omega) (by omega)
      have hz:j+1≤plan.length:=by omega
      clear eS hb hpa hpl wn wr hi1 hltI;generalize hq:nth plan j=q at *
      rcases hn with hn|hn
      ·rw[if_pos hn] at h4;subst hn;clear hr hw
       repeat' (first|(with_reducible first|refine tw (id:=3) 16 ?_ ?_|refine aj ?_|refine aL ?_|refine aB ?_|refine af ?_|refine al ?_|intro _)|(simp[*,hjt,hq,hi2]))
       all_goals first
        |omega
        |assumption
        |(refine nx (j+1) ?_ ?_;(· exact hz);(refine aN [] ?_ ?_<;>first|trivial|(simp[*,h4];done)))
      ·have hne:¬q=-1:=by omega
       obtain⟨p,rfl⟩:∃p:Nat,q=p:=⟨q.toNat,by omega⟩;rw[if_neg hne] at h4
       have hp:p<(nth x.wt j).length:=by omega
       simp only[Int.toNat_natCast] at h4;generalize hww:nth (nth x.wt j) p=Q at *;clear hr hw hn
       repeat' (first|(with_reducible first|refine tw (id:=3) 16 ?_ ?_|refine aj ?_|refine aL ?_|refine aB ?_|refine af ?_|refine al ?_|intro _)|(simp[*,hjt,hjw,hq,hi2,hne,hp]))
       all_goals try first|omega|assumption
       refine Dr rfl (by simp) ?_
       repeat' (first|(with_reducible first|refine nY ?_|refine af ?_|intro _)|(simp[*,hww]))
       all_goals try first|omega|assumption
       refine Ds [(0,[.w false false (.int .i64 (LK (j+1)))])] 1 84 ?_ ?_
       ·refine aN [] ?_ ?_<;>first|trivial|(simp[h4];done)
       repeat' (first|(with_reducible first|refine aB ?_|refine af ?_|refine al ?_|intro _)|(simp[*,hjt,hjw,hq,hi2,hne,hp]))
       all_goals first
        |omega
        |assumption
        |(refine nx (j+1) ?_ ?_;(· exact hz);(refine aN [] ?_ ?_<;>first|trivial|(simp[*];done)))
     ·have hje:j=plan.length:=by omega
      subst hje;clear kz
      repeat' (first|(with_reducible first|refine aj ?_|refine aY ?_|refine af ?_|refine al ?_|intro _)|(simp[*,hjt]))
      all_goals first
       |omega
       |(refine bl () ?_ ?_;(· trivial);(refine aG ?_ ?_<;>first|trivial|(simp[*];done)))
    ·have hpl:plan.length=x.os.length:=kz.2.2.2.1;clear kz
     repeat' (first|(with_reducible first|intro _)|(simp[*]))
     simp[cj];refine bB (bw ?_)
     repeat' (first|(with_reducible first|refine af ?_|intro _)|(simp[*]))
     refine bw ?_
     repeat' (first|(with_reducible first|refine aD ?_|intro _)|(simp[*,hpl]))
   ·rw[if_neg hcm] at hdk;have hj:=keep (hdk.symm.trans h2);clear h2 hdk c4 kx
    repeat' (first|(with_reducible first|refine af ?_|intro _)|(simp[*,hcm]))
    refine lE (o:=false) (f:=false) (b:=false) rfl ?_;simp only[cond_false];refine bw ?_
    repeat' (first|(with_reducible first|refine aB ?_|intro _)|(simp[*,hi1]))
    refine bw ?_
    repeat' (first|(with_reducible first|refine af ?_|intro _)|(simp[*,hi1]))
    refine pR _ _ _ _ _ (k+1) _ ⟨hlt,hj⟩ (by omega) ?_
    refine aN [] ?_ ?_<;>first|trivial|(simp;done)
  ·have hltI:¬(k:Int)<(V.length:Int):=by omega
   have hke:k=V.length:=by omega
   subst hke
   have hres:kU x most []=(R1,R2):=by rw[←(show _=(R1,R2) from h2),List.drop_length]
   rw[kk.2.2.2.2.1] at hres;obtain⟨rfl,rfl⟩:=Prod.mk.inj hres;clear h2 hres kk
   repeat' (first|(with_reducible first|refine af ?_|intro _)|(simp[*,hltI]))
   refine bB (lE (o:=false) (f:=false) (b:=false) rfl ?_);simp only[cond_false];refine bw ?_
   repeat' (first|(with_reducible first|refine aY ?_|intro _)|(simp[*]))
   refine bw ?_;unfold Rd.pv
   repeat' (first|(with_reducible first|refine aj ?_|refine aD ?_|refine af ?_|refine cwM (r1) ?_|intro _)|(simp[*]))
theorem Mq:uy cY [0,1]=(500,0):=by kernel_rfl
theorem Mr:nH (aA cY) (jI (aA cY))=350:=by kernel_rfl
theorem Ms:eQ (aA cY)=[0,100,200,150,400]:=by kernel_rfl
theorem Mt:gF (eQ (aA cY))=[0,100,150,200,400]:=by kernel_rfl
theorem Mu:(pf (aA cY)).1=200:=by kernel_rfl
noncomputable def mj:Tw.RND:=zC cY mW [] [1]
theorem Mv:ceR mj=0:=by kernel_rfl
theorem Mw:zD (aA mj)=some [0,1]:=by kernel_rfl
theorem Mx:zE (gF (eQ (aA cY))):=by
 rw[Mt];intro k hk
 have:k=0∨k=1∨k=2∨k=3:=by simp at hk;omega
 rcases this with rfl|rfl|rfl|rfl<;>decide
inductive jK:PV→Prop
 |int (k:IntKind) (n:Int):jK (.int k n)
 |str (s:ByteArray):jK (.str s)
 |sl (n:Nat):jK (.sl n [])
 |agg {cs:List PV}:(∀p∈cs,jK p)→jK (.agg cs)
 |tup {cs:List PV}:(∀p∈cs,jK p)→jK (.tup cs)
theorem My{G G':Nat→Prop}{w:World}{p:PV}{v:Value}(h:Rep G w p v):jK p→Rep G' w p v:=by
 induction h with
 |int k n=>exact fun _=>.int k n
 |str s=>exact fun _=>.str s
 |agg hl _ ih=>
  intro hn
  cases hn with|agg hn=>exact .agg hl (fun j p v hp hv=>ih j p v hp hv (hn p (List.mem_of_getElem? hp)))
 |tup hl _ ih=>
  intro hn
  cases hn with|tup hn=>exact .tup hl (fun j p v hp hv=>ih j p v hp hv (hn p (List.mem_of_getElem? hp)))
 |slnil=>exact fun _=>.slnil
 |sl vals hn hcc hg hr ih=>
  intro hm;cases hm;exact .sl vals hn hcc (fun h=>absurd rfl h) (fun j p hp=>by simp at hp)
 |slz hn=>exact fun _=>.slz hn
 |_=>intro hm;cases hm
theorem Ek[ak]{P:Program}{f:FuncId}{args:List PV}{res:PV}{fr:Bool}(h:aF P f args res fr)(hm:jK res):aF P f args res true:=by
 refine⟨h.1,fun G w vs ho hl hv=>?_⟩;have:=h.2 G w vs ho hl hv;exact this.mono (fun e w' ⟨v,h1,h2,h3⟩=>⟨v,h1,h2,My h3 hm⟩)
theorem FI(k k':IntKind)(a b:Int):jK (.tup [.int k a,.int k' b]):=.tup (fun p hp=>by
 simp only[List.mem_cons,List.not_mem_nil,or_false] at hp
 rcases hp with rfl|rfl
 ·exact .int _ _
 ·exact .int _ _)
noncomputable instance Yz:ak:=LD
theorem Mz:aF Tz.prog 4 [] (.bool true) true:=by
 have c9:=Pp;rw[←Mo] at c9;have c8:=LJ cY [0,1] (by simp);rw[Mq] at c8;replace c8:=Ek c8 (FI _ _ _ _);have c10:=Mn cY mW;unfold zJ at c10;rw[Mr] at c10;have c11:=KW cY [200,250] [100,0] mW rfl rfl;rw[Mp] at c11;replace c11:=Ek c11 (FI _ _ _ _);have c12:=Ml cY mW (by rw[Ms];decide) Mx;rw[Mu] at c12;have c13:=LM cY mW 1 rfl;rw[←LL cY mW,show zC cY mW [] [1]=mj from rfl] at c13;have c14:=LN mj Mv;rw[Mw] at c14;have c15:=KU [0,1] [0,1] (by simp);rw[show eqF [0,1] [0,1]=true from rfl] at c15;unfold uz at c14;generalize aA cY=x at *;generalize ints (jI x)=b1 at *;generalize ints (uA x)=b2 at *;generalize ints (gH x)=b3 at *;generalize ints (pf x).2=b4 at *;generalize x.os.length=n1 at *;generalize x.ae.length=n2 at *;clear x;unfold Tw.bM at *;generalize cY.dK=p1 at *;generalize cY.osP=p2 at *;generalize cY.eF=p3 at *;generalize cY.zsP=p4 at *;obtain⟨m1,l1,e1⟩:∃m l,mj.dK=.sl m l:=⟨_,_,rfl⟩;obtain⟨m2,l2,e2⟩:∃m l,mj.osP=.sl m l:=⟨_,_,rfl⟩;obtain⟨m3,l3,e3⟩:∃m l,mj.eF=.sl m l:=⟨_,_,rfl⟩;obtain⟨m4,l4,e4⟩:∃m l,mj.zsP=.sl m l:=⟨_,_,rfl⟩;rw[e1,e2,e3,e4] at c13 c14;clear e1 e2 e3 e4;simp only[ints,List.map,List.length] at c8 c11 c14 c15;refine rcK Tz.func4 ?_;simp only[Tryz.results4,Tryz.ntmps4]
 repeat' (first|(with_reducible first|refine aj ?_|refine aD ?_|refine af ?_|refine And.intro ?_ ?_|refine cw (c9) ?_|refine cw (c8) ?_|refine cw (c10) ?_|refine cw (c11) ?_|refine cw (c12) ?_|refine cw (c13) ?_|refine cw (c14) ?_|refine cw (c15) ?_|intro _)|(simp[*])|(refine az (c9) ?_ ?_;(· (simp[*];done)))|(refine az (c8) ?_ ?_;(· (simp[*];done)))|(refine az (c10) ?_ ?_;(· (simp[*];done)))|(refine az (c11) ?_ ?_;(· (simp[*];done)))|(refine az (c12) ?_ ?_;(· (simp[*];done)))|(refine az (c13) ?_ ?_;(· (simp[*];done)))|(refine az (c14) ?_ ?_;(· (simp[*];done)))|(refine az (c15) ?_ ?_;(· (simp[*];done))))
noncomputable instance YA:ak:=LD
theorem MA(k:Nat)(h:k+1≤6):8*bE k+800000<bE (k+1):=by
 have:k=0∨k=1∨k=2∨k=3∨k=4∨k=5:=by omega
 rcases this with rfl|rfl|rfl|rfl|rfl|rfl<;>decide
theorem MB(k:Nat)(h:k≤6):800000<bE k:=by
 have:k=0∨k=1∨k=2∨k=3∨k=4∨k=5∨k=6:=by omega
 rcases this with rfl|rfl|rfl|rfl|rfl|rfl|rfl<;>decide
theorem MD(p:Int):Fq Tz.prog Tryz.f3 (Tryz.f3.body.getD .skip) [.int .i64 p] (.bool true) true:=by
 have c4:=Mz;have c5:=Dk p;have c6:=Ki p 0 6;refine CB (Nat.le_of_ble_eq_true (by kernel_rfl)) ?_;have hb:Tryz.f3.body=some _:=rfl;rw[hb];clear hb;simp only[Option.getD_some,Tryz.ntmps3,Tryz.results3]
 cases hw:bn p 0 6 with
 |false=>
  rw[hw] at c5 c6;have c5:aF Tz.prog 5 [.int .i64 p] (.tup [.int .i64 0,.int .i64 2]) true:=c5;clear hw
  repeat' (first|(with_reducible first|refine aj ?_|refine aB ?_|refine aD ?_|refine af ?_|refine al ?_|refine And.intro ?_ ?_|refine cw (c4) ?_|refine cw (c5) ?_|refine cw (c6) ?_|intro _)|(simp[*])|(refine az (c4) ?_ ?_;(· (simp[*];done)))|(refine az (c5) ?_ ?_;(· (simp[*];done)))|(refine az (c6) ?_ ?_;(· (simp[*];done))))
 |true=>
  rw[hw] at c5 c6
  have hr:0≤p∧p≤6:=by simpa[bn] using hw
  obtain⟨k,rfl⟩:∃k:Nat,p=k:=⟨p.toNat,by omega⟩
  have hk:k≤6:=by omega
  have c5:aF Tz.prog 5 [.int .i64 k] (.tup [.int .i64 (bE k),.int .i64 0]) true:=c5;have c7:=KJ k hk;have hm:=MB k hk
  have hm2:¬bE k≤800000:=by omega
  clear hw hm
  cases k with
  |zero=>
   repeat' (first|(with_reducible first|refine aj ?_|refine aB ?_|refine aD ?_|refine af ?_|refine al ?_|refine And.intro ?_ ?_|refine cw (c4) ?_|refine cw (c5) ?_|refine cw (c6) ?_|refine cw (c7) ?_|intro _)|(simp[*,hm2])|(refine az (c4) ?_ ?_;(· (simp[*];done)))|(refine az (c5) ?_ ?_;(· (simp[*];done)))|(refine az (c6) ?_ ?_;(· (simp[*];done)))|(refine az (c7) ?_ ?_;(· (simp[*];done))))
  |succ j=>
   have hs:=MA j hk;have hl:=lD j (by omega);have c8:=Dk (j:Int)
   have hw2:bn (j:Int) 0 6=true:=by simp[bn];omega
   rw[hw2] at c8;have c8:aF Tz.prog 5 [.int .i64 j] (.tup [.int .i64 (bE j),.int .i64 0]) true:=c8;have i1:inI .i64 (j:Int):=aH (by omega) (by omega);have i2:inI .i64 (8*bE j):=aH (by omega) (by omega);have i3:inI .i64 (8*bE j+800000):=aH (by omega) (by omega)
   have hj0:¬((j:Int)+1=0):=by omega
   generalize bE j=P1 at *;generalize bE (j+1)=P2 at *;clear hw2 hr hl;simp only[Int.natCast_add,Int.natCast_one] at c5 c6 c7
   repeat' (first|(with_reducible first|refine aj ?_|refine aB ?_|refine aD ?_|refine af ?_|refine al ?_|refine And.intro ?_ ?_|refine cw (c4) ?_|refine cw (c5) ?_|refine cw (c6) ?_|refine cw (c7) ?_|refine cw (c8) ?_|intro _)|(simp[*,hm2,i1,i2,i3,hj0,hs])|(refine az (c4) ?_ ?_;(· (simp[*];done)))|(refine az (c5) ?_ ?_;(· (simp[*];done)))|(refine az (c6) ?_ ?_;(· (simp[*];done)))|(refine az (c7) ?_ ?_;(· (simp[*];done)))|(refine az (c8) ?_ ?_;(· (simp[*];done))))
end Go.Proofs.YtmaaehaedfemaaaGreat
namespace Go.Proofs.YtmaaehaedfemaaaGreat
open Go.ChangeShapes Go.WideShapes Go.ChangeAt Go.RowKit Go.Conc
noncomputable instance YB:Go.Fi.ak:=LD
theorem Ps:ownKnob Tryz.prog.godebug=none:=by kernel_rfl
theorem Pt:laidOutB Tryz.prog=true:=by kernel_rfl
theorem MG(W:World)(a:Int)(fb:Value→World→Prop)(hpost:∀B,Go.Fi.Bel W.heap.size W B→fb (.bool true) B):∃N last o w' t',runNT Tryz.prog (N+1) (solo (G (Frame.enter Tryz.prog 3 #[.int .i64 a] .normal) []) W) #[]=(.ended o w',t')∧runN Tryz.prog N (solo (G (Frame.enter Tryz.prog 3 #[.int .i64 a] .normal) []) W)=.next last∧step Tryz.prog last=.ended o w'∧Go.Conc.Good Tryz.prog fb last o w' t':=by
 obtain⟨fn,c,h1,h2,h3,h4,h5,h6,h7⟩:=Tz.zm 3 rfl
 have e1:fn=Tryz.f3:=by rw[Tryz.func3] at h2;exact (Option.some.inj h2).symm
 subst e1
 have e2:c=Tryz.f3.body.getD .skip:=by rw[h4];rfl
 have ht:=MD a;refine @Go.Fc.Pr Tz.xfZ LD Tz.prog Tryz.prog Tz.kn oh W (j6 _) (fun f h=>h) 3 Tryz.f3 c #[.int .i64 a] 2
  (fun v A=>v=.bool true∧Go.Fi.Bel W.heap.size (Go.Fc.fH (@Go.Fc.Cc Tz.xfZ Tz.prog Tryz.prog) W) A) fb Tryz.func3 h4 h5 ⟨⟨Tryz.f3,h1,h2,h6⟩,h7⟩ ?_ rfl ?_ ?_
 ·exact fun h=>absurd h.1 (by decide)
 ·have h:=ht (fun _=>True) (Go.Fc.fH (@Go.Fc.Cc Tz.xfZ Tz.prog Tryz.prog) W) #[.int .i64 a] trivial rfl (fun j p v hp hv=>by
   match j with
   |0=>simp at hp hv;subst hp;subst hv;exact .int .i64 a
   |j+1=>simp at hp)
  rw[Go.Fc.uB] at h;subst e2;refine Go.Fi.bT h (fun e a' w' hq=>?_)
  have fin:∀(X:a'.defers=[]∧∀w1,Go.Fi.EnvD.E w' w1→∃v,(results Tryz.f3 a'.tmps).run Tz.prog w1=.ok v w1∧∃v',Ending.returned v=.returned v'∧Go.Fi.Bel W.heap.size (Go.Fc.fH (@Go.Fc.Cc Tz.xfZ Tz.prog Tryz.prog) W) w1∧Go.Fi.Rep (fun b=>(b<W.heap.size→True)∧(true=true→W.heap.size≤b)) w1 (.bool true) v'),
   a'.defers=[]∧∀w1,Go.Fi.EnvD.E w' w1→∃v,(results Tryz.f3 a'.tmps).run Tz.prog w1=.ok v w1∧∃v',Ending.returned v=.returned v'∧v'=.bool true∧Go.Fi.Bel W.heap.size (Go.Fc.fH (@Go.Fc.Cc Tz.xfZ Tz.prog Tryz.prog) W) w1:=by
   rintro⟨hd,X⟩
   refine⟨hd,fun w1 e1=>?_⟩;obtain⟨v,h1,v',h2,h3,h4⟩:=X w1 e1;refine⟨v,h1,v',h2,?_,h3⟩
   cases h4 with
   |bool=>rfl
  cases e with
  |normal=>exact fin hq
  |ret=>exact fin hq
  |_=>exact hq.elim
 ·intro v A B S hv hlk hd ho hp;obtain⟨rfl,hb⟩:=hv;exact hpost B (Go.Fc.Pq hlk hd ho hp hb)
end Go.Proofs.YtmaaehaedfemaaaGreat
