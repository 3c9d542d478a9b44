/- Lemmas. -/
import Derived.Test.YtmaaehaedfemaaaGreatPDa
import Derived.Test.YtmaaehaedfemaaaGreatPLf
import Derived.KernelRfl
set_option linter.unusedSimpArgs false
set_option linter.unusedVariables false
set_option linter.unusedSectionVars false
set_option maxHeartbeats 32000000
set_option maxRecDepth 100000
namespace Go.Proofs.YtmaaehaedfemaaaGreat
open Go Go.Fi
structure Rd where
 ae:List Car
 os:List Ord
 wt:List (List Int)
 zs:List Par
 fit:List (List Bool)
def kI(l:List Bool):List PV:=l.map PV.bool
@[simp] theorem Vw(l:List Bool):(kI l).length=l.length:=by simp[kI]
@[simp] theorem KL(l:List Bool)(k:Nat)(h:k<l.length):bU (kI l) k=.bool (nth l k):=pW _ l k h
def Fx(l:List Bool):PV:=.sl l.length (kI l)
def jA(f:List (List Bool)):List PV:=f.map Fx
@[simp] theorem Vx(f:List (List Bool)):(jA f).length=f.length:=by simp[jA]
@[simp] theorem Vy(f:List (List Bool))(k:Nat)(h:k<f.length):bU (jA f) k=.sl (nth f k).length (kI (nth f k)):=pW Fx f k h
def Rd.pv(x:Rd):PV:=.ip [.sl x.ae.length (bN x.ae),.sl x.os.length (bL x.os),.sl x.wt.length (ig x.wt),.sl x.zs.length (bQ x.zs),.sl x.fit.length (jA x.fit)] 0
noncomputable def aA(r:Tw.RND):Rd:=⟨r.ae,r.os,r.wt,r.zs,(List.range r.os.length).map (Tw.kh r)⟩
theorem KM(r:Tw.RND):Tw.oT r=.sl (aA r).fit.length (jA (aA r).fit):=by
 unfold Tw.oT aA jA;simp only[List.length_map,List.length_range,List.map_map];rfl
theorem od(r:Tw.RND)(h:ceR r=0):Tw.iR ceR r=.tup [(aA r).pv,.int .i64 0]:=by
 unfold Tw.iR;rw[if_pos h,KM];rfl
theorem KN(r:Tw.RND)(h:ceR r≠0):Tw.iR ceR r=.tup [.dQ,.int .i64 (ceR r)]:=by
 unfold Tw.iR;rw[if_neg h]
variable[ak]
theorem Dj(x:Rd)(h:x.ae.length<100000)(n:Int):aF Tz.prog 31 [x.pv,.int .i64 n] (.int .i64 (a8 (bn n 0 ((x.ae.length:Int)-1)) 6)) true:=by
 obtain⟨ae,os,wt,zs,fit⟩:=x;unfold Rd.pv;simp only[] at h ⊢;refine rcK Tz.func31 ?_;simp only[Tryz.results31,Tryz.ntmps31]
 repeat' (first|(with_reducible first|refine aj ?_|refine aD ?_|refine af ?_|refine And.intro ?_ ?_|refine cw (fM _ _ _) ?_|refine cw (dk _ _) ?_|intro _)|(simp[*])|(refine az (fM _ _ _) ?_ ?_;(· (simp[*];done)))|(refine az (dk _ _) ?_ ?_;(· (simp[*];done))))
 all_goals first
  |exact aH (by omega) (by omega)
  |omega
theorem Dk(n:Int):aF Tz.prog 5 [.int .i64 n] (.tup [.int .i64 (if bn n 0 6=true then bE n.toNat else 0),.int .i64 (a8 (bn n 0 6) 2)]) true:=by
 have w:=fM n 0 6;by_cases hb:bn n 0 6=true
 ·have hn:0≤n∧n≤6:=by simpa[bn] using hb
  obtain⟨p,rfl⟩:∃p:Nat,n=p:=⟨n.toNat,by omega⟩;have c:=qJ p (by omega);rw[hb] at w ⊢;simp only[if_true,Int.toNat_natCast,a8];refine rcK Tz.func5 ?_;simp only[Tryz.results5,Tryz.ntmps5]
  repeat' (first|(with_reducible first|refine aj ?_|refine aB ?_|refine aD ?_|refine af ?_|refine al ?_|refine And.intro ?_ ?_|refine cw (w) ?_|refine cw (c) ?_|intro _)|(simp[*])|(refine az (w) ?_ ?_;(· (simp[*];done)))|(refine az (c) ?_ ?_;(· (simp[*];done))))
 ·have hb:bn n 0 6=false:=by simpa using hb
  rw[hb] at w ⊢;simp only[Bool.false_eq_true,if_false,a8];refine rcK Tz.func5 ?_;simp only[Tryz.results5,Tryz.ntmps5]
  repeat' (first|(with_reducible first|refine aj ?_|refine aD ?_|refine af ?_|refine al ?_|refine And.intro ?_ ?_|refine cw (w) ?_|intro _)|(simp[*])|(refine az (w) ?_ ?_;(· (simp[*];done))))
theorem KO(l:List Int)(hl:l.length<100000)(v:Int):aF Tz.prog 94 [.sl l.length (ints l),.int .i64 v] (.int .i64 (idxOf (fun y=>decide (v=y)) l)) true:=by
 generalize hR:idxOf (fun y=>decide (v=y)) l=R;have kR:aR (dh (fun y=>decide (v=y)) l 0=R):=keep hR;clear hR;refine rcK Tz.func94 ?_;simp only[Tryz.results94,Tryz.ntmps94]
 repeat' (first|(with_reducible first|refine aj ?_|refine af ?_|intro _)|(simp[*]))
 refine du (fun(k:Nat)=>k≤l.length∧dh (fun y=>decide (v=y)) (l.drop k) k=R) [0,1,7] (fun(k:Nat)=>[(8,.w false false (.int .i64 k))]) [] (fun(k:Nat)=>[]) (fun(k:Nat)=>l.length-k) (fun(_u:Unit)=>R=-1) [] (fun(_u:Unit)=>[]) [] (fun(_u:Unit)=>[]) (0) ⟨Nat.zero_le _,kR⟩ (by simp) (by simp) (fun k hk=>?_) (fun _u hf=>?_)
 ·obtain⟨hk,hj⟩:=hk;by_cases hlt:k<l.length
  ·have hj':=hj;rw[dG l k hlt] at hj';unfold dh at hj';have kj:=keep hj';clear hj hj'
   repeat' (first|(with_reducible first|refine aj ?_|refine aL ?_|refine aB ?_|refine aD ?_|refine af ?_|refine al ?_|refine And.intro ?_ ?_|refine nX ?_ ?_|intro _)|(simp[*,hlt]))
   all_goals first
    |omega
    |exact aH (by omega) (by omega)
    |(rename_i hp;rw[if_pos (by simpa using hp)] at kj;exact kj)
    |(rename_i hp;rw[if_neg (by simpa using hp)] at kj;(refine nx (k+1) ?_ ?_;(· exact⟨by omega,kj⟩);(refine aG ?_ ?_<;>first|trivial|(simp[*];done))))
  ·have hke:k=l.length:=by omega
   subst hke
   repeat' (first|(with_reducible first|refine aj ?_|refine aY ?_|refine af ?_|refine al ?_|intro _)|(simp[*]))
   all_goals (refine bl () ?_ ?_;(· rw[←hj,List.drop_length];rfl);(refine aG ?_ ?_<;>first|trivial|(simp[*];done)))
 ·subst hf
  repeat' (first|(with_reducible first|refine aj ?_|refine aD ?_|refine af ?_|intro _)|(simp[*]))
theorem xO(l:List Int)(hl:l.length<100000)(v:Int):aF Tz.prog 49 [.sl l.length (ints l),.int .i64 v] (.bool (l.any fun y=>decide (v=y))) true:=by
 have c1:=KO l hl v;have h:=oc (fun y=>decide (v=y)) l;generalize idxOf (fun y:Int=>decide (v=y)) l=i at *;rw[←h];clear h;refine rcK Tz.func49 ?_;simp only[Tryz.results49,Tryz.ntmps49]
 repeat' (first|(with_reducible first|refine aj ?_|refine aD ?_|refine af ?_|refine And.intro ?_ ?_|refine cw (c1) ?_|intro _)|(simp[*])|(refine az (c1) ?_ ?_;(· (simp[*];done))))
end Go.Proofs.YtmaaehaedfemaaaGreat
namespace Go.Proofs.YtmaaehaedfemaaaGreat
open Go Go.Fi
variable[ak]
@[simp] theorem Vz(l:List Int)(k:Nat):(ints l).take k=ints (l.take k):=by simp[ints,List.map_take]
def jB(x:Rd)(plan:List Int)(k:Nat)(n:Int):Int:=
 if n=-1 then 0 else if a8 (bn n 0 ((x.ae.length:Int)-1)) 6≠0 then a8 (bn n 0 ((x.ae.length:Int)-1)) 6 else
 cI [a8 (nth (nth x.fit k) n.toNat) 13,a8 (!((plan.take k).any fun y=>decide (n=y))) 26]
def ik(x:Rd)(plan:List Int):Int×Int:=if (plan.length:Int)≠x.os.length then (0,10) else eI (jB x plan) plan 0
theorem KP(x:Rd)(plan:List Int)(hp:plan.length<100000)(hc:x.ae.length<100000)(hf:x.fit.length=x.os.length)(hr:∀i,i<x.os.length→(nth x.fit i).length=x.ae.length):aF Tz.prog 36 [x.pv,.sl plan.length (ints plan)] (.tup [.int .i64 (ik x plan).1,.int .i64 (ik x plan).2]) true:=by
 have ce:=Dj x hc;generalize hR:ik x plan=R;obtain⟨R1,R2⟩:=R;unfold ik at hR;have kR:=keep hR;have kr:=keep hr;have kce:=keep ce;clear hR hr ce;obtain⟨ae,os,wt,zs,fit⟩:=x;unfold Rd.pv;simp only[] at hc hf ⊢;have kf:=keep hf;clear hf;refine rcK Tz.func36 ?_;simp only[Tryz.results36,Tryz.ntmps36]
 repeat' (first|(with_reducible first|refine aj ?_|refine aB ?_|refine aD ?_|refine af ?_|refine al ?_|refine And.intro ?_ ?_ |  refine je ?_ ?_|intro _)|(simp[*]))
 rotate_right
 ·rename_i b1
  have kT:aR (eI (jB ⟨ae,os,wt,zs,fit⟩ plan) plan 0=(R1,R2)):=by
   rw[if_neg (by simpa using b1)] at kR;exact kR
  have kb:=keep b1;clear kR b1;refine du (fun(k:Nat)=>k≤plan.length∧eI (jB ⟨ae,os,wt,zs,fit⟩ plan) (plan.drop k) k=(R1,R2)) [0,1,19,20] (fun(k:Nat)=>[(21,.w false false (.int .i64 k))]) [] (fun(k:Nat)=>[]) (fun(k:Nat)=>plan.length-k) (fun(_u:Unit)=>R1=0∧R2=0) [] (fun(_u:Unit)=>[]) [] (fun(_u:Unit)=>[]) (0) ⟨Nat.zero_le _,kT⟩ (by simp) (by simp) (fun k hk=>?_) (fun _u hf=>?_)
  ·obtain⟨hk,hj⟩:=hk;by_cases hlt:k<plan.length
   ·have hlo:k<os.length:=by have:=kb;unfold aR at this;omega
    have hlf:k<fit.length:=by have:=kf;unfold aR at this;omega
    have hrow:(nth fit k).length=ae.length:=kr k hlo;rw[dG plan k hlt,eI] at hj;generalize hn:nth plan k=n at hj;have c1:=kce n;unfold Rd.pv at c1;simp only[] at c1;by_cases h1:n=-1
    ·have hE:jB ⟨ae,os,wt,zs,fit⟩ plan k n=0:=by unfold jB;rw[if_pos h1]
     rw[if_pos hE] at hj;have kj:=keep hj;subst h1;clear hj hE c1 hlf hrow
     repeat' (first|(with_reducible first|refine aj ?_|refine aL ?_|refine aB ?_|refine aY ?_|refine af ?_|refine al ?_|refine And.intro ?_ ?_|intro _)|(simp[*,hlt,hlo,hn]))
     all_goals first
      |omega
      |exact aH (by omega) (by omega)
      |(refine nx (k+1) ?_ ?_;(· exact⟨by omega,kj⟩);(refine aG ?_ ?_<;>first|trivial|(simp[*];done)))
    ·cases hw:bn n 0 ((ae.length:Int)-1) with
     |false=>
      have hE:jB ⟨ae,os,wt,zs,fit⟩ plan k n=6:=by unfold jB;simp only[if_neg h1,hw];rfl
      rw[hE] at hj;rw[hw,show a8 false 6=6 from rfl] at c1;have kj:aR (((k:Int),(6:Int))=(R1,R2)):=hj;clear hj hE hw hlf hrow
      repeat' (first|(with_reducible first|refine aj ?_|refine aL ?_|refine aB ?_|refine aD ?_|refine af ?_|refine al ?_|refine And.intro ?_ ?_|refine cw (c1) ?_|intro _)|(simp[*,hlt,hlo,hn,h1])|(refine az (c1) ?_ ?_;(· (simp[*];done))))
      all_goals first
       |omega
       |exact aH (by omega) (by omega)
       |exact (Prod.mk.inj kj).1
       |exact (Prod.mk.inj kj).2
     |true=>
      have hb:0≤n∧n≤(ae.length:Int)-1:=by simpa[bn] using hw
      obtain⟨m,rfl⟩:∃m:Nat,n=m:=⟨n.toNat,by omega⟩
      have hm:m<(nth fit k).length:=by omega
      have hE:jB ⟨ae,os,wt,zs,fit⟩ plan k m=cI [a8 (nth (nth fit k) m) 13,a8 (!((plan.take k).any fun y=>decide ((m:Int)=y))) 26]:=by
       unfold jB;simp only[if_neg h1,hw];rfl
      rw[hE] at hj;rw[hw,show a8 true 6=0 from rfl] at c1;have c2:=xO (plan.take k) (by rw[List.length_take];omega) m;rw[List.length_take_of_le hk] at c2;have c3:=tj (a8 (nth (nth fit k) m) 13) (a8 (!((plan.take k).any fun y=>decide ((m:Int)=y))) 26);generalize cI [a8 (nth (nth fit k) m) 13,a8 (!((plan.take k).any fun y=>decide ((m:Int)=y))) 26]=e at hj c3;have kj:=keep hj;have hm2:(m:Int)≠-1:=h1;clear hj hE hw hb h1 hrow
      repeat' (first|(with_reducible first|refine aj ?_|refine aL ?_|refine aB ?_|refine aD ?_|refine af ?_|refine bF (id:=10) 21 mixed (by decide +kernel) ?_|refine al ?_|refine And.intro ?_ ?_ |  refine je ?_ ?_|refine cw (c1) ?_|refine cw (c2) ?_|refine cw (c3) ?_|refine cw (dk _ _) ?_|intro _)|(simp[*,hlt,hlo,hlf,hm,hn,hm2])|(refine az (c1) ?_ ?_;(· (simp[*];done)))|(refine az (c2) ?_ ?_;(· (simp[*];done)))|(refine az (c3) ?_ ?_;(· (simp[*];done)))|(refine az (dk _ _) ?_ ?_;(· (simp[*];done))))
      all_goals first
       |omega
       |exact aH (by omega) (by omega)
       |(rename_i hp;rw[if_neg hp] at kj;exact (Prod.mk.inj kj).1)
       |(rename_i hp;rw[if_neg hp] at kj;exact (Prod.mk.inj kj).2)
       |(rename_i hp;rw[if_pos hp] at kj;(refine nx (k+1) ?_ ?_;(· exact⟨by omega,kj⟩);(refine aG ?_ ?_<;>first|trivial|(simp[*];done))))
   ·have hke:k=plan.length:=by omega
    rw[hke,List.drop_length] at hj;unfold eI at hj;have kj:=keep hj
    have hlo:¬k<os.length:=by have:=kb;unfold aR at this;omega
    clear hj hke
    repeat' (first|(with_reducible first|refine aj ?_|refine aY ?_|refine af ?_|refine al ?_|intro _)|(simp[*,hlt,hlo]))
    all_goals first
     |omega
     |(refine bl () ?_ ?_;(· exact⟨(Prod.mk.inj kj).1.symm,(Prod.mk.inj kj).2.symm⟩);(refine aG ?_ ?_<;>first|trivial|(simp[*];done)))
  ·obtain⟨rfl,rfl⟩:=hf
   repeat' (first|(with_reducible first|refine aj ?_|refine aD ?_|refine af ?_|intro _)|(simp[*]))
 all_goals first
  |(rename_i b1;rw[if_pos (by simpa using b1)] at kR;first|exact (Prod.mk.inj kR).1|exact (Prod.mk.inj kR).2)
end Go.Proofs.YtmaaehaedfemaaaGreat
namespace Go.Proofs.YtmaaehaedfemaaaGreat
open Go Go.Fi
noncomputable instance instLD14:ak:=LD
theorem Dl(r:Tw.RND):(aA r).fit.length=(aA r).os.length:=by simp[aA]
theorem KQ(r:Tw.RND)(i:Nat):(Tw.kh r i).length=r.ae.length:=by
 simp[Tw.kh,Tw.zj,Tw.gn,Tw.odR]
theorem Dm(r:Tw.RND)(i:Nat)(h:i<(aA r).os.length):(nth (aA r).fit i).length=(aA r).ae.length:=by
 have hi:i<r.os.length:=h;simp only[aA,nth,List.getD_eq_getElem?_getD,List.getElem?_map,List.getElem?_range hi,Option.map_some,Option.getD_some];exact KQ r i
theorem KR(r:Tw.RND):(aA r).ae.length<100000:=r.dp.2.2.2.1
theorem KS(r:Tw.RND)(plan:List Int)(hp:plan.length<100000)(h:ceR r=0):aF Tz.prog 18 [Tw.bM r,.sl plan.length (ints plan)] (.tup [(aA r).pv,.int .i64 (ik (aA r) plan).2]) false:=by
 have c1:=kB r;rw[od r h] at c1;have c2:=KP (aA r) plan hp (KR r) (Dl r) (Dm r);generalize ik (aA r) plan=R at *;obtain⟨R1,R2⟩:=R;generalize aA r=x at *;unfold Tw.bM Rd.pv at *;simp only[] at *;generalize r.dK=p1 at *;generalize r.osP=p2 at *;generalize r.eF=p3 at *;generalize r.zsP=p4 at *;clear h;refine rcK Tz.func18 ?_;simp only[Tryz.results18,Tryz.ntmps18]
 repeat' (first|(with_reducible first|refine aj ?_|refine aD ?_|refine af ?_|refine al ?_|refine And.intro ?_ ?_|refine cw (c1) ?_|refine cw (c2) ?_|intro _)|(simp[*])|(refine az (c1) ?_ ?_;(· (simp[*];done)))|(refine az (c2) ?_ ?_;(· (simp[*];done))))
theorem KT(r:Tw.RND)(plan:List Int)(h:ceR r≠0):aF Tz.prog 18 [Tw.bM r,.sl plan.length (ints plan)] (.tup [.dQ,.int .i64 (ceR r)]) false:=by
 have c1:=kB r;rw[KN r h] at c1;generalize ceR r=e at *;unfold Tw.bM at *;generalize r.dK=p1 at *;generalize r.osP=p2 at *;generalize r.eF=p3 at *;generalize r.zsP=p4 at *;refine rcK Tz.func18 ?_;simp only[Tryz.results18,Tryz.ntmps18]
 repeat' (first|(with_reducible first|refine aj ?_|refine aB ?_|refine aD ?_|refine af ?_|refine al ?_|refine And.intro ?_ ?_|refine cw (c1) ?_|intro _)|(simp[*])|(refine az (c1) ?_ ?_;(· (simp[*];done))))
end Go.Proofs.YtmaaehaedfemaaaGreat
namespace Go.Proofs.YtmaaehaedfemaaaGreat
open Go Go.Fi
variable[ak]
theorem Dn(x:Rd)(plan:List Int):aF Tz.prog 30 [x.pv,.sl plan.length (ints plan)] (.fn 48 [.ip [.sl plan.length (ints plan)] 0,.ip [x.pv] 0]) false:=by
 generalize hx:x.pv=p;obtain⟨cs,rfl⟩:∃cs,p=.ip cs 0:=⟨_,hx.symm⟩;clear hx;refine rcK Tz.func30 ?_;simp only[Tryz.results30,Tryz.ntmps30]
 repeat' (first|(with_reducible first|refine aj ?_|refine aD ?_|refine af ?_|intro _)|(simp[*]))
def eqF:List Int→List Int→Bool
 |[],[]=>true
 |a::r,b::s=>decide (a=b)&&eqF r s
 |_,_=>false
theorem Dp:∀(a b:List Int),eqF a b=decide (a=b)
 |[],[]=>rfl
 |[],b::s=>by simp[eqF]
 |a::r,[]=>by simp[eqF]
 |a::r,b::s=>by simp[eqF,Dp r s]
theorem KU(a b:List Int)(ha:a.length<100000):aF Tz.prog 15 [.sl a.length (ints a),.sl b.length (ints b)] (.bool (eqF a b)) true:=by
 generalize hR:eqF a b=R;have kR:=keep hR;clear hR;by_cases hl:a.length=b.length
 ·have kl:=keep hl
  have kb:aR (b.length<100000):=by show b.length<100000;omega
  rw[hl]
  have kl2:aR ((a.length:Int)=b.length):=by show (a.length:Int)=b.length;omega
  clear hl ha;refine rcK Tz.func15 ?_;simp only[Tryz.results15,Tryz.ntmps15]
  repeat' (first|(with_reducible first|refine aj ?_|refine aB ?_|refine af ?_|refine al ?_|intro _)|(simp[*]))
  refine du (fun(k:Nat)=>k≤b.length∧eqF (a.drop k) (b.drop k)=R) [0,1] (fun(k:Nat)=>[(5,.w false false (.int .i64 k))]) [] (fun(k:Nat)=>[]) (fun(k:Nat)=>b.length-k) (fun(_u:Unit)=>R=true) [] (fun(_u:Unit)=>[]) [] (fun(_u:Unit)=>[]) (0) ⟨Nat.zero_le _,kR⟩ (by simp) (by simp) (fun k hk=>?_) (fun _u hf=>?_)
  ·obtain⟨hk,hj⟩:=hk;have hlen:a.length=b.length:=kl;have hb:b.length<100000:=kb;by_cases hlt:k<b.length
   ·have hla:k<a.length:=by omega
    rw[dG a k hla,dG b k hlt] at hj;unfold eqF at hj;have kj:=keep hj;clear hj hlen
    repeat' (first|(with_reducible first|refine aj ?_|refine aL ?_|refine aB ?_|refine aD ?_|refine af ?_|refine bF (id:=6) 9 mixed (by decide +kernel) ?_|refine al ?_|refine And.intro ?_ ?_ |  refine je ?_ ?_|intro _)|(simp[*,hlt,hla]))
    all_goals first
     |omega
     |exact aH (by omega) (by omega)
     |(rename_i hp;rw[show decide (nth a k=nth b k)=false by simpa using hp] at kj;simpa[aR] using kj)
     |(rename_i hp;rw[show decide (nth a k=nth b k)=true by simpa using hp] at kj;(refine nx (k+1) ?_ ?_;(· exact⟨by omega,by simpa[aR] using kj⟩);(refine aG ?_ ?_<;>first|trivial|(simp[*];done))))
   ·have hke:k=b.length:=by omega
    have hka:k=a.length:=by omega
    rw[show b.drop k=[] from List.drop_eq_nil_of_le (by omega),show a.drop k=[] from List.drop_eq_nil_of_le (by omega)] at hj;have kj:=keep hj;clear hj hke hka hlen
    repeat' (first|(with_reducible first|refine aj ?_|refine aY ?_|refine af ?_|refine al ?_|intro _)|(simp[*,hlt]))
    all_goals first
     |omega
     |(refine bl () ?_ ?_;(· exact kj.symm);(refine aG ?_ ?_<;>first|trivial|(simp[*];done)))
  ·subst hf
   repeat' (first|(with_reducible first|refine aj ?_|refine aD ?_|refine af ?_|intro _)|(simp[*]))
 ·have hRf:R=false:=by
   rw[←show eqF a b=R from kR,Dp];simp only[decide_eq_false_iff_not];intro e;exact hl (by rw[e])
  subst hRf
  have h2:¬((a.length:Int)=b.length):=by omega
  clear kR;refine rcK Tz.func15 ?_;simp only[Tryz.results15,Tryz.ntmps15]
  repeat' (first|(with_reducible first|refine aj ?_|refine aD ?_|refine af ?_|refine al ?_|intro _)|(simp[*,h2,hl]))
def mK(row:List Bool)(w p:List Int)(m0:Int):Nat→Int
 |0=>m0
 |k+1=>if nth row k then (if nth w k+nth p k<mK row w p m0 k then nth w k+nth p k else mK row w p m0 k) else mK row w p m0 k
@[simp] theorem X5(row:List Bool)(w p:List Int)(m0:Int):mK row w p m0 0=m0:=rfl
def fE(x:Rd)(i:Nat)(p:List Int):Int:=mK (nth x.fit i) (nth x.wt i) p (bE (nth x.os i).2.2.2.toNat) (nth x.fit i).length
theorem Dq(x:Rd)(i:Nat)(p:List Int)(hi:i<x.os.length)(hc:x.ae.length<100000)(hfl:i<x.fit.length)(hwl:i<x.wt.length)(hr:(nth x.fit i).length=x.ae.length)(hwr:(nth x.wt i).length=x.ae.length)(hpl:p.length=x.ae.length)(hpr:0≤(nth x.os i).2.2.2∧(nth x.os i).2.2.2≤6)(hw:∀k,k<x.ae.length→0≤nth (nth x.wt i) k∧nth (nth x.wt i) k≤100000)(hp:∀k,k<x.ae.length→-100000000000000≤nth p k∧nth p k≤100000000000000):aF Tz.prog 24 [x.pv,.int .i64 i,.sl p.length (ints p)] (.int .i64 (fE x i p)) true:=by
 obtain⟨ae,os,wt,zs,fit⟩:=x;unfold Rd.pv fE;simp only[] at hi hc hfl hwl hr hwr hpl hpr hw hp ⊢;generalize hq:(nth os i).2.2.2=q at hpr ⊢;obtain⟨u,rfl⟩:∃u:Nat,q=u:=⟨q.toNat,by omega⟩;have c1:=qJ u (by omega);simp only[Int.toNat_natCast];generalize bE u=m0 at c1 ⊢;have kw:=keep hw;have kp:=keep hp;have kr:=keep hr;have kwr:=keep hwr;have kpl:=keep hpl;have kc:=keep hc;clear hw hp hr hwr hpl hpr hc;refine rcK Tz.func24 ?_;simp only[Tryz.results24,Tryz.ntmps24]
 repeat' (first|(with_reducible first|refine aj ?_|refine af ?_|refine And.intro ?_ ?_|refine cw (c1) ?_|intro _)|(simp[*,hi,hfl,hq])|(refine az (c1) ?_ ?_;(· (simp[*];done))))
 all_goals first
  |omega
  |skip
 refine du (fun(k:Nat)=>k≤(nth fit i).length) [0,1,2,26,27] (fun(k:Nat)=>[(28,.w false false (.int .i64 k)),(7,.w false false (.int .i64 (mK (nth fit i) (nth wt i) p m0 k)))]) [] (fun(k:Nat)=>[]) (fun(k:Nat)=>(nth fit i).length-k) (fun(_u:Unit)=>True) [] (fun(_u:Unit)=>[(7,.w false false (.int .i64 (mK (nth fit i) (nth wt i) p m0 (nth fit i).length)))]) [] (fun(_u:Unit)=>[]) (0) (Nat.zero_le _) (by simp) (by simp) (fun k hk=>?_) (fun _u hf=>?_)
 ·have hk2:=hk;by_cases hlt:k<(nth fit i).length
  ·have hlc:k<ae.length:=by have:=kr;unfold aR at this;omega
   have hlw:k<(nth wt i).length:=by have:=kwr;unfold aR at this;omega
   have hlp:k<p.length:=by have:=kpl;unfold aR at this;omega
   have hcc:ae.length<100000:=kc;obtain⟨w1,w2⟩:=kw k hlc;obtain⟨p1,p2⟩:=kp k hlc;have hrr:(nth fit i).length=ae.length:=kr
   have hz:k+1≤(nth fit i).length:=by omega
   have hz2:(nth fit i).length-(k+1)<(nth fit i).length-k:=by omega
   have hi1:inI .i64 ((k:Int)+1):=aH (by omega) (by omega);have hi2:inI .i64 (nth (nth wt i) k+nth p k):=aH (by omega) (by omega)
   have em:mK (nth fit i) (nth wt i) p m0 (k+1)=if nth (nth fit i) k then (if nth (nth wt i) k+nth p k<mK (nth fit i) (nth wt i) p m0 k then nth (nth wt i) k+nth p k else mK (nth fit i) (nth wt i) p m0 k) else mK (nth fit i) (nth wt i) p m0 k:=rfl
   clear w1 w2 p1 p2 hrr hcc hk2 hlc
   cases hb:nth (nth fit i) k with
   |true=>
    rw[hb] at em;simp only[if_true] at em
    repeat' (first|(with_reducible first|refine aj ?_|refine aL ?_|refine aB ?_|refine af ?_|refine bF (id:=6) 18 mixed (by decide +kernel) ?_|refine al ?_|intro _)|(simp[*,hlt,hi,hfl,hwl,hlw,hlp,hb,hi1,hi2]))
    all_goals first
     |omega
     |assumption
     |(refine nx (k+1) ?_ ?_;(· exact hz);(refine aG ?_ ?_<;>first|trivial|(simp[*,em];done)))
   |false=>
    rw[hb] at em;simp only[Bool.false_eq_true,if_false] at em
    repeat' (first|(with_reducible first|refine aj ?_|refine aL ?_|refine aB ?_|refine af ?_|refine al ?_|intro _)|(simp[*,hlt,hi,hfl,hwl,hlw,hlp,hb,hi1,hi2]))
    all_goals first
     |omega
     |assumption
     |(refine nx (k+1) ?_ ?_;(· exact hz);(refine aG ?_ ?_<;>first|trivial|(simp[*,em];done)))
  ·have hke:k=(nth fit i).length:=by omega
   subst hke
   repeat' (first|(with_reducible first|refine aj ?_|refine aY ?_|refine af ?_|refine al ?_|intro _)|(simp[*]))
   all_goals first
    |omega
    |(refine bl () ?_ ?_;(· trivial);(refine aG ?_ ?_<;>first|trivial|(simp[*];done)))
 ·repeat' (first|(with_reducible first|refine aj ?_|refine aD ?_|refine af ?_|intro _)|(simp[*]))
end Go.Proofs.YtmaaehaedfemaaaGreat
namespace Go.Proofs.YtmaaehaedfemaaaGreat
open Go Go.Fi
theorem tn{α:Type}[Inhabited α]{E:Nat→α→Int}:∀{l:List α}{k:Nat},(eI E l k).2=0→∀j,j<l.length→E (k+j) (nth l j)=0
 |[],k,_,j,hj=>absurd hj (by simp)
 |x::r,k,h,j,hj=>by
  unfold eI at h;by_cases he:E k x=0
  ·rw[if_pos he] at h
   cases j with
   |zero=>exact he
   |succ j=>
    have:=tn h j (by simpa using hj);rw[show k+(j+1)=k+1+j by omega];exact this
  ·rw[if_neg he] at h;exact absurd h he
theorem xP{α:Type}[Inhabited α]{nm:α→ByteArray}{mr:α→Int}{l:List α}:∀{r:List α}{k:Nat},(fV nm mr l r k).2=0→∀j,j<r.length→oZ nm mr l (k+j) (nth r j)=0
 |[],k,_,j,hj=>absurd hj (by simp)
 |x::r,k,h,j,hj=>by
  unfold fV at h;by_cases he:oZ nm mr l k x=0
  ·rw[if_pos he] at h
   cases j with
   |zero=>exact he
   |succ j=>
    have:=xP h j (by simpa using hj);rw[show k+(j+1)=k+1+j by omega];exact this
  ·rw[if_neg he] at h;exact absurd h he
theorem eY{e:Int}{r:List Int}(h:cI (e::r)=0):e=0∧cI r=0:=by
 unfold cI at h;split at h
 ·rename_i he;exact⟨he,h⟩
 ·rename_i he;exact absurd h he
theorem iD{b:Bool}{e:Int}(he:e≠0)(h:a8 b e=0):b=true:=by
 unfold a8 at h
 cases b with
 |true=>rfl
 |false=>exact absurd h he
theorem jV{n lo hi:Int}:bn n lo hi=true↔lo≤n∧n≤hi:=by simp[bn]
theorem not_true{b:Bool}(h:(!b)=true):b=false:=by cases b<;>simp_all
structure eJ(x:Rd):Prop where
 lc:x.ae.length≤8
 lo:x.os.length≤8
 lw:x.wt.length=x.os.length
 lz:x.zs.length≤64
 lf:x.fit.length=x.os.length
 fr:∀i,i<x.os.length→(nth x.fit i).length=x.ae.length
 wr:∀i,i<x.os.length→(nth x.wt i).length=x.ae.length
 wn:∀i,i<x.os.length→∀k,k<x.ae.length→0≤nth (nth x.wt i) k∧nth (nth x.wt i) k≤100000
 sc:∀k,k<x.ae.length→1≤(nth x.ae k).2.1∧(nth x.ae k).2.1≤8
 so:∀i,i<x.os.length→1≤(nth x.os i).2.1∧(nth x.os i).2.1≤8
 pr:∀i,i<x.os.length→0≤(nth x.os i).2.2.2∧(nth x.os i).2.2.2≤6
 nc:∀k,k<x.ae.length→gv (nth x.ae k).1=true∧((x.ae.take k).any fun y=>decide (y.1=(nth x.ae k).1))=false
 no:∀k,k<x.os.length→gv (nth x.os k).1=true∧((x.os.take k).any fun y=>decide (y.1=(nth x.os k).1))=false
 zr:∀j,j<x.zs.length→(0≤(nth x.zs j).1∧(nth x.zs j).1≤(x.os.length:Int)-1)∧(0≤(nth x.zs j).2∧(nth x.zs j).2≤(x.ae.length:Int)-1)
theorem nE(r:Tw.RND)(h:ceR r=0):eJ (aA r):=by
 unfold ceR l9 at h;split at h
 ·simp at h
 rename_i g1;split at h
 ·rename_i h2;exact absurd h h2
 rename_i g2;split at h
 ·simp at h
 rename_i g3;split at h
 ·rename_i h2;exact absurd h h2
 rename_i g4;split at h
 ·simp at h
 rename_i g5;have hcont:=Di h
 have hw:(eI (fun _=>o6 r.ae.length) r.wt 0).2=0:=by
  unfold ij at h;split at h
  ·rename_i h1;exact absurd h h1
  ·rename_i h1;simpa using h1
 rw[hcont] at h;unfold nD at h;split at h
 ·simp at h
 rename_i g6;have g2':(fV Prod.fst gw r.ae r.ae 0).2=0:=Classical.not_not.1 g2;have g4':(fV Prod.fst gz r.os r.os 0).2=0:=Classical.not_not.1 g4
 have C:=fun j hj=>xP g2' j hj
 have O:=fun j hj=>xP g4' j hj
 have W:=fun j hj=>tn hw j hj
 have Z:=fun j hj=>tn h j hj
 simp only[Nat.zero_add] at C O W Z
 have hlw:r.wt.length=r.os.length:=by omega
 have wait:∀i,i<r.os.length→(nth r.wt i).length=r.ae.length∧((nth r.wt i).any fun x=>!bn x 0 100000)=false:=fun i hi=>by
  have:=W i (by omega);unfold o6 at this;obtain⟨w1,w2⟩:=eY this;obtain⟨w2,_⟩:=eY w2;refine⟨?_,?_⟩
  ·have:=iD (by decide) w1;have:=of_decide_eq_true this;omega
  ·simpa using iD (by decide) w2
 refine⟨by show r.ae.length≤8;omega,by show r.os.length≤8;omega,hlw,by show r.zs.length≤64;omega,Dl r,Dm r,fun i hi=>(wait i hi).1,fun i hi k hk=>?_,fun k hk=>?_,fun i hi=>?_,fun i hi=>?_,fun k hk=>?_,fun k hk=>?_,fun j hj=>?_⟩
 ·obtain⟨w1,w2⟩:=wait i hi
  have hk':k<(nth r.wt i).length:=by rw[w1];exact hk
  have hm:=lB hk';have:=List.any_eq_false.1 w2 _ hm;have:=jV.1 (by simpa using this);exact this
 ·have:=C k hk;obtain⟨_,n2⟩:=eY this;obtain⟨_,n3⟩:=eY n2;obtain⟨n4,_⟩:=eY n3;exact jV.1 (iD (by decide) n4)
 ·have:=O i hi;obtain⟨_,n2⟩:=eY this;obtain⟨_,n3⟩:=eY n2;obtain⟨n4,_⟩:=eY n3;have:=iD (by decide) n4;rw[Bool.and_eq_true] at this;exact jV.1 this.1
 ·have:=O i hi;obtain⟨_,n2⟩:=eY this;obtain⟨_,n3⟩:=eY n2;obtain⟨n4,_⟩:=eY n3;have:=iD (by decide) n4;rw[Bool.and_eq_true] at this;exact jV.1 this.2
 ·have:=C k hk;obtain⟨n1,n2⟩:=eY this;obtain⟨n2,_⟩:=eY n2;exact⟨iD (by decide) n1,not_true (iD (by decide) n2)⟩
 ·have:=O k hk;obtain⟨n1,n2⟩:=eY this;obtain⟨n2,_⟩:=eY n2;exact⟨iD (by decide) n1,not_true (iD (by decide) n2)⟩
 ·have:=Z j hj;unfold uo at this;obtain⟨n1,_⟩:=eY this;have:=iD (by decide) n1;rw[Bool.and_eq_true] at this;exact⟨jV.1 this.1,jV.1 this.2⟩
end Go.Proofs.YtmaaehaedfemaaaGreat
namespace Go.Proofs.YtmaaehaedfemaaaGreat
open Go Go.Fi
variable[ak]
theorem Pg:Tz.prog.underlying 37=some (.slice 3):=by kernel_rfl
theorem Lh(l:List Int)(x:PV)(hx:x∈ints l):flat x=true:=by
 obtain⟨n,_,rfl⟩:=List.mem_map.1 hx;rfl
theorem xY:∀l:List Int,bJ (List.map (AV.w false false) (ints l))=true
 |[]=>rfl
 |_::l=>xY l
theorem Li(l:List Int)(h:l.length<100000):aF Tz.prog 35 [.sl l.length (ints l)] (.sl l.length (ints l)) true:=by
 refine rcK Tz.func35 ?_;simp only[Tryz.results35,Tryz.ntmps35];refine aj ?_;refine af ?_;simp;refine aj ?_;refine aj ?_;refine Kh (ow:=false) (fl:=false) (k:=l.length) (cells:=ints l) Pg ?_ ?_ ?_ ?_
 ·simp
 ·decide
 ·decide
 intro b hb
 cases b with
 |true=>
  have hl:l=[]:=List.eq_nil_of_length_eq_zero (hb rfl).1;subst hl
  repeat' (first|(with_reducible first|refine aj ?_|refine aD ?_|refine af ?_|refine al ?_|intro _)|(simp[*,ints]))
 |false=>
  clear hb
  repeat' (first|(with_reducible first|refine aj ?_|refine aB ?_|refine aD ?_|refine af ?_|refine al ?_|refine And.intro ?_ ?_|intro _)|(simp[*]))
  all_goals first|omega|(rename_i hx;exact Lh l _ hx)|exact xY l
end Go.Proofs.YtmaaehaedfemaaaGreat
namespace Go.Proofs.YtmaaehaedfemaaaGreat
open Go Go.Fi
noncomputable instance instLD19:ak:=LD
def nG(n:Int):Bool:=!bn n (-100000000000000) 100000000000000
def ma(n:Int):Bool:=!bn n 0 100000000000000
def ck(l:List Int):Nat→Int
 |0=>0
 |k+1=>ck l k+nth l k
@[simp] theorem VA(l:List Int):ck l 0=0:=rfl
theorem tq(l:List Int)(m:Int)(hm:0≤m):∀k,(∀j,j<k→-m≤nth l j∧nth l j≤m)→-(m*k)≤ck l k∧ck l k≤m*k
 |0,_=>by simp
 |k+1,h=>by
  obtain⟨h1,h2⟩:=tq l m hm k fun j hj=>h j (by omega)
  obtain⟨h3,h4⟩:=h k (by omega)
  have e:m*((k+1:Nat):Int)=m*k+m:=by rw[Int.natCast_add,Int.mul_add];simp
  rw[e];unfold ck;omega
def kM(x:Rd)(pc:List Int):List Int→Nat→Bool
 |[],_=>false
 |n::r,k=>decide (fE x k pc<n) || kM x pc r (k+1)
def qK(x:Rd)(po pc:List Int):Int×Int:=
 if po.any nG=true then (0,2) else if pc.any ma=true then (0,2) else if kM x pc po 0=true then (0,20) else (ck po po.length-ck pc pc.length,0)
theorem KW(r:Tw.RND)(po pc:List Int)(h:ceR r=0)(hpo:po.length=r.os.length)(hpc:pc.length=r.ae.length):aF Tz.prog 11 [Tw.bM r,.agg [.sl po.length (ints po),.sl pc.length (ints pc)]] (.tup [.int .i64 (qK (aA r) po pc).1,.int .i64 (qK (aA r) po pc).2]) false:=by
 have ok:=nE r h;have c1:=kB r;rw[od r h] at c1;generalize hR:qK (aA r) po pc=R;obtain⟨R1,R2⟩:=R;unfold qK at hR;have kR:=keep hR;have kok:=keep ok;have c2:=tj 0 (a8 true 10);rw[show cI [0,a8 true 10]=0 from rfl,show a8 true 10=0 from rfl] at c2;have c3:=dk true 10;rw[show a8 true 10=0 from rfl] at c3;clear hR ok h;unfold Tw.bM Tw.RND.dK Tw.RND.osP Tw.RND.eF Tw.RND.zsP at *;generalize hx:aA r=x at *;obtain⟨cs,hcs⟩:∃cs,x.pv=.ip cs 0:=⟨_,rfl⟩;rw[hcs] at c1;rw[←hpo,←hpc] at c1 ⊢
 have hlo:po.length≤8:=by have:=kok.lo;rw[←hx] at this;have e:(aA r).os.length=r.os.length:=rfl;omega
 have hlc:pc.length≤8:=by have:=kok.lc;rw[←hx] at this;have e:(aA r).ae.length=r.ae.length:=rfl;omega
 have hlo2:=keep hlo;have hlc2:=keep hlc;have kpo:=keep hpo;have kpc:=keep hpc;clear hlo hlc hpo hpc;refine rcK Tz.func11 ?_;simp only[Tryz.results11,Tryz.ntmps11]
 repeat' (first|(with_reducible first|refine aj ?_|refine aB ?_|refine af ?_|refine al ?_|refine And.intro ?_ ?_|refine cw (c1) ?_|refine cw (c2) ?_|refine cw (c3) ?_|intro _)|(simp[*])|(refine az (c1) ?_ ?_;(· (simp[*];done)))|(refine az (c2) ?_ ?_;(· (simp[*];done)))|(refine az (c3) ?_ ?_;(· (simp[*];done))))
 clear c1 c2 c3;generalize hA:po.any nG=A at kR;have kA:aR ((po.drop 0).any nG=A):=hA;clear hA;refine du (fun(k:Nat)=>k≤po.length∧(po.drop k).any nG=A∧aR (∀j,j<k→-100000000000000≤nth po j∧nth po j≤100000000000000)) [3,6,44,45] (fun(k:Nat)=>[(46,.w false false (.int .i64 k)),(8,.w false false (.int .i64 (ck po k)))]) [1] (fun(k:Nat)=>[]) (fun(k:Nat)=>po.length-k) (fun(_u:Unit)=>A=false∧aR (∀j,j<po.length→-100000000000000≤nth po j∧nth po j≤100000000000000)) [3,6] (fun(_u:Unit)=>[(8,.w false false (.int .i64 (ck po po.length)))]) [1] (fun(_u:Unit)=>[]) (0) ⟨Nat.zero_le _,kA,keep (fun j hj=>absurd hj (Nat.not_lt_zero j))⟩ (by simp) (by simp) (fun k hk=>?_) (fun _u hf=>?_)
 ·obtain⟨hk,hj,hg⟩:=hk;by_cases hlt:k<po.length
  ·rw[dG po k hlt,List.any_cons] at hj;have w:=fM (nth po k) (-100000000000000) 100000000000000;obtain⟨b1,b2⟩:=tq po 100000000000000 (by decide) k hg
   have h8:(k:Int)<8:=by have:=hlo2;unfold aR at this;omega
   cases hw:bn (nth po k) (-100000000000000) 100000000000000 with
   |true=>
    rw[hw] at w;have hb:=jV.1 hw
    have hj2:(po.drop (k+1)).any nG=A:=by rw[←hj];unfold nG;rw[hw];rfl
    have kj:=keep hj2
    have hg2:aR (∀j,j<k+1→-100000000000000≤nth po j∧nth po j≤100000000000000):=fun j hj=>by
     rcases Nat.lt_succ_iff_lt_or_eq.1 hj with h|rfl
     ·exact hg j h
     ·exact hb
    have hi2:inI .i64 (ck po k+nth po k):=aH (by omega) (by omega);have hi1:inI .i64 ((k:Int)+1):=aH (by omega) (by omega);have es:ck po (k+1)=ck po k+nth po k:=rfl
    have hz:k+1≤po.length:=by omega
    clear hj hj2 hb hw b1 b2 h8 hg
    repeat' (first|(with_reducible first|refine aj ?_|refine aL ?_|refine aB ?_|refine af ?_|refine al ?_|refine And.intro ?_ ?_|refine cw (w) ?_|intro _)|(simp[*,hlt,hi1,hi2])|(refine az (w) ?_ ?_;(· (simp[*];done))))
    all_goals first
     |omega
     |assumption
     |(refine nx (k+1) ?_ ?_;(· exact⟨hz,kj,hg2⟩);(refine aG ?_ ?_<;>first|trivial|(simp[*,es];done)))
   |false=>
    rw[hw] at w
    have hA:A=true:=by rw[←hj];unfold nG;rw[hw];rfl
    subst hA;have kr2:aR (((0:Int),(2:Int))=(R1,R2)):=kR;clear hj hw b1 b2 h8 hg kR
    repeat' (first|(with_reducible first|refine aj ?_|refine aL ?_|refine aB ?_|refine aD ?_|refine af ?_|refine al ?_|refine And.intro ?_ ?_|refine cw (w) ?_|intro _)|(simp[*,hlt])|(refine az (w) ?_ ?_;(· (simp[*];done))))
    all_goals first
     |omega
     |exact (Prod.mk.inj kr2).1
     |exact (Prod.mk.inj kr2).2
  ·have hke:k=po.length:=by omega
   rw[show po.drop k=[] from List.drop_eq_nil_of_le (by omega)] at hj;have kj:aR (false=A):=hj
   have hg2:aR (∀j,j<po.length→-100000000000000≤nth po j∧nth po j≤100000000000000):=by rw[←hke];exact hg
   have es:ck po k=ck po po.length:=by rw[hke]
   clear hj hg hke
   repeat' (first|(with_reducible first|refine aj ?_|refine aY ?_|refine af ?_|refine al ?_|intro _)|(simp[*,hlt]))
   all_goals first
    |omega
    |(refine bl () ?_ ?_;(· first|exact⟨Eq.symm kj,hg2⟩|exact Eq.symm kj);(refine aG ?_ ?_<;>first|trivial|(simp[*,es];done)))
 ·obtain⟨rfl,hg⟩:=hf;have kg:=keep hg;have kR2:aR ((if pc.any ma=true then ((0:Int),(2:Int)) else if kM x pc po 0=true then (0,20) else (ck po po.length-ck pc pc.length,0))=(R1,R2)):=kR;have bs:=tq po 100000000000000 (by decide) po.length hg;generalize ck po po.length=so at bs kR2 ⊢
  have kbs:aR (-800000000000000≤so∧so≤800000000000000):=by have:=hlo2;unfold aR at this ⊢;omega
  generalize hA2:pc.any ma=A2 at kR2;have kA2:aR ((pc.drop 0).any ma=A2):=hA2;clear hg kR kA hA2 bs
  repeat' (first|(with_reducible first|refine aj ?_|refine af ?_|intro _)|(simp[*]))
  refine du (fun(k:Nat)=>k≤pc.length∧(pc.drop k).any ma=A2∧aR (∀j,j<k→0≤nth pc j∧nth pc j≤100000000000000)) [3,6,58,59] (fun(k:Nat)=>[(60,.w false false (.int .i64 k)),(8,.w false false (.int .i64 (so-ck pc k)))]) [1] (fun(k:Nat)=>[]) (fun(k:Nat)=>pc.length-k) (fun(_u:Unit)=>A2=false∧aR (∀j,j<pc.length→0≤nth pc j∧nth pc j≤100000000000000)) [3,6] (fun(_u:Unit)=>[(8,.w false false (.int .i64 (so-ck pc pc.length)))]) [1] (fun(_u:Unit)=>[]) (0) ⟨Nat.zero_le _,kA2,keep (fun j hj=>absurd hj (Nat.not_lt_zero j))⟩ (by simp) (by simp) (fun k hk=>?_) (fun _u hf=>?_)
  ·obtain⟨hk,hj,hg⟩:=hk;by_cases hlt:k<pc.length
   ·rw[dG pc k hlt,List.any_cons] at hj;have w:=fM (nth pc k) 0 100000000000000;obtain⟨b1,b2⟩:=tq pc 100000000000000 (by decide) k (fun j hj=>by have:=hg j hj;omega)
    have h8:(k:Int)<8:=by have:=hlc2;unfold aR at this;omega
    cases hw:bn (nth pc k) 0 100000000000000 with
    |true=>
     rw[hw] at w;have hb:=jV.1 hw
     have hj2:(pc.drop (k+1)).any ma=A2:=by rw[←hj];unfold ma;rw[hw];rfl
     have kj:=keep hj2
     have hg2:aR (∀j,j<k+1→0≤nth pc j∧nth pc j≤100000000000000):=fun j hj=>by
      rcases Nat.lt_succ_iff_lt_or_eq.1 hj with h|rfl
      ·exact hg j h
      ·exact hb
     have hso:-800000000000000≤so∧so≤800000000000000:=kbs;have hi2:inI .i64 (so-ck pc k-nth pc k):=aH (by omega) (by omega);have hi1:inI .i64 ((k:Int)+1):=aH (by omega) (by omega)
     have es:so-ck pc (k+1)=so-ck pc k-nth pc k:=by rw[show ck pc (k+1)=ck pc k+nth pc k from rfl];omega
     have hz:k+1≤pc.length:=by omega
     clear hj hj2 hb hw b1 b2 h8 hg hso
     repeat' (first|(with_reducible first|refine aj ?_|refine aL ?_|refine aB ?_|refine af ?_|refine al ?_|refine And.intro ?_ ?_|refine cw (w) ?_|intro _)|(simp[*,hlt,hi1,hi2])|(refine az (w) ?_ ?_;(· (simp[*];done))))
     all_goals first
      |omega
      |assumption
      |(refine nx (k+1) ?_ ?_;(· exact⟨hz,kj,hg2⟩);(refine aG ?_ ?_<;>first|trivial|(simp[*,es];done)))
    |false=>
     rw[hw] at w
     have hA:A2=true:=by rw[←hj];unfold ma;rw[hw];rfl
     subst hA;have kr2:aR (((0:Int),(2:Int))=(R1,R2)):=kR2;clear hj hw b1 b2 h8 hg kR2
     repeat' (first|(with_reducible first|refine aj ?_|refine aL ?_|refine aB ?_|refine aD ?_|refine af ?_|refine al ?_|refine And.intro ?_ ?_|refine cw (w) ?_|intro _)|(simp[*,hlt])|(refine az (w) ?_ ?_;(· (simp[*];done))))
     all_goals first
      |omega
      |exact (Prod.mk.inj kr2).1
      |exact (Prod.mk.inj kr2).2
   ·have hke:k=pc.length:=by omega
    rw[show pc.drop k=[] from List.drop_eq_nil_of_le (by omega)] at hj;have kj:aR (false=A2):=hj
    have hg2:aR (∀j,j<pc.length→0≤nth pc j∧nth pc j≤100000000000000):=by rw[←hke];exact hg
    have es:ck pc k=ck pc pc.length:=by rw[hke]
    clear hj hg hke
    repeat' (first|(with_reducible first|refine aj ?_|refine aY ?_|refine af ?_|refine al ?_|intro _)|(simp[*,hlt]))
    all_goals first
     |omega
     |(refine bl () ?_ ?_;(· first|exact⟨Eq.symm kj,hg2⟩|exact Eq.symm kj);(refine aG ?_ ?_<;>first|trivial|(simp[*,es];done)))
  ·obtain⟨rfl,hg⟩:=hf;have kg2:=keep hg;have kR3:aR ((if kM x pc po 0=true then ((0:Int),(20:Int)) else (so-ck pc pc.length,0))=(R1,R2)):=kR2;generalize so-ck pc pc.length=d at kR3 ⊢;generalize hA3:kM x pc po 0=A3 at kR3;have kA3:aR (kM x pc (po.drop 0) 0=A3):=hA3;have kx:=keep hx;have kcs:=keep hcs;clear hg kR2 kA2 hA3 hx hcs
   repeat' (first|(with_reducible first|refine aj ?_|refine af ?_|intro _)|(simp[*]))
   refine du (fun(k:Nat)=>k≤po.length∧kM x pc (po.drop k) k=A3) [3,6,8,72,73] (fun(k:Nat)=>[(74,.w false false (.int .i64 k))]) [1] (fun(k:Nat)=>[]) (fun(k:Nat)=>po.length-k) (fun(_u:Unit)=>A3=false) [8] (fun(_u:Unit)=>[]) [1] (fun(_u:Unit)=>[]) (0) ⟨Nat.zero_le _,kA3⟩ (by simp) (by simp) (fun k hk=>?_) (fun _u hf=>?_)
   ·obtain⟨hk,hj⟩:=hk;by_cases hlt:k<po.length
    ·rw[dG po k hlt] at hj;unfold kM at hj
     have e1:x.os.length=po.length:=by rw[←show aA r=x from kx];exact (show po.length=r.os.length from kpo).symm
     have e2:x.ae.length=pc.length:=by rw[←show aA r=x from kx];exact (show pc.length=r.ae.length from kpc).symm
     have o:=kok
     have hko:k<x.os.length:=by omega
     have hcl:x.ae.length<100000:=by have:=o.lc;omega
     have c:=Dq x k pc hko hcl (by have:=o.lf;omega) (by have:=o.lw;omega) (o.fr k hko) (o.wr k hko) e2.symm (o.pr k hko) (o.wn k hko) (fun j hj=>by have:=kg2 j (by omega);omega);rw[show x.pv=.ip cs 0 from kcs] at c;generalize fE x k pc=q at hj c;have kj:=keep hj
     have h8:(k:Int)<8:=by have:=hlo2;unfold aR at this;omega
     have hi1:inI .i64 ((k:Int)+1):=aH (by omega) (by omega);clear hj e1 e2 o hko hcl h8
     repeat' (first|(with_reducible first|refine aj ?_|refine aL ?_|refine aB ?_|refine aD ?_|refine af ?_|refine al ?_|refine And.intro ?_ ?_|refine nX ?_ ?_|refine cw (c) ?_|intro _)|(simp[*,hlt,hi1])|(refine az (c) ?_ ?_;(· (simp[*];done))))
     all_goals first
      |omega
      |assumption
      |(rename_i hq
        have hA:A3=true:=by rw[←show _=A3 from kj,decide_eq_true hq,Bool.true_or]
        subst hA
        first|exact (Prod.mk.inj (show ((0:Int),(20:Int))=(R1,R2) from kR3)).1|exact (Prod.mk.inj (show ((0:Int),(20:Int))=(R1,R2) from kR3)).2)
      |(rename_i hq
        have kj2:aR (kM x pc (po.drop (k+1)) (k+1)=A3):=by
         show _=_;rw[←show _=A3 from kj,decide_eq_false hq,Bool.false_or]
        clear kj hq
        (refine nx (k+1) ?_ ?_;(· exact⟨by omega,kj2⟩);(refine aG ?_ ?_<;>first|trivial|(simp[*];done))))
    ·have hke:k=po.length:=by omega
     rw[show po.drop k=[] from List.drop_eq_nil_of_le (by omega)] at hj;have kj:aR (false=A3):=hj;clear hj hke
     repeat' (first|(with_reducible first|refine aj ?_|refine aY ?_|refine af ?_|refine al ?_|intro _)|(simp[*,hlt]))
     all_goals first
      |omega
      |(refine bl () ?_ ?_;(· exact Eq.symm kj);(refine aG ?_ ?_<;>first|trivial|(simp[*];done)))
   ·subst hf;have kr:aR ((d,(0:Int))=(R1,R2)):=kR3;clear kR3
    repeat' (first|(with_reducible first|refine aj ?_|refine aD ?_|refine af ?_|refine And.intro ?_ ?_|intro _)|(simp[*]))
    all_goals first
     |exact (Prod.mk.inj kr).1
     |exact (Prod.mk.inj kr).2
end Go.Proofs.YtmaaehaedfemaaaGreat
namespace Go.Proofs.YtmaaehaedfemaaaGreat
open Go Go.Fi
variable[ak]
def cY:Tw.RND where
 ae:=[(⟨#[97]⟩,4,false),(⟨#[98]⟩,4,false)]
 os:=[(⟨#[112]⟩,1,false,0),(⟨#[113]⟩,1,false,0)]
 wt:=[[100,200],[150,400]]
 zs:=[]
 dp:=by
  refine⟨?_,?_,?_,by decide,by decide,by decide,by decide⟩
  ·intro c hc;simp only[List.mem_cons,List.not_mem_nil,or_false] at hc
   rcases hc with rfl|rfl<;>decide
  ·intro c hc;simp only[List.mem_cons,List.not_mem_nil,or_false] at hc
   rcases hc with rfl|rfl<;>decide
  ·intro c hc;simp only[List.mem_cons,List.not_mem_nil,or_false] at hc
   rcases hc with rfl|rfl<;>decide
theorem Pp:aF Tz.prog 9 [] (.agg [.sl 2 [.str ⟨#[97]⟩,.int .i64 4,.bool false,.str ⟨#[98]⟩,.int .i64 4,.bool false],.sl 2 [.str ⟨#[112]⟩,.int .i64 1,.bool false,.int .i64 0,.str ⟨#[113]⟩,.int .i64 1,.bool false,.int .i64 0],.sl 2 [.sl 2 [.int .i64 100,.int .i64 200],.sl 2 [.int .i64 150,.int .i64 400]],.sl 0 []]) false:=by
 refine rcK Tz.func9 ?_;simp only[Tryz.results9,Tryz.ntmps9]
 repeat' (first|(with_reducible first|refine aj ?_|refine aD ?_|refine af ?_|intro _)|(simp[*]))
theorem Mo:Tw.bM cY=.agg [.sl 2 [.str ⟨#[97]⟩,.int .i64 4,.bool false,.str ⟨#[98]⟩,.int .i64 4,.bool false],.sl 2 [.str ⟨#[112]⟩,.int .i64 1,.bool false,.int .i64 0,.str ⟨#[113]⟩,.int .i64 1,.bool false,.int .i64 0],.sl 2 [.sl 2 [.int .i64 100,.int .i64 200],.sl 2 [.int .i64 150,.int .i64 400]],.sl 0 []]:=rfl
end Go.Proofs.YtmaaehaedfemaaaGreat
namespace Go.Proofs.YtmaaehaedfemaaaGreat
open Go Go.Fi
theorem mW:ceR cY=0:=by kernel_rfl
theorem Mp:qK (aA cY) [200,250] [100,0]=(350,0):=by kernel_rfl
end Go.Proofs.YtmaaehaedfemaaaGreat
