/- Lemmas. -/
import Derived.Test.YthpkmilhiganjaaGreatPDa
import Derived.Test.YthpkmilhiganjaaGreatPLf
import Derived.Test.YthpkmilhiganjaaGreatPLg
import Derived.KernelRfl
import Derived.Test.YthpkmilhiganjaaGreatPLd
set_option linter.unusedSimpArgs false
set_option linter.unusedVariables false
set_option linter.unusedSectionVars false
set_option maxHeartbeats 32000000
set_option maxRecDepth 100000
namespace Go.Proofs.YthpkmilhiganjaaGreat
open Go Go.Fi
structure Rd where
 ab:List Car
 os:List Ord
 wt:List (List Int)
 zs:List Par
 fit:List (List Bool)
def lh(l:List Bool):List PV:=l.map PV.bool
@[simp] theorem V1(l:List Bool):(lh l).length=l.length:=by simp[lh]
@[simp] theorem KR(l:List Bool)(k:Nat)(h:k<l.length):cD (lh l) k=.bool (nth l k):=pZ _ l k h
def Fz(l:List Bool):PV:=.sl l.length (lh l)
def jJ(f:List (List Bool)):List PV:=f.map Fz
@[simp] theorem V2(f:List (List Bool)):(jJ f).length=f.length:=by simp[jJ]
@[simp] theorem V3(f:List (List Bool))(k:Nat)(h:k<f.length):cD (jJ f) k=.sl (nth f k).length (lh (nth f k)):=pZ Fz f k h
def Rd.pv(x:Rd):PV:=.ip [.sl x.ab.length (aQ x.ab),.sl x.os.length (aP x.os),.sl x.wt.length (aZ x.wt),.sl x.zs.length (aS x.zs),.sl x.fit.length (jJ x.fit)] 0
noncomputable def al(r:Tw.RND):Rd:=⟨r.ab,r.os,r.wt,r.zs,(List.range r.os.length).map (Tw.iV r)⟩
theorem KS(r:Tw.RND):Tw.oY r=.sl (al r).fit.length (jJ (al r).fit):=by
 unfold Tw.oY al jJ;simp only[List.length_map,List.length_range,List.map_map];rfl
theorem fe(r:Tw.RND)(h:ceR r=0):Tw.iW ceR r=.tup [(al r).pv,.int .i64 0]:=by
 unfold Tw.iW;rw[if_pos h,KS];rfl
theorem jo(r:Tw.RND)(h:ceR r≠0):Tw.iW ceR r=.tup [.dP,.int .i64 (ceR r)]:=by
 unfold Tw.iW;rw[if_neg h]
variable[ar]
theorem qm(x:Rd)(h:x.ab.length<100000)(n:Int):aA Tz.prog 91 [x.pv,.int .i64 n] (.int .i64 (aU (aL n 0 ((x.ab.length:Int)-1)) 6)) true:=by
 obtain⟨ab,os,wt,zs,fit⟩:=x;unfold Rd.pv;simp only[] at h ⊢;refine rcK Tz.func91 ?_;simp only[Tryz.results91,Tryz.ntmps91]
 repeat' (first|(with_reducible first|refine af ?_|refine az ?_|refine ae ?_|refine And.intro ?_ ?_|refine cw (dL _ _ _) ?_|refine cw (cH _ _) ?_|intro _)|(simp[*])|(refine ai (dL _ _ _) ?_ ?_;(· (simp[*];done)))|(refine ai (cH _ _) ?_ ?_;(· (simp[*];done))))
 all_goals first
  |exact aF (by omega) (by omega)
  |omega
theorem KT(l:List Int)(hl:l.length<100000)(v:Int):aA Tz.prog 166 [.sl l.length (ints l),.int .i64 v] (.int .i64 (idxOf (fun y=>decide (v=y)) l)) true:=by
 generalize hR:idxOf (fun y=>decide (v=y)) l=R;have kR:aI (dJ (fun y=>decide (v=y)) l 0=R):=keep hR;clear hR;refine rcK Tz.func166 ?_;simp only[Tryz.results166,Tryz.ntmps166]
 repeat' (first|(with_reducible first|refine af ?_|refine ae ?_|intro _)|(simp[*]))
 refine bF (fun(k:Nat)=>k≤l.length∧dJ (fun y=>decide (v=y)) (l.drop k) k=R) [0,1,7] (fun(k:Nat)=>[(8,.w false false (.int .i64 k))]) [] (fun(k:Nat)=>[]) (fun(k:Nat)=>l.length-k) (fun(_u:Unit)=>R=-1) [] (fun(_u:Unit)=>[]) [] (fun(_u:Unit)=>[]) (0) ⟨Nat.zero_le _,kR⟩ (by simp) (by simp) (fun k hk=>?_) (fun _u hf=>?_)
 ·obtain⟨hk,hj⟩:=hk;by_cases hlt:k<l.length
  ·have hj':=hj;rw[b8 l k hlt] at hj';unfold dJ at hj';have kj:=keep hj';clear hj hj'
   repeat' (first|(with_reducible first|refine af ?_|refine aD ?_|refine av ?_|refine az ?_|refine ae ?_|refine ak ?_|refine And.intro ?_ ?_|refine dO ?_ ?_|intro _)|(simp[*,hlt]))
   all_goals first
    |omega
    |exact aF (by omega) (by omega)
    |(rename_i hp;rw[if_pos (by simpa using hp)] at kj;exact kj)
    |(rename_i hp;rw[if_neg (by simpa using hp)] at kj;(refine nx (k+1) ?_ ?_;(· exact⟨by omega,kj⟩);(refine aB ?_ ?_<;>first|trivial|(simp[*];done))))
  ·have hke:k=l.length:=by omega
   subst hke
   repeat' (first|(with_reducible first|refine af ?_|refine aJ ?_|refine ae ?_|refine ak ?_|intro _)|(simp[*]))
   all_goals (refine aT () ?_ ?_;(· rw[←hj,List.drop_length];rfl);(refine aB ?_ ?_<;>first|trivial|(simp[*];done)))
 ·subst hf
  repeat' (first|(with_reducible first|refine af ?_|refine az ?_|refine ae ?_|intro _)|(simp[*]))
theorem lL(l:List Int)(hl:l.length<100000)(v:Int):aA Tz.prog 123 [.sl l.length (ints l),.int .i64 v] (.bool (l.any fun y=>decide (v=y))) true:=by
 have c1:=KT l hl v;have h:=oB (fun y=>decide (v=y)) l;generalize idxOf (fun y:Int=>decide (v=y)) l=i at *;rw[←h];clear h;refine rcK Tz.func123 ?_;simp only[Tryz.results123,Tryz.ntmps123]
 repeat' (first|(with_reducible first|refine af ?_|refine az ?_|refine ae ?_|refine And.intro ?_ ?_|refine cw (c1) ?_|intro _)|(simp[*])|(refine ai (c1) ?_ ?_;(· (simp[*];done))))
end Go.Proofs.YthpkmilhiganjaaGreat
namespace Go.Proofs.YthpkmilhiganjaaGreat
open Go Go.Fi
variable[ar]
def iZ:Tw.RND where
 ab:=[(⟨#[97]⟩,4,false),(⟨#[98]⟩,4,false)]
 os:=[(⟨#[112]⟩,1,false,0),(⟨#[113]⟩,1,false,0)]
 wt:=[[100,200],[150,400]]
 zs:=[]
 cP:=by
  refine⟨?_,?_,?_,by decide,by decide,by decide,by decide⟩
  ·intro c hc;simp only[List.mem_cons,List.not_mem_nil,or_false] at hc
   rcases hc with rfl|rfl<;>decide
  ·intro c hc;simp only[List.mem_cons,List.not_mem_nil,or_false] at hc
   rcases hc with rfl|rfl<;>decide
  ·intro c hc;simp only[List.mem_cons,List.not_mem_nil,or_false] at hc
   rcases hc with rfl|rfl<;>decide
theorem Py:aA Tz.prog 68 [] (.agg [.sl 2 [.str ⟨#[97]⟩,.int .i64 4,.bool false,.str ⟨#[98]⟩,.int .i64 4,.bool false],.sl 2 [.str ⟨#[112]⟩,.int .i64 1,.bool false,.int .i64 0,.str ⟨#[113]⟩,.int .i64 1,.bool false,.int .i64 0],.sl 2 [.sl 2 [.int .i64 100,.int .i64 200],.sl 2 [.int .i64 150,.int .i64 400]],.sl 0 []]) false:=by
 refine rcK Tz.func68 ?_;simp only[Tryz.results68,Tryz.ntmps68]
 repeat' (first|(with_reducible first|refine af ?_|refine az ?_|refine ae ?_|intro _)|(simp[*]))
theorem m8:Tw.aR iZ=.agg [.sl 2 [.str ⟨#[97]⟩,.int .i64 4,.bool false,.str ⟨#[98]⟩,.int .i64 4,.bool false],.sl 2 [.str ⟨#[112]⟩,.int .i64 1,.bool false,.int .i64 0,.str ⟨#[113]⟩,.int .i64 1,.bool false,.int .i64 0],.sl 2 [.sl 2 [.int .i64 100,.int .i64 200],.sl 2 [.int .i64 150,.int .i64 400]],.sl 0 []]:=rfl
@[simp] theorem V4(l:List Int)(k:Nat):(ints l).take k=ints (l.take k):=by simp[ints,List.map_take]
def gq(x:Rd)(plan:List Int)(k:Nat)(n:Int):Int:=
 if n=-1 then 0 else if aU (aL n 0 ((x.ab.length:Int)-1)) 6≠0 then aU (aL n 0 ((x.ab.length:Int)-1)) 6 else
 bL [aU (nth (nth x.fit k) n.toNat) 13,aU (!((plan.take k).any fun y=>decide (n=y))) 26]
def cu(x:Rd)(plan:List Int):Int×Int:=if (plan.length:Int)≠x.os.length then (0,10) else bX (gq x plan) plan 0
theorem Ds(x:Rd)(plan:List Int)(hp:plan.length<100000)(hc:x.ab.length<100000)(hf:x.fit.length=x.os.length)(hr:∀i,i<x.os.length→(nth x.fit i).length=x.ab.length):aA Tz.prog 111 [x.pv,.sl plan.length (ints plan)] (.tup [.int .i64 (cu x plan).1,.int .i64 (cu x plan).2]) true:=by
 have ce:=qm x hc;generalize hR:cu x plan=R;obtain⟨R1,R2⟩:=R;unfold cu at hR;have kR:=keep hR;have kr:=keep hr;have kce:=keep ce;clear hR hr ce;obtain⟨ab,os,wt,zs,fit⟩:=x;unfold Rd.pv;simp only[] at hc hf ⊢;have kf:=keep hf;clear hf;refine rcK Tz.func111 ?_;simp only[Tryz.results111,Tryz.ntmps111]
 repeat' (first|(with_reducible first|refine af ?_|refine av ?_|refine az ?_|refine ae ?_|refine ak ?_|refine And.intro ?_ ?_ |  refine iJ ?_ ?_|intro _)|(simp[*]))
 rotate_right
 ·rename_i b1
  have kT:aI (bX (gq ⟨ab,os,wt,zs,fit⟩ plan) plan 0=(R1,R2)):=by
   rw[if_neg (by simpa using b1)] at kR;exact kR
  have kb:=keep b1;clear kR b1;refine bF (fun(k:Nat)=>k≤plan.length∧bX (gq ⟨ab,os,wt,zs,fit⟩ plan) (plan.drop k) k=(R1,R2)) [0,1,19,20] (fun(k:Nat)=>[(21,.w false false (.int .i64 k))]) [] (fun(k:Nat)=>[]) (fun(k:Nat)=>plan.length-k) (fun(_u:Unit)=>R1=0∧R2=0) [] (fun(_u:Unit)=>[]) [] (fun(_u:Unit)=>[]) (0) ⟨Nat.zero_le _,kT⟩ (by simp) (by simp) (fun k hk=>?_) (fun _u hf=>?_)
  ·obtain⟨hk,hj⟩:=hk;by_cases hlt:k<plan.length
   ·have hlo:k<os.length:=by have:=kb;unfold aI at this;omega
    have hlf:k<fit.length:=by have:=kf;unfold aI at this;omega
    have hrow:(nth fit k).length=ab.length:=kr k hlo;rw[b8 plan k hlt,bX] at hj;generalize hn:nth plan k=n at hj;have c1:=kce n;unfold Rd.pv at c1;simp only[] at c1;by_cases h1:n=-1
    ·have hE:gq ⟨ab,os,wt,zs,fit⟩ plan k n=0:=by unfold gq;rw[if_pos h1]
     rw[if_pos hE] at hj;have kj:=keep hj;subst h1;clear hj hE c1 hlf hrow
     repeat' (first|(with_reducible first|refine af ?_|refine aD ?_|refine av ?_|refine aJ ?_|refine ae ?_|refine ak ?_|refine And.intro ?_ ?_|intro _)|(simp[*,hlt,hlo,hn]))
     all_goals first
      |omega
      |exact aF (by omega) (by omega)
      |(refine nx (k+1) ?_ ?_;(· exact⟨by omega,kj⟩);(refine aB ?_ ?_<;>first|trivial|(simp[*];done)))
    ·cases hw:aL n 0 ((ab.length:Int)-1) with
     |false=>
      have hE:gq ⟨ab,os,wt,zs,fit⟩ plan k n=6:=by unfold gq;simp only[if_neg h1,hw];rfl
      rw[hE] at hj;rw[hw,show aU false 6=6 from rfl] at c1;have kj:aI (((k:Int),(6:Int))=(R1,R2)):=hj;clear hj hE hw hlf hrow
      repeat' (first|(with_reducible first|refine af ?_|refine aD ?_|refine av ?_|refine az ?_|refine ae ?_|refine ak ?_|refine And.intro ?_ ?_|refine cw (c1) ?_|intro _)|(simp[*,hlt,hlo,hn,h1])|(refine ai (c1) ?_ ?_;(· (simp[*];done))))
      all_goals first
       |omega
       |exact aF (by omega) (by omega)
       |exact (Prod.mk.inj kj).1
       |exact (Prod.mk.inj kj).2
     |true=>
      have hb:0≤n∧n≤(ab.length:Int)-1:=by simpa[aL] using hw
      obtain⟨m,rfl⟩:∃m:Nat,n=m:=⟨n.toNat,by omega⟩
      have hm:m<(nth fit k).length:=by omega
      have hE:gq ⟨ab,os,wt,zs,fit⟩ plan k m=bL [aU (nth (nth fit k) m) 13,aU (!((plan.take k).any fun y=>decide ((m:Int)=y))) 26]:=by
       unfold gq;simp only[if_neg h1,hw];rfl
      rw[hE] at hj;rw[hw,show aU true 6=0 from rfl] at c1;have c2:=lL (plan.take k) (by rw[List.length_take];omega) m;rw[List.length_take_of_le hk] at c2;have c3:=hZ (aU (nth (nth fit k) m) 13) (aU (!((plan.take k).any fun y=>decide ((m:Int)=y))) 26);generalize bL [aU (nth (nth fit k) m) 13,aU (!((plan.take k).any fun y=>decide ((m:Int)=y))) 26]=e at hj c3;have kj:=keep hj;have hm2:(m:Int)≠-1:=h1;clear hj hE hw hb h1 hrow
      repeat' (first|(with_reducible first|refine af ?_|refine aD ?_|refine av ?_|refine az ?_|refine ae ?_|refine aK (id:=10) 21 mixed (by decide +kernel) ?_|refine ak ?_|refine And.intro ?_ ?_ |  refine iJ ?_ ?_|refine cw (c1) ?_|refine cw (c2) ?_|refine cw (c3) ?_|refine cw (cH _ _) ?_|intro _)|(simp[*,hlt,hlo,hlf,hm,hn,hm2])|(refine ai (c1) ?_ ?_;(· (simp[*];done)))|(refine ai (c2) ?_ ?_;(· (simp[*];done)))|(refine ai (c3) ?_ ?_;(· (simp[*];done)))|(refine ai (cH _ _) ?_ ?_;(· (simp[*];done))))
      all_goals first
       |omega
       |exact aF (by omega) (by omega)
       |(rename_i hp;rw[if_neg hp] at kj;exact (Prod.mk.inj kj).1)
       |(rename_i hp;rw[if_neg hp] at kj;exact (Prod.mk.inj kj).2)
       |(rename_i hp;rw[if_pos hp] at kj;(refine nx (k+1) ?_ ?_;(· exact⟨by omega,kj⟩);(refine aB ?_ ?_<;>first|trivial|(simp[*];done))))
   ·have hke:k=plan.length:=by omega
    rw[hke,List.drop_length] at hj;unfold bX at hj;have kj:=keep hj
    have hlo:¬k<os.length:=by have:=kb;unfold aI at this;omega
    clear hj hke
    repeat' (first|(with_reducible first|refine af ?_|refine aJ ?_|refine ae ?_|refine ak ?_|intro _)|(simp[*,hlt,hlo]))
    all_goals first
     |omega
     |(refine aT () ?_ ?_;(· exact⟨(Prod.mk.inj kj).1.symm,(Prod.mk.inj kj).2.symm⟩);(refine aB ?_ ?_<;>first|trivial|(simp[*];done)))
  ·obtain⟨rfl,rfl⟩:=hf
   repeat' (first|(with_reducible first|refine af ?_|refine az ?_|refine ae ?_|intro _)|(simp[*]))
 all_goals first
  |(rename_i b1;rw[if_pos (by simpa using b1)] at kR;first|exact (Prod.mk.inj kR).1|exact (Prod.mk.inj kR).2)
theorem yh(x:Rd)(plan:List Int):aA Tz.prog 86 [x.pv,.sl plan.length (ints plan)] (.fn 122 [.ip [.sl plan.length (ints plan)] 0,.ip [x.pv] 0]) false:=by
 generalize hx:x.pv=p;obtain⟨cs,rfl⟩:∃cs,p=.ip cs 0:=⟨_,hx.symm⟩;clear hx;refine rcK Tz.func86 ?_;simp only[Tryz.results86,Tryz.ntmps86]
 repeat' (first|(with_reducible first|refine af ?_|refine az ?_|refine ae ?_|intro _)|(simp[*]))
def eqF:List Int→List Int→Bool
 |[],[]=>true
 |a::r,b::s=>decide (a=b)&&eqF r s
 |_,_=>false
theorem jY:∀(a b:List Int),eqF a b=decide (a=b)
 |[],[]=>rfl
 |[],b::s=>by simp[eqF]
 |a::r,[]=>by simp[eqF]
 |a::r,b::s=>by simp[eqF,jY r s]
theorem lM(a b:List Int)(ha:a.length<100000):aA Tz.prog 52 [.sl a.length (ints a),.sl b.length (ints b)] (.bool (eqF a b)) true:=by
 generalize hR:eqF a b=R;have kR:=keep hR;clear hR;by_cases hl:a.length=b.length
 ·have kl:=keep hl
  have kb:aI (b.length<100000):=by show b.length<100000;omega
  rw[hl]
  have kl2:aI ((a.length:Int)=b.length):=by show (a.length:Int)=b.length;omega
  clear hl ha;refine rcK Tz.func52 ?_;simp only[Tryz.results52,Tryz.ntmps52]
  repeat' (first|(with_reducible first|refine af ?_|refine av ?_|refine ae ?_|refine ak ?_|intro _)|(simp[*]))
  refine bF (fun(k:Nat)=>k≤b.length∧eqF (a.drop k) (b.drop k)=R) [0,1] (fun(k:Nat)=>[(5,.w false false (.int .i64 k))]) [] (fun(k:Nat)=>[]) (fun(k:Nat)=>b.length-k) (fun(_u:Unit)=>R=true) [] (fun(_u:Unit)=>[]) [] (fun(_u:Unit)=>[]) (0) ⟨Nat.zero_le _,kR⟩ (by simp) (by simp) (fun k hk=>?_) (fun _u hf=>?_)
  ·obtain⟨hk,hj⟩:=hk;have hlen:a.length=b.length:=kl;have hb:b.length<100000:=kb;by_cases hlt:k<b.length
   ·have hla:k<a.length:=by omega
    rw[b8 a k hla,b8 b k hlt] at hj;unfold eqF at hj;have kj:=keep hj;clear hj hlen
    repeat' (first|(with_reducible first|refine af ?_|refine aD ?_|refine av ?_|refine az ?_|refine ae ?_|refine aK (id:=6) 9 mixed (by decide +kernel) ?_|refine ak ?_|refine And.intro ?_ ?_ |  refine iJ ?_ ?_|intro _)|(simp[*,hlt,hla]))
    all_goals first
     |omega
     |exact aF (by omega) (by omega)
     |(rename_i hp;rw[show decide (nth a k=nth b k)=false by simpa using hp] at kj;simpa[aI] using kj)
     |(rename_i hp;rw[show decide (nth a k=nth b k)=true by simpa using hp] at kj;(refine nx (k+1) ?_ ?_;(· exact⟨by omega,by simpa[aI] using kj⟩);(refine aB ?_ ?_<;>first|trivial|(simp[*];done))))
   ·have hke:k=b.length:=by omega
    have hka:k=a.length:=by omega
    rw[show b.drop k=[] from List.drop_eq_nil_of_le (by omega),show a.drop k=[] from List.drop_eq_nil_of_le (by omega)] at hj;have kj:=keep hj;clear hj hke hka hlen
    repeat' (first|(with_reducible first|refine af ?_|refine aJ ?_|refine ae ?_|refine ak ?_|intro _)|(simp[*,hlt]))
    all_goals first
     |omega
     |(refine aT () ?_ ?_;(· exact kj.symm);(refine aB ?_ ?_<;>first|trivial|(simp[*];done)))
  ·subst hf
   repeat' (first|(with_reducible first|refine af ?_|refine az ?_|refine ae ?_|intro _)|(simp[*]))
 ·have hRf:R=false:=by
   rw[←show eqF a b=R from kR,jY];simp only[decide_eq_false_iff_not];intro e;exact hl (by rw[e])
  subst hRf
  have h2:¬((a.length:Int)=b.length):=by omega
  clear kR;refine rcK Tz.func52 ?_;simp only[Tryz.results52,Tryz.ntmps52]
  repeat' (first|(with_reducible first|refine af ?_|refine az ?_|refine ae ?_|refine ak ?_|intro _)|(simp[*,h2,hl]))
theorem Pz:Tz.prog.underlying 28=some (.slice 3):=by kernel_rfl
theorem Dt(l:List Int)(x:PV)(hx:x∈ints l):flat x=true:=by
 obtain⟨n,_,rfl⟩:=List.mem_map.1 hx;rfl
theorem yj:∀l:List Int,bV (List.map (AV.w false false) (ints l))=true
 |[]=>rfl
 |_::l=>yj l
theorem Du(l:List Int)(h:l.length<100000):aA Tz.prog 97 [.sl l.length (ints l)] (.sl l.length (ints l)) true:=by
 refine rcK Tz.func97 ?_;simp only[Tryz.results97,Tryz.ntmps97];refine af ?_;refine ae ?_;simp;refine af ?_;refine af ?_;refine Kw (ow:=false) (fl:=false) (k:=l.length) (cells:=ints l) Pz ?_ ?_ ?_ ?_
 ·simp
 ·decide
 ·decide
 intro b hb
 cases b with
 |true=>
  have hl:l=[]:=List.eq_nil_of_length_eq_zero (hb rfl).1;subst hl
  repeat' (first|(with_reducible first|refine af ?_|refine az ?_|refine ae ?_|refine ak ?_|intro _)|(simp[*,ints]))
 |false=>
  clear hb
  repeat' (first|(with_reducible first|refine af ?_|refine av ?_|refine az ?_|refine ae ?_|refine ak ?_|refine And.intro ?_ ?_|intro _)|(simp[*]))
  all_goals first|omega|(rename_i hx;exact Dt l _ hx)|exact yj l
theorem m9(l:List Int)(h:l.length<10000000):aA Tz.prog 24 [.sl l.length (ints l)] (.sl l.length (ints l)) true:=by
 refine rcK Tz.func24 ?_;simp only[Tryz.results24,Tryz.ntmps24]
 repeat' (first|(with_reducible first|refine af ?_|refine az ?_|refine ae ?_|refine And.intro ?_ ?_|intro _)|(simp[*]))
 all_goals first|omega|(rename_i hx;exact Dt l _ hx)|exact yj l
theorem Dv{α:Type}[Inhabited α](l:List α)(k:Nat)(h:k<l.length):l.take (k+1)=l.take k++[nth l k]:=by
 rw[List.take_succ_eq_append_getElem h];simp[nth,List.getD_eq_getElem?_getD,List.getElem?_eq_getElem h]
def cpA(m:List (List Int))(k:Nat):List AV:=(aZ (m.take k)).map (.w true false)
theorem Dw(m:List (List Int))(k:Nat)(h:k≤m.length):(cpA m k).length=k:=by
 simp[cpA,Nat.min_eq_left h]
@[simp] theorem V5(m:List (List Int)):cpA m 0=[]:=rfl
theorem Dx(m:List (List Int))(k:Nat)(h:k<m.length):cpA m (k+1)=cpA m k++[.w true false (.sl (nth m k).length (ints (nth m k)))]:=by
 unfold cpA aZ;rw[Dv m k h,List.map_append,List.map_append];rfl
@[simp] theorem V6(m:List (List Int))(k n:Nat):AV.lt.ltL n (cpA m k)=true:=mZ n true false _
@[simp] theorem V7{D:List Nat}{h:aj}{n n':Nat}(m:List (List Int))(k:Nat):fD D h n n' (cpA m k) (cpA m k)=True:=eq_true (lJ true false _)
theorem KU(m:List (List Int)):cpA m m.length=(aZ m).map (.w true false):=by simp[cpA]
theorem KW(m:List (List Int))(hl:m.length<100000)(hrow:∀w∈m,w.length<100000):aA Tz.prog 74 [.sl m.length (aZ m)] (.sl m.length (aZ m)) true:=by
 refine rcK Tz.func74 ?_;simp only[Tryz.results74,Tryz.ntmps74]
 repeat' (first|(with_reducible first|refine af ?_|refine ae ?_|intro _)|(simp[*]))
 refine cC 1 (fun(k:Nat)=>k≤m.length) [0] (fun(k:Nat)=>[(3,.msl 0 k 1 0 k),(4,.w false false (.int .i64 k))]) [] (fun(k:Nat)=>[(0,cpA m k)]) (fun(k:Nat)=>m.length-k) (fun(_u:Unit)=>True) [] (fun(_u:Unit)=>[(3,.msl 0 m.length 1 0 m.length)]) [] (fun(_u:Unit)=>[(0,cpA m m.length)]) (0) (Nat.zero_le _) (aO [] (by simp) (by simp)) (fun k hk=>?_) (fun _u hf=>?_)
 ·by_cases hlt:k<m.length
  ·have hr1:=hrow (nth m k) (by rw[nth,List.getD_eq_getElem?_getD,List.getElem?_eq_getElem hlt];exact List.getElem_mem _);clear hrow;have cc:=m9 (nth m k) (by omega);have hlen:=Dw m k hk;have ks:=keep (Dx m k hlt)
   repeat' (first|(with_reducible first|refine af ?_|refine iK ?_|refine av ?_|refine ae ?_|refine ak ?_|refine And.intro ?_ ?_|refine cw (cc) ?_|intro _)|(simp[*,hlt,hlen])|(refine ai (cc) ?_ ?_;(· (simp[*];done))))
   all_goals first
    |exact aF (by omega) (by omega)
    |omega
    |(refine nx (k+1) ?_ ?_;(· omega);(refine aO [] ?_ ?_<;>first|trivial|(simp[*,ks,Dx m k hlt];done)))
  ·have hke:k=m.length:=by omega
   subst hke
   repeat' (first|(with_reducible first|refine af ?_|refine aJ ?_|refine ae ?_|refine ak ?_|intro _)|(simp[*]))
   all_goals first
    |(refine aT () ?_ ?_;(· trivial);(refine aO [] ?_ ?_<;>first|trivial|(simp[*];done)))
 ·have hlen:=Dw m m.length (Nat.le_refl _);rw[KU]
  repeat' (first|(with_reducible first|refine af ?_|refine az ?_|refine ae ?_|intro _)|(simp[*,hlen]))
theorem yk(l:List Car)(x:PV)(hx:x∈aQ l):flat x=true∧o9 x=true:=by
 obtain⟨c,_,hx⟩:=List.mem_flatMap.1 hx;simp only[Tw.cj,List.mem_cons,List.not_mem_nil,or_false] at hx
 rcases hx with rfl|rfl|rfl<;>exact⟨rfl,rfl⟩
theorem ym(l:List Ord)(x:PV)(hx:x∈aP l):flat x=true∧o9 x=true:=by
 obtain⟨c,_,hx⟩:=List.mem_flatMap.1 hx;simp only[Tw.bG,List.mem_cons,List.not_mem_nil,or_false] at hx
 rcases hx with rfl|rfl|rfl|rfl<;>exact⟨rfl,rfl⟩
theorem Dy(l:List Par)(x:PV)(hx:x∈aS l):flat x=true∧o9 x=true:=by
 obtain⟨c,_,hx⟩:=List.mem_flatMap.1 hx;simp only[Tw.bH,List.mem_cons,List.not_mem_nil,or_false] at hx
 rcases hx with rfl|rfl<;>exact⟨rfl,rfl⟩
theorem qn(r:Tw.RND):aA Tz.prog 18 [Tw.aR r] (Tw.aR r) true:=by
 obtain⟨ab,os,wt,zs,cP⟩:=r;obtain⟨f1,f2,f3,f4,f5,f6,f7⟩:=cP;have c1:=KW wt f6 f3;unfold Tw.aR Tw.RND.bS Tw.RND.osP Tw.RND.bU Tw.RND.zsP Tw.RND.nw Tw.RND.wait;simp only[]
 change aA Tz.prog 18 [.agg [.sl ab.length (aQ ab),.sl os.length (aP os),.sl wt.length (aZ wt),.sl zs.length (aS zs)]] (.agg [.sl ab.length (aQ ab),.sl os.length (aP os),.sl wt.length (aZ wt),.sl zs.length (aS zs)]) true
 clear f1 f2 f3 f6;refine rcK Tz.func18 ?_;simp only[Tryz.results18,Tryz.ntmps18]
 repeat' (first|(with_reducible first|refine af ?_|refine az ?_|refine ae ?_|refine jk (id:=1) [0,1,2,4,5,6,8,9,11,12,13] [3,7,10,14,15,16] [[],[],[],[.new 0],[.new 0],[.new 0],[.new 0,.new 1],[.new 0,.new 1],[.new 0,.new 1],[.new 0,.new 1],[.new 0,.new 1]] [[.new 0],[.new 1],[],[.new 2],[],[.slot 2]] mixed (by decide +kernel) ?_|refine And.intro ?_ ?_|refine cw (c1) ?_|intro _)|(simp[*])|(refine ai (c1) ?_ ?_;(· (simp[*];done))))
 all_goals first
  |omega
  |(rename_i hx;first|exact (yk _ _ hx).1|exact (ym _ _ hx).1|exact (Dy _ _ hx).1)
  |(refine qg false false _ (List.all_eq_true.2 fun y hy=>?_);first|exact (yk _ _ hy).2|exact (ym _ _ hy).2|exact (Dy _ _ hy).2)
theorem Dz(po pc:List Int)(h1:po.length<100000)(h2:pc.length<100000):aA Tz.prog 19 [.agg [.sl po.length (ints po),.sl pc.length (ints pc)]] (.agg [.sl po.length (ints po),.sl pc.length (ints pc)]) true:=by
 have c1:=m9 po (by omega);have c2:=m9 pc (by omega);refine rcK Tz.func19 ?_;simp only[Tryz.results19,Tryz.ntmps19]
 repeat' (first|(with_reducible first|refine af ?_|refine az ?_|refine ae ?_|refine aK (id:=1) 7 mixed (by decide +kernel) ?_|refine And.intro ?_ ?_|refine cw (c1) ?_|refine cw (c2) ?_|intro _)|(simp[*])|(refine ai (c1) ?_ ?_;(· (simp[*];done)))|(refine ai (c2) ?_ ?_;(· (simp[*];done))))
def fH{α:Type}(p:α→Bool)(l:List α)(k:Nat):Bool:=(l.drop k).all p
theorem yp{α:Type}[Inhabited α]{p:α→Bool}{l:List α}{k:Nat}(h:k<l.length):fH p l k=(p (nth l k)&&fH p l (k+1)):=by
 unfold fH;rw[b8 l k h];rfl
theorem yq{α:Type}(p:α→Bool)(l:List α):fH p l l.length=true:=by
 unfold fH;rw[List.drop_length];rfl
def FF(c o w z:Nat):Bool:=decide (¬(((4<c∧c≤8)∨10<c)∨((4<o∧o≤8)∨10<o)∨12<w∨66<z))
def jK(ab:List Car)(os:List Ord)(wt:List (List Int))(zs:List Par):Bool:=
 FF ab.length os.length wt.length zs.length&&(ab.all (fun x:Car=>decide (x.1.size≤20))&&(os.all (fun x:Ord=>decide (x.1.size≤20))&&wt.all (fun w:List Int=>decide (w.length≤10))))
theorem qU(ab:List Car)(os:List Ord)(wt:List (List Int))(zs:List Par):aA Tz.prog 16 [.agg [.sl ab.length (aQ ab),.sl os.length (aP os),.sl wt.length (aZ wt),.sl zs.length (aS zs)]] (.bool (jK ab os wt zs)) true:=by
 unfold jK;have hA0:ab.all (fun x:Car=>decide (x.1.size≤20))=fH (fun x:Car=>decide (x.1.size≤20)) ab 0:=rfl;have hA2:os.all (fun x:Ord=>decide (x.1.size≤20))=fH (fun x:Ord=>decide (x.1.size≤20)) os 0:=rfl;have hA4:wt.all (fun w:List Int=>decide (w.length≤10))=fH (fun w:List Int=>decide (w.length≤10)) wt 0:=rfl;rw[hA0,hA2,hA4];clear hA0 hA2 hA4;generalize hA0:fH (fun x:Car=>decide (x.1.size≤20)) ab 0=A0;generalize hA2:fH (fun x:Ord=>decide (x.1.size≤20)) os 0=A2;generalize hA4:fH (fun w:List Int=>decide (w.length≤10)) wt 0=A4;have kA0:=keep hA0;have kA2:=keep hA2;have kA4:=keep hA4;clear hA0 hA2 hA4
 cases hS:FF ab.length os.length wt.length zs.length with
 |false=>
  have hS:=of_decide_eq_false hS;have kS:=keep hS;clear hS;simp only[Bool.false_and];refine rcK Tz.func16 ?_;simp only[Tryz.results16,Tryz.ntmps16]
  repeat' (first|(with_reducible first|refine af ?_|refine av ?_|refine az ?_|refine ae ?_|refine ak ?_|refine J2 ?_ ?_|refine J1 ?_ ?_|refine dO ?_ ?_|intro _)|(simp[*]))
  all_goals (exfalso;have hS:=kS;unfold aI at hS;omega)
 |true=>
  have hS:=of_decide_eq_true hS
  have l1:ab.length≤10:=by omega
  have l2:os.length≤10:=by omega
  have l3:wt.length≤12:=by omega
  have kS:=keep hS;clear hS;simp only[Bool.true_and]
  have w5:¬(66:Int)<zs.length:=by have hS:=kS;unfold aI at hS;omega
  have w6:¬(12:Int)<wt.length:=by omega
  have w7:¬(10:Int)<ab.length:=by omega
  have w8:¬(10:Int)<os.length:=by omega
  have key:((¬(4:Int)<ab.length)∨((4:Int)<ab.length∧¬(ab.length:Int)≤8)):=by have hS:=kS;unfold aI at hS;omega
  have key2:((¬(4:Int)<os.length)∨((4:Int)<os.length∧¬(os.length:Int)≤8)):=by have hS:=kS;unfold aI at hS;omega
  clear kS hS
  rcases key with g1|⟨g1,g2⟩<;>rcases key2 with g3|⟨g3,g4⟩
  all_goals
   refine rcK Tz.func16 ?_;simp only[Tryz.results16,Tryz.ntmps16]
   repeat' (first|(with_reducible first|refine af ?_|refine av ?_|refine ae ?_|refine ak ?_|intro _)|(simp[*]))
   have kk:=keep (And.intro w5 (And.intro w6 (And.intro w7 w8)));clear w5 w6 w7 w8;refine bF (fun(k:Nat)=>k≤ab.length∧fH (fun x:Car=>decide (x.1.size≤20)) ab k=A0) [1] (fun(k:Nat)=>[(3,.w false false (.int .i64 k))]) [0] (fun(k:Nat)=>[]) (fun(k:Nat)=>ab.length-k) (fun(_u:Unit)=>A0=true) [1] (fun(_u:Unit)=>[]) [0] (fun(_u:Unit)=>[]) (0) ⟨Nat.zero_le _,kA0⟩ (by simp) (by simp) (fun k hk=>?_) (fun _u hf=>?_)
   ·obtain⟨hk,hj⟩:=hk;by_cases hlt:k<ab.length
    ·rw[yp hlt] at hj;by_cases hr:20<((nth ab k).1.size:Int)
     ·have hA:A0=false:=by rw[←hj];simp;omega
      clear hj kA0;subst hA
      repeat' (first|(with_reducible first|refine af ?_|refine aD ?_|refine av ?_|refine az ?_|refine ae ?_|refine ak ?_|intro _)|(simp[*,hlt,hr]))
      all_goals first|exact aF (by omega) (by omega)|omega|(simp;done)
     ·have kj:aI (fH (fun x:Car=>decide (x.1.size≤20)) ab (k+1)=A0):=keep (by rw[←hj,decide_eq_true (show (nth ab k).1.size≤20 by omega),Bool.true_and]);clear hj
      repeat' (first|(with_reducible first|refine af ?_|refine aD ?_|refine av ?_|refine ae ?_|refine ak ?_|refine And.intro ?_ ?_|intro _)|(simp[*,hlt,hr]))
      all_goals first
       |exact aF (by omega) (by omega)
       |omega
       |(refine nx (k+1) ?_ ?_;(· exact⟨by omega,kj⟩);(refine aB ?_ ?_<;>first|trivial|(simp[*];done)))
    ·have hke:k=ab.length:=by omega
     subst hke;rw[yq] at hj;have kj:=keep hj.symm;clear hj kA0
     repeat' (first|(with_reducible first|refine af ?_|refine aJ ?_|refine ae ?_|refine ak ?_|intro _)|(simp[*]))
     all_goals (refine aT () ?_ ?_;(· exact kj);(refine aB ?_ ?_<;>first|trivial|(simp[*];done)))
   ·subst hf;clear kA0;simp only[Bool.true_and]
    repeat' (first|(with_reducible first|refine af ?_|refine ae ?_|intro _)|(simp[*]))
    refine bF (fun(k:Nat)=>k≤os.length∧fH (fun x:Ord=>decide (x.1.size≤20)) os k=A2) [1] (fun(k:Nat)=>[(4,.w false false (.int .i64 k))]) [0] (fun(k:Nat)=>[]) (fun(k:Nat)=>os.length-k) (fun(_u:Unit)=>A2=true) [1] (fun(_u:Unit)=>[]) [0] (fun(_u:Unit)=>[]) (0) ⟨Nat.zero_le _,kA2⟩ (by simp) (by simp) (fun k hk=>?_) (fun _u hf=>?_)
    ·obtain⟨hk,hj⟩:=hk;by_cases hlt:k<os.length
     ·rw[yp hlt] at hj;by_cases hr:20<((nth os k).1.size:Int)
      ·have hA:A2=false:=by rw[←hj];simp;omega
       clear hj kA2;subst hA
       repeat' (first|(with_reducible first|refine af ?_|refine aD ?_|refine av ?_|refine az ?_|refine ae ?_|refine ak ?_|intro _)|(simp[*,hlt,hr]))
       all_goals first|exact aF (by omega) (by omega)|omega|(simp;done)
      ·have kj:aI (fH (fun x:Ord=>decide (x.1.size≤20)) os (k+1)=A2):=keep (by rw[←hj,decide_eq_true (show (nth os k).1.size≤20 by omega),Bool.true_and]);clear hj
       repeat' (first|(with_reducible first|refine af ?_|refine aD ?_|refine av ?_|refine ae ?_|refine ak ?_|refine And.intro ?_ ?_|intro _)|(simp[*,hlt,hr]))
       all_goals first
        |exact aF (by omega) (by omega)
        |omega
        |(refine nx (k+1) ?_ ?_;(· exact⟨by omega,kj⟩);(refine aB ?_ ?_<;>first|trivial|(simp[*];done)))
     ·have hke:k=os.length:=by omega
      subst hke;rw[yq] at hj;have kj:=keep hj.symm;clear hj kA2
      repeat' (first|(with_reducible first|refine af ?_|refine aJ ?_|refine ae ?_|refine ak ?_|intro _)|(simp[*]))
      all_goals (refine aT () ?_ ?_;(· exact kj);(refine aB ?_ ?_<;>first|trivial|(simp[*];done)))
    ·subst hf;clear kA2;simp only[Bool.true_and]
     repeat' (first|(with_reducible first|refine af ?_|refine ae ?_|intro _)|(simp[*]))
     refine bF (fun(k:Nat)=>k≤wt.length∧fH (fun w:List Int=>decide (w.length≤10)) wt k=A4) [1] (fun(k:Nat)=>[(5,.w false false (.int .i64 k))]) [0] (fun(k:Nat)=>[]) (fun(k:Nat)=>wt.length-k) (fun(_u:Unit)=>A4=true) [] (fun(_u:Unit)=>[]) [0] (fun(_u:Unit)=>[]) (0) ⟨Nat.zero_le _,kA4⟩ (by simp) (by simp) (fun k hk=>?_) (fun _u hf=>?_)
     ·obtain⟨hk,hj⟩:=hk;by_cases hlt:k<wt.length
      ·rw[yp hlt] at hj;by_cases hr:10<((nth wt k).length:Int)
       ·have hA:A4=false:=by rw[←hj];simp;omega
        clear hj kA4;subst hA
        repeat' (first|(with_reducible first|refine af ?_|refine aD ?_|refine av ?_|refine az ?_|refine ae ?_|refine ak ?_|intro _)|(simp[*,hlt,hr]))
        all_goals first|exact aF (by omega) (by omega)|omega|(simp;done)
       ·have kj:aI (fH (fun w:List Int=>decide (w.length≤10)) wt (k+1)=A4):=keep (by rw[←hj,decide_eq_true (show (nth wt k).length≤10 by omega),Bool.true_and]);clear hj
        repeat' (first|(with_reducible first|refine af ?_|refine aD ?_|refine av ?_|refine ae ?_|refine ak ?_|refine And.intro ?_ ?_|intro _)|(simp[*,hlt,hr]))
        all_goals first
         |exact aF (by omega) (by omega)
         |omega
         |(refine nx (k+1) ?_ ?_;(· exact⟨by omega,kj⟩);(refine aB ?_ ?_<;>first|trivial|(simp[*];done)))
      ·have hke:k=wt.length:=by omega
       subst hke;rw[yq] at hj;have kj:=keep hj.symm;clear hj kA4
       repeat' (first|(with_reducible first|refine af ?_|refine aJ ?_|refine ae ?_|refine ak ?_|intro _)|(simp[*]))
       all_goals (refine aT () ?_ ?_;(· exact kj);(refine aB ?_ ?_<;>first|trivial|(simp[*];done)))
     ·subst hf
      repeat' (first|(with_reducible first|refine af ?_|refine az ?_|refine ae ?_|intro _)|(simp[*]))
theorem qp{ab:List Car}{os:List Ord}{wt:List (List Int)}{zs:List Par}(h:jK ab os wt zs=true):(ab.length≤10∧(8<ab.length∨ab.length≤4))∧(os.length≤10∧(8<os.length∨os.length≤4))∧wt.length≤12∧zs.length≤66∧(∀c∈ab,c.1.size≤20)∧(∀o∈os,o.1.size≤20)∧∀w∈wt,w.length≤10:=by
 unfold jK at h;simp only[Bool.and_eq_true,List.all_eq_true,decide_eq_true_eq] at h;obtain⟨h1,h2,h3,h4⟩:=h;have h1:=of_decide_eq_true h1;exact⟨⟨by omega,by omega⟩,⟨by omega,by omega⟩,by omega,by omega,h2,h3,h4⟩
def bM(ab:List Car)(os:List Ord)(wt:List (List Int))(zs:List Par)(h:jK ab os wt zs=true):Tw.RND:=⟨ab,os,wt,zs,by
 obtain⟨⟨h1,_⟩,⟨h2,_⟩,h3,h4,h5,h6,h7⟩:=qp h
 exact⟨fun c hc=>by have:=h5 c hc;omega,fun c hc=>by have:=h6 c hc;omega,fun c hc=>by have:=h7 c hc;omega,by omega,by omega,by omega,by omega⟩⟩
def rd2:PV:=.ip [.sl 2 [.str ⟨#[97]⟩,.int .i64 4,.bool false,.str ⟨#[98]⟩,.int .i64 4,.bool false],.sl 2 [.str ⟨#[112]⟩,.int .i64 1,.bool false,.int .i64 0,.str ⟨#[113]⟩,.int .i64 1,.bool false,.int .i64 0],.sl 2 [.sl 2 [.int .i64 100,.int .i64 200],.sl 2 [.int .i64 150,.int .i64 400]],.sl 0 [],.sl 2 [.sl 2 [.bool true,.bool true],.sl 2 [.bool true,.bool true]]] 0
theorem DO:aA Tz.prog 116 [.int .i64 0] (.int .i64 1000000) true:=pd 0 (by decide)
theorem DQ(l:List PV):aA Tz.prog 86 [rd2,.sl 2 l] (.fn 122 [.ip [.sl 2 l] 0,.ip [rd2] 0]) false:=by
 unfold rd2;refine rcK Tz.func86 ?_;simp only[Tryz.results86,Tryz.ntmps86]
 repeat' (first|(with_reducible first|refine af ?_|refine az ?_|refine ae ?_|intro _)|(simp[*]))
theorem DR:aA Tz.prog 78 [rd2,.sl 2 [.int .i64 0,.int .i64 1]] (.int .i64 500) true∧aA Tz.prog 78 [rd2,.sl 2 [.int .i64 1,.int .i64 0]] (.int .i64 350) true:=by
 have c1:=DO
 have c2:=fun l=>DQ l
 unfold rd2 at *;constructor
 all_goals
  refine m7 Tz.func78 (by kernel_rfl) rfl (Nat.le_of_ble_eq_true (by kernel_rfl)) ?_;simp only[Tryz.results78,Tryz.ntmps78]
  repeat' (first|(with_reducible first|refine b7 ?_|refine jW ?_|refine qj (gf:=122) rfl Tz.func122 (by kernel_rfl) rfl (Nat.le_of_ble_eq_true (by kernel_rfl)) (fun l=>?_)|refine bY ?_|refine lN (id:=3) 16 ?_ ?_|refine qo rfl (by simp) ?_|refine DN ?_|refine gh 40 ?_|refine gr ?_|refine dV ?_|refine af ?_|refine av ?_|refine az ?_|refine aJ ?_|refine ae ?_|refine aK (id:=5) 5 mixed (by decide +kernel) ?_|refine aK (id:=10) 14 mixed (by decide +kernel) ?_|refine ak ?_|refine And.intro ?_ ?_|refine cw (c1) ?_|refine cw (c2 _) ?_|intro _)|(simp[*,Tw.bG,cG,dp])|(refine ai (c1) ?_ ?_;(· (simp[*];done)))|(refine ai (c2 _) ?_ ?_;(· (simp[*];done))))
 all_goals first|exact cV (by decide)|(simp[touch];done)
def Yj:PV:=.sl 2 [.str ⟨#[97]⟩,.int .i64 4,.bool false,.str ⟨#[98]⟩,.int .i64 4,.bool false]
theorem Lb:aA Tz.prog 80 [.ip [.sl 2 [.str ⟨#[97]⟩,.int .i64 4,.bool false,.str ⟨#[98]⟩,.int .i64 4,.bool false],.sl 2 [.str ⟨#[112]⟩,.int .i64 1,.bool false,.int .i64 0,.str ⟨#[113]⟩,.int .i64 1,.bool false,.int .i64 0],.sl 2 [.sl 2 [.int .i64 100,.int .i64 200],.sl 2 [.int .i64 150,.int .i64 400]],.sl 0 [],.sl 2 [.sl 2 [.bool true,.bool true],.sl 2 [.bool true,.bool true]]] 0] (.sl 2 [.sl 4 (ints [100,200,1000000,1000000000000000]),.sl 4 (ints [150,400,1000000000000000,1000000])]) true:=by
 have c1:=pd 0 (by decide)
 have e:(bf 0:Int)=1000000:=by kernel_rfl
 rw[e] at c1;refine rcK Tz.func80 ?_;simp only[Tryz.results80,Tryz.ntmps80]
 repeat' (first|(with_reducible first|refine gh 40 ?_|refine gr ?_|refine dV ?_|refine af ?_|refine av ?_|refine az ?_|refine aJ ?_|refine ae ?_|refine ak ?_|refine And.intro ?_ ?_|refine cw (c1) ?_|intro _)|(simp[*,Tw.bG,ints])|(refine ai (c1) ?_ ?_;(· (simp[*];done))))
 all_goals exact cV (by decide)
theorem DS(n:Nat)(h:n=2∨n=4):aA Tz.prog 118 [.int .u64 1,.int .u64 n] (.tup [.int .u64 0,.int .u64 n]) true:=by
 have c:aA Tz.prog 154 [.int .u64 1,.int .u64 n] (.tup [.int .u64 0,.int .u64 n]) true:=by
  rcases h with rfl|rfl
  all_goals
   refine rcK Tz.func154 ?_;simp only[Tryz.results154,Tryz.ntmps154]
   repeat' (first|(with_reducible first|refine af ?_|refine az ?_|refine ae ?_|refine And.intro ?_ ?_|intro _)|(simp[*]))
  all_goals exact cV (by decide)
 refine rcK Tz.func118 ?_;simp only[Tryz.results118,Tryz.ntmps118]
 repeat' (first|(with_reducible first|refine af ?_|refine av ?_|refine az ?_|refine ae ?_|refine ak ?_|refine And.intro ?_ ?_|refine cw (c) ?_|intro _)|(simp[*])|(refine ai (c) ?_ ?_;(· (simp[*];done))))
theorem FG(v:Int):j4 Tz.prog 81 [.sl 1 [.int .i64 v],.int .i64 (4:Nat)] [[.w false false (.int .i64 v),.w false false (.int .i64 v),.w false false (.int .i64 v),.w false false (.int .i64 v)]] (.msl 0 4 1 0 4):=by
 have c:=DS 4 (.inr rfl);refine tO 0 [] Tz.func81 (by kernel_rfl) rfl (Nat.le_of_ble_eq_true (by kernel_rfl)) (by simp) (by intro c hc;simp only[List.mem_singleton] at hc;subst hc;rfl) ?_;simp only[Tryz.results81,Tryz.ntmps81]
 repeat' (first|(with_reducible first|refine gh 40 ?_|refine gr ?_|refine dV ?_|refine af ?_|refine av ?_|refine az ?_|refine aJ ?_|refine ae ?_|refine jk (id:=9) [0,1,2,3,4,5,6] [7,8,9] [[.slot 7],[],[],[],[],[],[]] [[.slot 7],[],[]] mixed (by decide +kernel) ?_|refine ak ?_|refine And.intro ?_ ?_|refine cw (c) ?_|intro _)|(simp[*])|(refine ai (c) ?_ ?_;(· (simp[*];done))))
 all_goals first|exact cV (by decide)|(simp[touch];done)
theorem Lc:aA Tz.prog 79 [.sl 2 [.sl 4 [.int .i64 100,.int .i64 200,.int .i64 1000000,.int .i64 1000000000000000],.sl 4 [.int .i64 150,.int .i64 400,.int .i64 1000000000000000,.int .i64 1000000]],.int .i64 4] (.ip [.sl 2 [.sl 4 [.int .i64 100,.int .i64 200,.int .i64 1000000,.int .i64 1000000000000000],.sl 4 [.int .i64 150,.int .i64 400,.int .i64 1000000000000000,.int .i64 1000000]],.sl 2 [.int .i64 200,.int .i64 250],.sl 4 [.int .i64 (-100),.int .i64 0,.int .i64 0,.int .i64 0],.sl 4 [.int .i64 1,.int .i64 0,.int .i64 (-1),.int .i64 (-1)],.sl 4 [.int .i64 (-1),.int .i64 0,.int .i64 0,.int .i64 (-1)]] 0) false:=by
 have r1:=FG (-1);have r2:=FG 10000000000000000;refine rcK Tz.func79 ?_;simp only[Tryz.results79,Tryz.ntmps79]
 repeat' (first|(with_reducible first|refine oC (id:=5) 2 Tz.func117 (by kernel_rfl) rfl (by decide) rfl ?_|refine yn (by decide) (by simp) rfl ?_|refine gh 40 ?_|refine gr ?_|refine dV ?_|refine DJ ?_|refine DK ?_|refine af ?_|refine av ?_|refine az ?_|refine aJ ?_|refine ae ?_|refine aK (id:=1) 12 mixed (by decide +kernel) ?_|refine aK (id:=1) 7 mixed (by decide +kernel) ?_|refine aK (id:=9) 27 mixed (by decide +kernel) ?_|refine aK (id:=20) 16 mixed (by decide +kernel) ?_|refine aK (id:=32) 13 mixed (by decide +kernel) ?_|refine ak ?_|refine And.intro ?_ ?_|refine cwM (r1) ?_|refine cwM (r2) ?_|intro _)|(simp[*,cG,dp]))
 all_goals try first|exact cV (by decide)|(simp[touch];done)
end Go.Proofs.YthpkmilhiganjaaGreat
namespace Go.Proofs.YthpkmilhiganjaaGreat
open Go Go.Fi
noncomputable instance Yo:ar:=LD
theorem Ld:ceR iZ=0:=by kernel_rfl
theorem qu:aA Tz.prog 69 [Tw.aR iZ] (.tup [rd2,.int .i64 0]) false:=by
 have c:=cQ iZ;rw[fe iZ Ld] at c;exact c
theorem DT:aA Tz.prog 70 [.sl 2 [.int .i64 0,.int .i64 0]] (.int .i64 0) true:=tM [0,0] (by decide)
theorem Le:aA Tz.prog 111 [rd2,.sl 2 [.int .i64 0,.int .i64 1]] (.tup [.int .i64 0,.int .i64 0]) true:=by
 have k:∀n:Int,(n=0∨n=1)→aA Tz.prog 91 [rd2,.int .i64 n] (.int .i64 0) true:=fun n h=>by
  rcases h with rfl|rfl
  all_goals
   unfold rd2;refine rcK Tz.func91 ?_;simp only[Tryz.results91,Tryz.ntmps91]
   repeat' (first|(with_reducible first|refine af ?_|refine az ?_|refine ae ?_|refine And.intro ?_ ?_|refine cw (dL _ _ _) ?_|refine cw (cH _ _) ?_|intro _)|(simp[*])|(refine ai (dL _ _ _) ?_ ?_;(· (simp[*];done)))|(refine ai (cH _ _) ?_ ?_;(· (simp[*];done))))
  all_goals first|exact cV (by decide)|decide
 have k0:=k 0 (.inl rfl);have k1:=k 1 (.inr rfl);have i0:aA Tz.prog 123 [.sl 0 [],.int .i64 0] (.bool false) true:=lL [] (by decide) 0;have i1:aA Tz.prog 123 [.sl 1 [.int .i64 0],.int .i64 1] (.bool false) true:=lL [0] (by decide) 1
 have u:∀e,aA Tz.prog 71 [.bool true,.int .i64 e] (.int .i64 0) true:=fun e=>cH true e
 have f:=DT;clear k;unfold rd2 at *;refine rcK Tz.func111 ?_;simp only[Tryz.results111,Tryz.ntmps111]
 repeat' (first|(with_reducible first|refine gh 40 ?_|refine gr ?_|refine dV ?_|refine af ?_|refine av ?_|refine az ?_|refine aJ ?_|refine ae ?_|refine aK (id:=10) 21 mixed (by decide +kernel) ?_|refine ak ?_|refine And.intro ?_ ?_|refine cw (k0) ?_|refine cw (k1) ?_|refine cw (i0) ?_|refine cw (i1) ?_|refine cw (u _) ?_|refine cw (f) ?_|intro _)|(simp[*])|(refine ai (k0) ?_ ?_;(· (simp[*];done)))|(refine ai (k1) ?_ ?_;(· (simp[*];done)))|(refine ai (i0) ?_ ?_;(· (simp[*];done)))|(refine ai (i1) ?_ ?_;(· (simp[*];done)))|(refine ai (u _) ?_ ?_;(· (simp[*];done)))|(refine ai (f) ?_ ?_;(· (simp[*];done))))
 all_goals first|exact cV (by decide)|(simp[touch];done)
theorem Lf:aA Tz.prog 23 [Tw.aR iZ,.sl 2 [.int .i64 0,.int .i64 1]] (.tup [.int .i64 500,.int .i64 0]) true:=by
 have c1:=qu;have c2:=Le;have c3:=DR.1
 have c4:aA Tz.prog 77 [Tw.aR iZ,.sl 2 [.int .i64 0,.int .i64 1]] (.tup [rd2,.int .i64 0]) false:=by
  clear c3;rw[m8] at *;unfold rd2 at *;refine rcK Tz.func77 ?_;simp only[Tryz.results77,Tryz.ntmps77]
  repeat' (first|(with_reducible first|refine af ?_|refine az ?_|refine ae ?_|refine ak ?_|refine And.intro ?_ ?_|refine cw (c1) ?_|refine cw (c2) ?_|intro _)|(simp[*])|(refine ai (c1) ?_ ?_;(· (simp[*];done)))|(refine ai (c2) ?_ ?_;(· (simp[*];done))))
 clear c1 c2;rw[m8] at *;unfold rd2 at *;refine rcK Tz.func23 ?_;simp only[Tryz.results23,Tryz.ntmps23]
 repeat' (first|(with_reducible first|refine af ?_|refine av ?_|refine az ?_|refine ae ?_|refine ak ?_|refine And.intro ?_ ?_|refine cw (c3) ?_|refine cw (c4) ?_|intro _)|(simp[*])|(refine ai (c3) ?_ ?_;(· (simp[*];done)))|(refine ai (c4) ?_ ?_;(· (simp[*];done))))
noncomputable instance Yp:ar:=LD
def Yq:PV:=.sl 2 [.sl 4 [.int .i64 100,.int .i64 200,.int .i64 1000000,.int .i64 1000000000000000],.sl 4 [.int .i64 150,.int .i64 400,.int .i64 1000000000000000,.int .i64 1000000]]
theorem FH(v:Int):j4 Tz.prog 81 [.sl 1 [.int .i64 v],.int .i64 (2:Nat)] [[.w false false (.int .i64 v),.w false false (.int .i64 v)]] (.msl 0 2 1 0 2):=by
 have c:=DS 2 (.inl rfl);refine tO 0 [] Tz.func81 (by kernel_rfl) rfl (Nat.le_of_ble_eq_true (by kernel_rfl)) (by simp) (by intro c hc;simp only[List.mem_singleton] at hc;subst hc;rfl) ?_;simp only[Tryz.results81,Tryz.ntmps81]
 repeat' (first|(with_reducible first|refine gh 40 ?_|refine gr ?_|refine dV ?_|refine af ?_|refine av ?_|refine az ?_|refine aJ ?_|refine ae ?_|refine jk (id:=9) [0,1,2,3,4,5,6] [7,8,9] [[.slot 7],[],[],[],[],[],[]] [[.slot 7],[],[]] mixed (by decide +kernel) ?_|refine ak ?_|refine And.intro ?_ ?_|refine cw (c) ?_|intro _)|(simp[*])|(refine ai (c) ?_ ?_;(· (simp[*];done))))
 all_goals first|exact cV (by decide)|(simp[touch];done)
theorem tQ:aA Tz.prog 73 [rd2,.int .i64 0,.sl 2 [.int .i64 100,.int .i64 0]] (.int .i64 200) true∧aA Tz.prog 73 [rd2,.int .i64 1,.sl 2 [.int .i64 100,.int .i64 0]] (.int .i64 250) true:=by
 have c1:=DO;unfold rd2;constructor
 all_goals
  refine rcK Tz.func73 ?_;simp only[Tryz.results73,Tryz.ntmps73]
  repeat' (first|(with_reducible first|refine gh 40 ?_|refine gr ?_|refine dV ?_|refine af ?_|refine av ?_|refine az ?_|refine aJ ?_|refine ae ?_|refine aK (id:=6) 18 mixed (by decide +kernel) ?_|refine ak ?_|refine And.intro ?_ ?_|refine cw (c1) ?_|intro _)|(simp[*,Tw.bG])|(refine ai (c1) ?_ ?_;(· (simp[*];done))))
 all_goals first|exact cV (by decide)|(simp[touch];done)
theorem Lg:aA Tz.prog 25 [Tw.aR iZ] (.tup [.agg [.sl 2 [.int .i64 1,.int .i64 0],.int .i64 350,.sl 2 [.int .i64 200,.int .i64 250],.sl 2 [.int .i64 100,.int .i64 0]],.int .i64 0]) false:=by
 have c1:=qu;have c2:=Lb;have c3:=Lc;have r1:=FH (-1);have c4:aA Tz.prog 78 [rd2,.sl 2 [.int .i64 1,.int .i64 0]] (.int .i64 350) true:=DR.2;have c5:=tQ.1;have c6:=tQ.2;rw[m8] at *;unfold rd2 at *;simp only[ints,List.map] at c2;refine rcK Tz.func25 ?_;simp only[Tryz.results25,Tryz.ntmps25]
 repeat' (first|(with_reducible first|refine gh 40 ?_|refine gr ?_|refine dV ?_|refine af ?_|refine av ?_|refine az ?_|refine aJ ?_|refine ae ?_|refine aK (id:=5) 12 mixed (by decide +kernel) ?_|refine aK (id:=14) 12 mixed (by decide +kernel) ?_|refine aK (id:=19) 10 mixed (by decide +kernel) ?_|refine ak ?_|refine And.intro ?_ ?_|refine cw (c1) ?_|refine cw (c2) ?_|refine cw (c3) ?_|refine cwM (r1) ?_|refine cw (c4) ?_|refine cw (c5) ?_|refine cw (c6) ?_|intro _)|(simp[*])|(refine ai (c1) ?_ ?_;(· (simp[*];done)))|(refine ai (c2) ?_ ?_;(· (simp[*];done)))|(refine ai (c3) ?_ ?_;(· (simp[*];done)))|(refine ai (c4) ?_ ?_;(· (simp[*];done)))|(refine ai (c5) ?_ ?_;(· (simp[*];done)))|(refine ai (c6) ?_ ?_;(· (simp[*];done))))
 all_goals first|exact cV (by decide)|(simp[touch];done)
theorem Lh:aA Tz.prog 17 [Tw.aR iZ,.agg [.sl 2 [.int .i64 200,.int .i64 250],.sl 2 [.int .i64 100,.int .i64 0]]] (.tup [.int .i64 350,.int .i64 0]) true:=by
 have c1:=qu;have c5:=tQ.1;have c6:=tQ.2
 have u:∀e,aA Tz.prog 71 [.bool true,.int .i64 e] (.int .i64 0) true:=fun e=>cH true e
 have f:=DT;rw[m8] at *;unfold rd2 at *;refine rcK Tz.func17 ?_;simp only[Tryz.results17,Tryz.ntmps17]
 repeat' (first|(with_reducible first|refine gh 40 ?_|refine gr ?_|refine dV ?_|refine af ?_|refine av ?_|refine az ?_|refine aJ ?_|refine ae ?_|refine ak ?_|refine And.intro ?_ ?_|refine cw (c1) ?_|refine cw (c5) ?_|refine cw (c6) ?_|refine cw (u _) ?_|refine cw (f) ?_|refine cw (dL _ _ _) ?_|intro _)|(simp[*,aL])|(refine ai (c1) ?_ ?_;(· (simp[*];done)))|(refine ai (c5) ?_ ?_;(· (simp[*];done)))|(refine ai (c6) ?_ ?_;(· (simp[*];done)))|(refine ai (u _) ?_ ?_;(· (simp[*];done)))|(refine ai (f) ?_ ?_;(· (simp[*];done)))|(refine ai (dL _ _ _) ?_ ?_;(· (simp[*];done))))
 all_goals first|exact cV (by decide)|decide|(simp[touch];done)
noncomputable instance Yt:ar:=LD
@[simp] theorem FK:cL Tz.prog 153=some [.w false false .undef]:=by kernel_rfl
def uN:List AV:=[.ptr 0 1 0,.ptr 1 1 0,.ptr 4 1 0,.ptr 5 1 0]
theorem Li:aA Tz.prog 83 [rd2,.int .i64 100000] (.tup [.sl 2 [.int .i64 1,.int .i64 0],.int .i64 2]) true∧aA Tz.prog 83 [rd2,.int .i64 0] (.tup [.sl 2 [.int .i64 (-1),.int .i64 (-1)],.int .i64 0]) true∧aA Tz.prog 83 [rd2,.int .i64 100] (.tup [.sl 2 [.int .i64 0,.int .i64 (-1)],.int .i64 1]) true∧aA Tz.prog 83 [rd2,.int .i64 150] (.tup [.sl 2 [.int .i64 0,.int .i64 (-1)],.int .i64 1]) true∧aA Tz.prog 83 [rd2,.int .i64 200] (.tup [.sl 2 [.int .i64 1,.int .i64 0],.int .i64 2]) true:=by
 have r1:=FH (-1);unfold rd2 at *;refine⟨?_,?_,?_,?_,?_⟩
 all_goals
  refine rcK Tz.func83 ?_;simp only[Tryz.results83,Tryz.ntmps83]
  repeat' (first|((with_reducible refine tT (id:=6) 12 119 mixed (by decide +kernel) (by decide +kernel) Tz.func119 (by kernel_rfl) rfl rfl ?_);simp[*,uN,FK,cG,dp,eQ,oneOf];refine tR uN rfl (Nat.le_of_ble_eq_true (by kernel_rfl)) (by simp) rfl ?_)|(with_reducible first|refine tT (id:=8) 9 119 mixed (by decide +kernel) (by decide +kernel) Tz.func119 (by kernel_rfl) rfl rfl ?_|refine tR uN rfl (Nat.le_of_ble_eq_true (by kernel_rfl)) (by simp) rfl ?_|refine gh 40 ?_|refine gr ?_|refine dV ?_|refine af ?_|refine av ?_|refine az ?_|refine aJ ?_|refine ae ?_|refine aK (id:=4) 23 mixed (by decide +kernel) ?_|refine aK (id:=6) 14 mixed (by decide +kernel) ?_|refine ak ?_|refine And.intro ?_ ?_|refine cwM (r1) ?_|intro _)|(simp[*,uN,FK,cG,dp,eQ,oneOf]))
 all_goals first|exact cV (by decide)|(simp[touch];done)
end Go.Proofs.YthpkmilhiganjaaGreat
