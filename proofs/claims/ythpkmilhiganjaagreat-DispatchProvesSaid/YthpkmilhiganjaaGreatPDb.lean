/- Lemmas. -/
import Derived.Test.YthpkmilhiganjaaGreatPDa
import Derived.Test.YthpkmilhiganjaaGreatPLf
set_option linter.unusedSimpArgs false
set_option linter.unusedVariables false
set_option linter.unusedSectionVars false
set_option maxHeartbeats 32000000
set_option maxRecDepth 100000
namespace Go.Proofs.YthpkmilhiganjaaGreat
open Go Go.Fi
variable[ah]
def gu:Tw.RND where
 af:=[(⟨#[97]⟩,4,false),(⟨#[98]⟩,4,false)]
 os:=[(⟨#[112]⟩,1,false,0),(⟨#[113]⟩,1,false,0)]
 wt:=[[100,200],[150,400]]
 zs:=[]
 cr:=by
  refine⟨?_,?_,?_,by decide,by decide,by decide,by decide⟩
  ·intro c hc;simp only[List.mem_cons,List.not_mem_nil,or_false] at hc
   rcases hc with rfl|rfl<;>decide
  ·intro c hc;simp only[List.mem_cons,List.not_mem_nil,or_false] at hc
   rcases hc with rfl|rfl<;>decide
  ·intro c hc;simp only[List.mem_cons,List.not_mem_nil,or_false] at hc
   rcases hc with rfl|rfl<;>decide
theorem MS:az Tz.prog 68 [] (.agg [.sl 2 [.str ⟨#[97]⟩,.int .i64 4,.bool false,.str ⟨#[98]⟩,.int .i64 4,.bool false],.sl 2 [.str ⟨#[112]⟩,.int .i64 1,.bool false,.int .i64 0,.str ⟨#[113]⟩,.int .i64 1,.bool false,.int .i64 0],.sl 2 [.sl 2 [.int .i64 100,.int .i64 200],.sl 2 [.int .i64 150,.int .i64 400]],.sl 0 []]) false:=by
 refine rcK Tz.func68 ?_;simp only[Tryz.results68,Tryz.ntmps68]
 repeat' (first|(with_reducible first|refine ak ?_|refine aA ?_|refine aj ?_|intro _)|(simp[*]))
theorem kD:Tw.bn gu=.agg [.sl 2 [.str ⟨#[97]⟩,.int .i64 4,.bool false,.str ⟨#[98]⟩,.int .i64 4,.bool false],.sl 2 [.str ⟨#[112]⟩,.int .i64 1,.bool false,.int .i64 0,.str ⟨#[113]⟩,.int .i64 1,.bool false,.int .i64 0],.sl 2 [.sl 2 [.int .i64 100,.int .i64 200],.sl 2 [.int .i64 150,.int .i64 400]],.sl 0 []]:=rfl
@[simp] theorem To(l:List Int)(k:Nat):(ints l).take k=ints (l.take k):=by simp[ints,List.map_take]
def gv(x:Rd)(plan:List Int)(k:Nat)(n:Int):Int:=
 if n=-1 then 0 else if aR (bt n 0 ((x.af.length:Int)-1)) 6≠0 then aR (bt n 0 ((x.af.length:Int)-1)) 6 else
 bO [aR (nth (nth x.fit k) n.toNat) 13,aR (!((plan.take k).any fun y=>decide (n=y))) 26]
def eb(x:Rd)(plan:List Int):Int×Int:=if (plan.length:Int)≠x.os.length then (0,10) else dJ (gv x plan) plan 0
theorem HU(x:Rd)(plan:List Int)(hp:plan.length<100000)(hc:x.af.length<100000)(hf:x.fit.length=x.os.length)(hr:∀i,i<x.os.length→(nth x.fit i).length=x.af.length):az Tz.prog 111 [x.pv,.sl plan.length (ints plan)] (.tup [.int .i64 (eb x plan).1,.int .i64 (eb x plan).2]) true:=by
 have ce:=HR x hc;generalize hR:eb x plan=R;obtain⟨R1,R2⟩:=R;unfold eb at hR;have kR:=keep hR;have kr:=keep hr;have kce:=keep ce;clear hR hr ce;obtain⟨af,os,wt,zs,fit⟩:=x;unfold Rd.pv;simp only[] at hc hf ⊢;have kf:=keep hf;clear hf;refine rcK Tz.func111 ?_;simp only[Tryz.results111,Tryz.ntmps111]
 repeat' (first|(with_reducible first|refine ak ?_|refine aH ?_|refine aA ?_|refine aj ?_|refine aD ?_|refine And.intro ?_ ?_ |  refine gI ?_ ?_|intro _)|(simp[*]))
 rotate_right
 ·rename_i b1
  have kT:aP (dJ (gv ⟨af,os,wt,zs,fit⟩ plan) plan 0=(R1,R2)):=by
   rw[if_neg (by simpa using b1)] at kR;exact kR
  have kb:=keep b1;clear kR b1;refine cT (fun(k:Nat)=>k≤plan.length∧dJ (gv ⟨af,os,wt,zs,fit⟩ plan) (plan.drop k) k=(R1,R2)) [0,1,19,20] (fun(k:Nat)=>[(21,.w false false (.int .i64 k))]) [] (fun(k:Nat)=>[]) (fun(k:Nat)=>plan.length-k) (fun(_u:Unit)=>R1=0∧R2=0) [] (fun(_u:Unit)=>[]) [] (fun(_u:Unit)=>[]) (0) ⟨Nat.zero_le _,kT⟩ (by simp) (by simp) (fun k hk=>?_) (fun _u hf=>?_)
  ·obtain⟨hk,hj⟩:=hk;by_cases hlt:k<plan.length
   ·have hlo:k<os.length:=by have:=kb;unfold aP at this;omega
    have hlf:k<fit.length:=by have:=kf;unfold aP at this;omega
    have hrow:(nth fit k).length=af.length:=kr k hlo;rw[df plan k hlt,dJ] at hj;generalize hn:nth plan k=n at hj;have c1:=kce n;unfold Rd.pv at c1;simp only[] at c1;by_cases h1:n=-1
    ·have hE:gv ⟨af,os,wt,zs,fit⟩ plan k n=0:=by unfold gv;rw[if_pos h1]
     rw[if_pos hE] at hj;have kj:=keep hj;subst h1;clear hj hE c1 hlf hrow
     repeat' (first|(with_reducible first|refine ak ?_|refine bA ?_|refine aH ?_|refine bf ?_|refine aj ?_|refine aD ?_|refine And.intro ?_ ?_|intro _)|(simp[*,hlt,hlo,hn]))
     all_goals first
      |omega
      |exact bl (by omega) (by omega)
      |(refine nx (k+1) ?_ ?_;(· exact⟨by omega,kj⟩);(refine aX ?_ ?_<;>first|trivial|(simp[*];done)))
    ·cases hw:bt n 0 ((af.length:Int)-1) with
     |false=>
      have hE:gv ⟨af,os,wt,zs,fit⟩ plan k n=6:=by unfold gv;simp only[if_neg h1,hw];rfl
      rw[hE] at hj;rw[hw,show aR false 6=6 from rfl] at c1;have kj:aP (((k:Int),(6:Int))=(R1,R2)):=hj;clear hj hE hw hlf hrow
      repeat' (first|(with_reducible first|refine ak ?_|refine bA ?_|refine aH ?_|refine aA ?_|refine aj ?_|refine aD ?_|refine And.intro ?_ ?_|refine cw (c1) ?_|intro _)|(simp[*,hlt,hlo,hn,h1])|(refine ai (c1) ?_ ?_;(· (simp[*];done))))
      all_goals first
       |omega
       |exact bl (by omega) (by omega)
       |exact (Prod.mk.inj kj).1
       |exact (Prod.mk.inj kj).2
     |true=>
      have hb:0≤n∧n≤(af.length:Int)-1:=by simpa[bt] using hw
      obtain⟨m,rfl⟩:∃m:Nat,n=m:=⟨n.toNat,by omega⟩
      have hm:m<(nth fit k).length:=by omega
      have hE:gv ⟨af,os,wt,zs,fit⟩ plan k m=bO [aR (nth (nth fit k) m) 13,aR (!((plan.take k).any fun y=>decide ((m:Int)=y))) 26]:=by
       unfold gv;simp only[if_neg h1,hw];rfl
      rw[hE] at hj;rw[hw,show aR true 6=0 from rfl] at c1;have c2:=lQ (plan.take k) (by rw[List.length_take];omega) m;rw[List.length_take_of_le hk] at c2;have c3:=lP (aR (nth (nth fit k) m) 13) (aR (!((plan.take k).any fun y=>decide ((m:Int)=y))) 26);generalize bO [aR (nth (nth fit k) m) 13,aR (!((plan.take k).any fun y=>decide ((m:Int)=y))) 26]=e at hj c3;have kj:=keep hj;have hm2:(m:Int)≠-1:=h1;clear hj hE hw hb h1 hrow
      repeat' (first|(with_reducible first|refine ak ?_|refine bA ?_|refine aH ?_|refine aA ?_|refine aj ?_|refine bo (id:=10) 21 mixed (by decide +kernel) ?_|refine aD ?_|refine And.intro ?_ ?_ |  refine gI ?_ ?_|refine cw (c1) ?_|refine cw (c2) ?_|refine cw (c3) ?_|refine cw (bK _ _) ?_|intro _)|(simp[*,hlt,hlo,hlf,hm,hn,hm2])|(refine ai (c1) ?_ ?_;(· (simp[*];done)))|(refine ai (c2) ?_ ?_;(· (simp[*];done)))|(refine ai (c3) ?_ ?_;(· (simp[*];done)))|(refine ai (bK _ _) ?_ ?_;(· (simp[*];done))))
      all_goals first
       |omega
       |exact bl (by omega) (by omega)
       |(rename_i hp;rw[if_neg hp] at kj;exact (Prod.mk.inj kj).1)
       |(rename_i hp;rw[if_neg hp] at kj;exact (Prod.mk.inj kj).2)
       |(rename_i hp;rw[if_pos hp] at kj;(refine nx (k+1) ?_ ?_;(· exact⟨by omega,kj⟩);(refine aX ?_ ?_<;>first|trivial|(simp[*];done))))
   ·have hke:k=plan.length:=by omega
    rw[hke,List.drop_length] at hj;unfold dJ at hj;have kj:=keep hj
    have hlo:¬k<os.length:=by have:=kb;unfold aP at this;omega
    clear hj hke
    repeat' (first|(with_reducible first|refine ak ?_|refine bf ?_|refine aj ?_|refine aD ?_|intro _)|(simp[*,hlt,hlo]))
    all_goals first
     |omega
     |(refine bY () ?_ ?_;(· exact⟨(Prod.mk.inj kj).1.symm,(Prod.mk.inj kj).2.symm⟩);(refine aX ?_ ?_<;>first|trivial|(simp[*];done)))
  ·obtain⟨rfl,rfl⟩:=hf
   repeat' (first|(with_reducible first|refine ak ?_|refine aA ?_|refine aj ?_|intro _)|(simp[*]))
 all_goals first
  |(rename_i b1;rw[if_pos (by simpa using b1)] at kR;first|exact (Prod.mk.inj kR).1|exact (Prod.mk.inj kR).2)
theorem HV(x:Rd)(plan:List Int):az Tz.prog 86 [x.pv,.sl plan.length (ints plan)] (.fn 122 [.ip [.sl plan.length (ints plan)] 0,.ip [x.pv] 0]) false:=by
 generalize hx:x.pv=p;obtain⟨cs,rfl⟩:∃cs,p=.ip cs 0:=⟨_,hx.symm⟩;clear hx;refine rcK Tz.func86 ?_;simp only[Tryz.results86,Tryz.ntmps86]
 repeat' (first|(with_reducible first|refine ak ?_|refine aA ?_|refine aj ?_|intro _)|(simp[*]))
def eqF:List Int→List Int→Bool
 |[],[]=>true
 |a::r,b::s=>decide (a=b)&&eqF r s
 |_,_=>false
theorem Aq:∀(a b:List Int),eqF a b=decide (a=b)
 |[],[]=>rfl
 |[],b::s=>by simp[eqF]
 |a::r,[]=>by simp[eqF]
 |a::r,b::s=>by simp[eqF,Aq r s]
theorem HW(a b:List Int)(ha:a.length<100000):az Tz.prog 52 [.sl a.length (ints a),.sl b.length (ints b)] (.bool (eqF a b)) true:=by
 generalize hR:eqF a b=R;have kR:=keep hR;clear hR;by_cases hl:a.length=b.length
 ·have kl:=keep hl
  have kb:aP (b.length<100000):=by show b.length<100000;omega
  rw[hl]
  have kl2:aP ((a.length:Int)=b.length):=by show (a.length:Int)=b.length;omega
  clear hl ha;refine rcK Tz.func52 ?_;simp only[Tryz.results52,Tryz.ntmps52]
  repeat' (first|(with_reducible first|refine ak ?_|refine aH ?_|refine aj ?_|refine aD ?_|intro _)|(simp[*]))
  refine cT (fun(k:Nat)=>k≤b.length∧eqF (a.drop k) (b.drop k)=R) [0,1] (fun(k:Nat)=>[(5,.w false false (.int .i64 k))]) [] (fun(k:Nat)=>[]) (fun(k:Nat)=>b.length-k) (fun(_u:Unit)=>R=true) [] (fun(_u:Unit)=>[]) [] (fun(_u:Unit)=>[]) (0) ⟨Nat.zero_le _,kR⟩ (by simp) (by simp) (fun k hk=>?_) (fun _u hf=>?_)
  ·obtain⟨hk,hj⟩:=hk;have hlen:a.length=b.length:=kl;have hb:b.length<100000:=kb;by_cases hlt:k<b.length
   ·have hla:k<a.length:=by omega
    rw[df a k hla,df b k hlt] at hj;unfold eqF at hj;have kj:=keep hj;clear hj hlen
    repeat' (first|(with_reducible first|refine ak ?_|refine bA ?_|refine aH ?_|refine aA ?_|refine aj ?_|refine bo (id:=6) 9 mixed (by decide +kernel) ?_|refine aD ?_|refine And.intro ?_ ?_ |  refine gI ?_ ?_|intro _)|(simp[*,hlt,hla]))
    all_goals first
     |omega
     |exact bl (by omega) (by omega)
     |(rename_i hp;rw[show decide (nth a k=nth b k)=false by simpa using hp] at kj;simpa[aP] using kj)
     |(rename_i hp;rw[show decide (nth a k=nth b k)=true by simpa using hp] at kj;(refine nx (k+1) ?_ ?_;(· exact⟨by omega,by simpa[aP] using kj⟩);(refine aX ?_ ?_<;>first|trivial|(simp[*];done))))
   ·have hke:k=b.length:=by omega
    have hka:k=a.length:=by omega
    rw[show b.drop k=[] from List.drop_eq_nil_of_le (by omega),show a.drop k=[] from List.drop_eq_nil_of_le (by omega)] at hj;have kj:=keep hj;clear hj hke hka hlen
    repeat' (first|(with_reducible first|refine ak ?_|refine bf ?_|refine aj ?_|refine aD ?_|intro _)|(simp[*,hlt]))
    all_goals first
     |omega
     |(refine bY () ?_ ?_;(· exact kj.symm);(refine aX ?_ ?_<;>first|trivial|(simp[*];done)))
  ·subst hf
   repeat' (first|(with_reducible first|refine ak ?_|refine aA ?_|refine aj ?_|intro _)|(simp[*]))
 ·have hRf:R=false:=by
   rw[←show eqF a b=R from kR,Aq];simp only[decide_eq_false_iff_not];intro e;exact hl (by rw[e])
  subst hRf
  have h2:¬((a.length:Int)=b.length):=by omega
  clear kR;refine rcK Tz.func52 ?_;simp only[Tryz.results52,Tryz.ntmps52]
  repeat' (first|(with_reducible first|refine ak ?_|refine aA ?_|refine aj ?_|refine aD ?_|intro _)|(simp[*,h2,hl]))
theorem MU:Tz.prog.underlying 28=some (.slice 3):=by kernel_rfl
theorem Ar(l:List Int)(x:PV)(hx:x∈ints l):flat x=true:=by
 obtain⟨n,_,rfl⟩:=List.mem_map.1 hx;rfl
theorem u6:∀l:List Int,bB (List.map (AV.w false false) (ints l))=true
 |[]=>rfl
 |_::l=>u6 l
theorem HX(l:List Int)(h:l.length<100000):az Tz.prog 97 [.sl l.length (ints l)] (.sl l.length (ints l)) true:=by
 refine rcK Tz.func97 ?_;simp only[Tryz.results97,Tryz.ntmps97];refine ak ?_;refine aj ?_;simp;refine ak ?_;refine ak ?_;refine Hu (ow:=false) (fl:=false) (k:=l.length) (cells:=ints l) MU ?_ ?_ ?_ ?_
 ·simp
 ·decide
 ·decide
 intro b hb
 cases b with
 |true=>
  have hl:l=[]:=List.eq_nil_of_length_eq_zero (hb rfl).1;subst hl
  repeat' (first|(with_reducible first|refine ak ?_|refine aA ?_|refine aj ?_|refine aD ?_|intro _)|(simp[*,ints]))
 |false=>
  clear hb
  repeat' (first|(with_reducible first|refine ak ?_|refine aH ?_|refine aA ?_|refine aj ?_|refine aD ?_|refine And.intro ?_ ?_|intro _)|(simp[*]))
  all_goals first|omega|(rename_i hx;exact Ar l _ hx)|exact u6 l
theorem qz(l:List Int)(h:l.length<10000000):az Tz.prog 24 [.sl l.length (ints l)] (.sl l.length (ints l)) true:=by
 refine rcK Tz.func24 ?_;simp only[Tryz.results24,Tryz.ntmps24]
 repeat' (first|(with_reducible first|refine ak ?_|refine aA ?_|refine aj ?_|refine And.intro ?_ ?_|intro _)|(simp[*]))
 all_goals first|omega|(rename_i hx;exact Ar l _ hx)|exact u6 l
theorem HY{α:Type}[Inhabited α](l:List α)(k:Nat)(h:k<l.length):l.take (k+1)=l.take k++[nth l k]:=by
 rw[List.take_succ_eq_append_getElem h];simp[nth,List.getD_eq_getElem?_getD,List.getElem?_eq_getElem h]
def cpA(m:List (List Int))(k:Nat):List AV:=(b8 (m.take k)).map (.w true false)
theorem As(m:List (List Int))(k:Nat)(h:k≤m.length):(cpA m k).length=k:=by
 simp[cpA,Nat.min_eq_left h]
@[simp] theorem Tp(m:List (List Int)):cpA m 0=[]:=rfl
theorem At(m:List (List Int))(k:Nat)(h:k<m.length):cpA m (k+1)=cpA m k++[.w true false (.sl (nth m k).length (ints (nth m k)))]:=by
 unfold cpA b8;rw[HY m k h,List.map_append,List.map_append];rfl
@[simp] theorem Tq{D:List Nat}{h:ab}{n n':Nat}(m:List (List Int))(k:Nat):gr D h n n' (cpA m k) (cpA m k)=True:=eq_true (zZ true false _)
theorem HZ(m:List (List Int)):cpA m m.length=(b8 m).map (.w true false):=by simp[cpA]
theorem H0(m:List (List Int))(hl:m.length<100000)(hrow:∀w∈m,w.length<100000):az Tz.prog 74 [.sl m.length (b8 m)] (.sl m.length (b8 m)) true:=by
 refine rcK Tz.func74 ?_;simp only[Tryz.results74,Tryz.ntmps74]
 repeat' (first|(with_reducible first|refine ak ?_|refine aj ?_|intro _)|(simp[*]))
 refine uU 1 (fun(k:Nat)=>k≤m.length) [0] (fun(k:Nat)=>[(3,.msl 0 k 1 0 k),(4,.w false false (.int .i64 k))]) [] (fun(k:Nat)=>[(0,cpA m k)]) (fun(k:Nat)=>m.length-k) (fun(_u:Unit)=>True) [] (fun(_u:Unit)=>[(3,.msl 0 m.length 1 0 m.length)]) [] (fun(_u:Unit)=>[(0,cpA m m.length)]) (0) (Nat.zero_le _) (iG [] (by simp) (by simp)) (fun k hk=>?_) (fun _u hf=>?_)
 ·by_cases hlt:k<m.length
  ·have hr1:=hrow (nth m k) (by rw[nth,List.getD_eq_getElem?_getD,List.getElem?_eq_getElem hlt];exact List.getElem_mem _);clear hrow;have cc:=qz (nth m k) (by omega);have hlen:=As m k hk;have ks:=keep (At m k hlt)
   repeat' (first|(with_reducible first|refine ak ?_|refine uQ ?_|refine aH ?_|refine aj ?_|refine aD ?_|refine And.intro ?_ ?_|refine cw (cc) ?_|intro _)|(simp[*,hlt,hlen])|(refine ai (cc) ?_ ?_;(· (simp[*];done))))
   all_goals first
    |exact bl (by omega) (by omega)
    |omega
    |(refine nx (k+1) ?_ ?_;(· omega);(refine iG [] ?_ ?_<;>first|trivial|(simp[*,ks,At m k hlt];done)))
  ·have hke:k=m.length:=by omega
   subst hke
   repeat' (first|(with_reducible first|refine ak ?_|refine bf ?_|refine aj ?_|refine aD ?_|intro _)|(simp[*]))
   all_goals first
    |(refine bY () ?_ ?_;(· trivial);(refine iG [] ?_ ?_<;>first|trivial|(simp[*];done)))
 ·have hlen:=As m m.length (Nat.le_refl _);rw[HZ]
  repeat' (first|(with_reducible first|refine ak ?_|refine aA ?_|refine aj ?_|intro _)|(simp[*,hlen]))
theorem Au(l:List Car)(x:PV)(hx:x∈bF l):flat x=true∧od x=true:=by
 obtain⟨c,_,hx⟩:=List.mem_flatMap.1 hx;simp only[Tw.bW,List.mem_cons,List.not_mem_nil,or_false] at hx
 rcases hx with rfl|rfl|rfl<;>exact⟨rfl,rfl⟩
theorem Av(l:List Ord)(x:PV)(hx:x∈bD l):flat x=true∧od x=true:=by
 obtain⟨c,_,hx⟩:=List.mem_flatMap.1 hx;simp only[Tw.bE,List.mem_cons,List.not_mem_nil,or_false] at hx
 rcases hx with rfl|rfl|rfl|rfl<;>exact⟨rfl,rfl⟩
theorem Ax(l:List Par)(x:PV)(hx:x∈bH l):flat x=true∧od x=true:=by
 obtain⟨c,_,hx⟩:=List.mem_flatMap.1 hx;simp only[Tw.cL,List.mem_cons,List.not_mem_nil,or_false] at hx
 rcases hx with rfl|rfl<;>exact⟨rfl,rfl⟩
theorem H2(r:Tw.RND):az Tz.prog 18 [Tw.bn r] (Tw.bn r) true:=by
 obtain⟨af,os,wt,zs,cr⟩:=r;obtain⟨f1,f2,f3,f4,f5,f6,f7⟩:=cr;have c1:=H0 wt f6 f3;unfold Tw.bn Tw.RND.dV Tw.RND.osP Tw.RND.eH Tw.RND.zsP Tw.RND.nw Tw.RND.wait;simp only[]
 change az Tz.prog 18 [.agg [.sl af.length (bF af),.sl os.length (bD os),.sl wt.length (b8 wt),.sl zs.length (bH zs)]] (.agg [.sl af.length (bF af),.sl os.length (bD os),.sl wt.length (b8 wt),.sl zs.length (bH zs)]) true
 clear f1 f2 f3 f6;refine rcK Tz.func18 ?_;simp only[Tryz.results18,Tryz.ntmps18]
 repeat' (first|(with_reducible first|refine ak ?_|refine aA ?_|refine aj ?_|refine qo (id:=1) [0,1,2,4,5,6,8,9,11,12,13] [3,7,10,14,15,16] [[],[],[],[.new 0],[.new 0],[.new 0],[.new 0,.new 1],[.new 0,.new 1],[.new 0,.new 1],[.new 0,.new 1],[.new 0,.new 1]] [[.new 0],[.new 1],[],[.new 2],[],[.slot 2]] mixed (by decide +kernel) ?_|refine And.intro ?_ ?_|refine cw (c1) ?_|intro _)|(simp[*])|(refine ai (c1) ?_ ?_;(· (simp[*];done))))
 all_goals first
  |omega
  |(rename_i hx;first|exact (Au _ _ hx).1|exact (Av _ _ hx).1|exact (Ax _ _ hx).1)
  |(refine Ab false false _ (List.all_eq_true.2 fun y hy=>?_);first|exact (Au _ _ hy).2|exact (Av _ _ hy).2|exact (Ax _ _ hy).2)
theorem H3(po pc:List Int)(h1:po.length<100000)(h2:pc.length<100000):az Tz.prog 19 [.agg [.sl po.length (ints po),.sl pc.length (ints pc)]] (.agg [.sl po.length (ints po),.sl pc.length (ints pc)]) true:=by
 have c1:=qz po (by omega);have c2:=qz pc (by omega);refine rcK Tz.func19 ?_;simp only[Tryz.results19,Tryz.ntmps19]
 repeat' (first|(with_reducible first|refine ak ?_|refine aA ?_|refine aj ?_|refine bo (id:=1) 7 mixed (by decide +kernel) ?_|refine And.intro ?_ ?_|refine cw (c1) ?_|refine cw (c2) ?_|intro _)|(simp[*])|(refine ai (c1) ?_ ?_;(· (simp[*];done)))|(refine ai (c2) ?_ ?_;(· (simp[*];done))))
def dK{α:Type}(p:α→Bool)(l:List α)(k:Nat):Bool:=(l.drop k).all p
theorem u7{α:Type}[Inhabited α]{p:α→Bool}{l:List α}{k:Nat}(h:k<l.length):dK p l k=(p (nth l k)&&dK p l (k+1)):=by
 unfold dK;rw[df l k h];rfl
theorem u9{α:Type}(p:α→Bool)(l:List α):dK p l l.length=true:=by
 unfold dK;rw[List.drop_length];rfl
def Cu(c o w z:Nat):Bool:=decide (¬(((4<c∧c≤8)∨10<c)∨((4<o∧o≤8)∨10<o)∨12<w∨66<z))
def mH(af:List Car)(os:List Ord)(wt:List (List Int))(zs:List Par):Bool:=
 Cu af.length os.length wt.length zs.length&&(af.all (fun x:Car=>decide (x.1.size≤20))&&(os.all (fun x:Ord=>decide (x.1.size≤20))&&wt.all (fun w:List Int=>decide (w.length≤10))))
theorem MW(af:List Car)(os:List Ord)(wt:List (List Int))(zs:List Par):az Tz.prog 16 [.agg [.sl af.length (bF af),.sl os.length (bD os),.sl wt.length (b8 wt),.sl zs.length (bH zs)]] (.bool (mH af os wt zs)) true:=by
 unfold mH;have hA0:af.all (fun x:Car=>decide (x.1.size≤20))=dK (fun x:Car=>decide (x.1.size≤20)) af 0:=rfl;have hA2:os.all (fun x:Ord=>decide (x.1.size≤20))=dK (fun x:Ord=>decide (x.1.size≤20)) os 0:=rfl;have hA4:wt.all (fun w:List Int=>decide (w.length≤10))=dK (fun w:List Int=>decide (w.length≤10)) wt 0:=rfl;rw[hA0,hA2,hA4];clear hA0 hA2 hA4;generalize hA0:dK (fun x:Car=>decide (x.1.size≤20)) af 0=A0;generalize hA2:dK (fun x:Ord=>decide (x.1.size≤20)) os 0=A2;generalize hA4:dK (fun w:List Int=>decide (w.length≤10)) wt 0=A4;have kA0:=keep hA0;have kA2:=keep hA2;have kA4:=keep hA4;clear hA0 hA2 hA4
 cases hS:Cu af.length os.length wt.length zs.length with
 |false=>
  have hS:=of_decide_eq_false hS;have kS:=keep hS;clear hS;simp only[Bool.false_and];refine rcK Tz.func16 ?_;simp only[Tryz.results16,Tryz.ntmps16]
  repeat' (first|(with_reducible first|refine ak ?_|refine aH ?_|refine aA ?_|refine aj ?_|refine aD ?_|refine G5 ?_ ?_|refine G4 ?_ ?_|refine kC ?_ ?_|intro _)|(simp[*]))
  all_goals (exfalso;have hS:=kS;unfold aP at hS;omega)
 |true=>
  have hS:=of_decide_eq_true hS
  have l1:af.length≤10:=by omega
  have l2:os.length≤10:=by omega
  have l3:wt.length≤12:=by omega
  have kS:=keep hS;clear hS;simp only[Bool.true_and]
  have w5:¬(66:Int)<zs.length:=by have hS:=kS;unfold aP at hS;omega
  have w6:¬(12:Int)<wt.length:=by omega
  have w7:¬(10:Int)<af.length:=by omega
  have w8:¬(10:Int)<os.length:=by omega
  have key:((¬(4:Int)<af.length)∨((4:Int)<af.length∧¬(af.length:Int)≤8)):=by have hS:=kS;unfold aP at hS;omega
  have key2:((¬(4:Int)<os.length)∨((4:Int)<os.length∧¬(os.length:Int)≤8)):=by have hS:=kS;unfold aP at hS;omega
  clear kS hS
  rcases key with g1|⟨g1,g2⟩<;>rcases key2 with g3|⟨g3,g4⟩
  all_goals
   refine rcK Tz.func16 ?_;simp only[Tryz.results16,Tryz.ntmps16]
   repeat' (first|(with_reducible first|refine ak ?_|refine aH ?_|refine aj ?_|refine aD ?_|intro _)|(simp[*]))
   have kk:=keep (And.intro w5 (And.intro w6 (And.intro w7 w8)));clear w5 w6 w7 w8;refine cT (fun(k:Nat)=>k≤af.length∧dK (fun x:Car=>decide (x.1.size≤20)) af k=A0) [1] (fun(k:Nat)=>[(3,.w false false (.int .i64 k))]) [0] (fun(k:Nat)=>[]) (fun(k:Nat)=>af.length-k) (fun(_u:Unit)=>A0=true) [1] (fun(_u:Unit)=>[]) [0] (fun(_u:Unit)=>[]) (0) ⟨Nat.zero_le _,kA0⟩ (by simp) (by simp) (fun k hk=>?_) (fun _u hf=>?_)
   ·obtain⟨hk,hj⟩:=hk;by_cases hlt:k<af.length
    ·rw[u7 hlt] at hj;by_cases hr:20<((nth af k).1.size:Int)
     ·have hA:A0=false:=by rw[←hj];simp;omega
      clear hj kA0;subst hA
      repeat' (first|(with_reducible first|refine ak ?_|refine bA ?_|refine aH ?_|refine aA ?_|refine aj ?_|refine aD ?_|intro _)|(simp[*,hlt,hr]))
      all_goals first|exact bl (by omega) (by omega)|omega|(simp;done)
     ·have kj:aP (dK (fun x:Car=>decide (x.1.size≤20)) af (k+1)=A0):=keep (by rw[←hj,decide_eq_true (show (nth af k).1.size≤20 by omega),Bool.true_and]);clear hj
      repeat' (first|(with_reducible first|refine ak ?_|refine bA ?_|refine aH ?_|refine aj ?_|refine aD ?_|refine And.intro ?_ ?_|intro _)|(simp[*,hlt,hr]))
      all_goals first
       |exact bl (by omega) (by omega)
       |omega
       |(refine nx (k+1) ?_ ?_;(· exact⟨by omega,kj⟩);(refine aX ?_ ?_<;>first|trivial|(simp[*];done)))
    ·have hke:k=af.length:=by omega
     subst hke;rw[u9] at hj;have kj:=keep hj.symm;clear hj kA0
     repeat' (first|(with_reducible first|refine ak ?_|refine bf ?_|refine aj ?_|refine aD ?_|intro _)|(simp[*]))
     all_goals (refine bY () ?_ ?_;(· exact kj);(refine aX ?_ ?_<;>first|trivial|(simp[*];done)))
   ·subst hf;clear kA0;simp only[Bool.true_and]
    repeat' (first|(with_reducible first|refine ak ?_|refine aj ?_|intro _)|(simp[*]))
    refine cT (fun(k:Nat)=>k≤os.length∧dK (fun x:Ord=>decide (x.1.size≤20)) os k=A2) [1] (fun(k:Nat)=>[(4,.w false false (.int .i64 k))]) [0] (fun(k:Nat)=>[]) (fun(k:Nat)=>os.length-k) (fun(_u:Unit)=>A2=true) [1] (fun(_u:Unit)=>[]) [0] (fun(_u:Unit)=>[]) (0) ⟨Nat.zero_le _,kA2⟩ (by simp) (by simp) (fun k hk=>?_) (fun _u hf=>?_)
    ·obtain⟨hk,hj⟩:=hk;by_cases hlt:k<os.length
     ·rw[u7 hlt] at hj;by_cases hr:20<((nth os k).1.size:Int)
      ·have hA:A2=false:=by rw[←hj];simp;omega
       clear hj kA2;subst hA
       repeat' (first|(with_reducible first|refine ak ?_|refine bA ?_|refine aH ?_|refine aA ?_|refine aj ?_|refine aD ?_|intro _)|(simp[*,hlt,hr]))
       all_goals first|exact bl (by omega) (by omega)|omega|(simp;done)
      ·have kj:aP (dK (fun x:Ord=>decide (x.1.size≤20)) os (k+1)=A2):=keep (by rw[←hj,decide_eq_true (show (nth os k).1.size≤20 by omega),Bool.true_and]);clear hj
       repeat' (first|(with_reducible first|refine ak ?_|refine bA ?_|refine aH ?_|refine aj ?_|refine aD ?_|refine And.intro ?_ ?_|intro _)|(simp[*,hlt,hr]))
       all_goals first
        |exact bl (by omega) (by omega)
        |omega
        |(refine nx (k+1) ?_ ?_;(· exact⟨by omega,kj⟩);(refine aX ?_ ?_<;>first|trivial|(simp[*];done)))
     ·have hke:k=os.length:=by omega
      subst hke;rw[u9] at hj;have kj:=keep hj.symm;clear hj kA2
      repeat' (first|(with_reducible first|refine ak ?_|refine bf ?_|refine aj ?_|refine aD ?_|intro _)|(simp[*]))
      all_goals (refine bY () ?_ ?_;(· exact kj);(refine aX ?_ ?_<;>first|trivial|(simp[*];done)))
    ·subst hf;clear kA2;simp only[Bool.true_and]
     repeat' (first|(with_reducible first|refine ak ?_|refine aj ?_|intro _)|(simp[*]))
     refine cT (fun(k:Nat)=>k≤wt.length∧dK (fun w:List Int=>decide (w.length≤10)) wt k=A4) [1] (fun(k:Nat)=>[(5,.w false false (.int .i64 k))]) [0] (fun(k:Nat)=>[]) (fun(k:Nat)=>wt.length-k) (fun(_u:Unit)=>A4=true) [] (fun(_u:Unit)=>[]) [0] (fun(_u:Unit)=>[]) (0) ⟨Nat.zero_le _,kA4⟩ (by simp) (by simp) (fun k hk=>?_) (fun _u hf=>?_)
     ·obtain⟨hk,hj⟩:=hk;by_cases hlt:k<wt.length
      ·rw[u7 hlt] at hj;by_cases hr:10<((nth wt k).length:Int)
       ·have hA:A4=false:=by rw[←hj];simp;omega
        clear hj kA4;subst hA
        repeat' (first|(with_reducible first|refine ak ?_|refine bA ?_|refine aH ?_|refine aA ?_|refine aj ?_|refine aD ?_|intro _)|(simp[*,hlt,hr]))
        all_goals first|exact bl (by omega) (by omega)|omega|(simp;done)
       ·have kj:aP (dK (fun w:List Int=>decide (w.length≤10)) wt (k+1)=A4):=keep (by rw[←hj,decide_eq_true (show (nth wt k).length≤10 by omega),Bool.true_and]);clear hj
        repeat' (first|(with_reducible first|refine ak ?_|refine bA ?_|refine aH ?_|refine aj ?_|refine aD ?_|refine And.intro ?_ ?_|intro _)|(simp[*,hlt,hr]))
        all_goals first
         |exact bl (by omega) (by omega)
         |omega
         |(refine nx (k+1) ?_ ?_;(· exact⟨by omega,kj⟩);(refine aX ?_ ?_<;>first|trivial|(simp[*];done)))
      ·have hke:k=wt.length:=by omega
       subst hke;rw[u9] at hj;have kj:=keep hj.symm;clear hj kA4
       repeat' (first|(with_reducible first|refine ak ?_|refine bf ?_|refine aj ?_|refine aD ?_|intro _)|(simp[*]))
       all_goals (refine bY () ?_ ?_;(· exact kj);(refine aX ?_ ?_<;>first|trivial|(simp[*];done)))
     ·subst hf
      repeat' (first|(with_reducible first|refine ak ?_|refine aA ?_|refine aj ?_|intro _)|(simp[*]))
theorem H5{af:List Car}{os:List Ord}{wt:List (List Int)}{zs:List Par}(h:mH af os wt zs=true):(af.length≤10∧(8<af.length∨af.length≤4))∧(os.length≤10∧(8<os.length∨os.length≤4))∧wt.length≤12∧zs.length≤66∧(∀c∈af,c.1.size≤20)∧(∀o∈os,o.1.size≤20)∧∀w∈wt,w.length≤10:=by
 unfold mH at h;simp only[Bool.and_eq_true,List.all_eq_true,decide_eq_true_eq] at h;obtain⟨h1,h2,h3,h4⟩:=h;have h1:=of_decide_eq_true h1;exact⟨⟨by omega,by omega⟩,⟨by omega,by omega⟩,by omega,by omega,h2,h3,h4⟩
def mI(af:List Car)(os:List Ord)(wt:List (List Int))(zs:List Par)(h:mH af os wt zs=true):Tw.RND:=⟨af,os,wt,zs,by
 obtain⟨⟨h1,_⟩,⟨h2,_⟩,h3,h4,h5,h6,h7⟩:=H5 h
 exact⟨fun c hc=>by have:=h5 c hc;omega,fun c hc=>by have:=h6 c hc;omega,fun c hc=>by have:=h7 c hc;omega,by omega,by omega,by omega,by omega⟩⟩
end Go.Proofs.YthpkmilhiganjaaGreat
namespace Go.Proofs.YthpkmilhiganjaaGreat
open Go Go.Fi
noncomputable instance instLD14:ah:=LD
theorem Ay(r:Tw.RND):(ba r).fit.length=(ba r).os.length:=by simp[ba]
theorem H6(r:Tw.RND)(i:Nat):(Tw.iZ r i).length=r.af.length:=by
 simp[Tw.iZ,Tw.wi,Tw.fh,Tw.odR]
theorem Az(r:Tw.RND)(i:Nat)(h:i<(ba r).os.length):(nth (ba r).fit i).length=(ba r).af.length:=by
 have hi:i<r.os.length:=h;simp only[ba,nth,List.getD_eq_getElem?_getD,List.getElem?_map,List.getElem?_range hi,Option.map_some,Option.getD_some];exact H6 r i
theorem H7(r:Tw.RND):(ba r).af.length<100000:=r.cr.2.2.2.1
theorem H8(r:Tw.RND)(plan:List Int)(hp:plan.length<100000)(h:ceR r=0):az Tz.prog 77 [Tw.bn r,.sl plan.length (ints plan)] (.tup [(ba r).pv,.int .i64 (eb (ba r) plan).2]) false:=by
 have c1:=jc r;rw[nG r h] at c1;have c2:=HU (ba r) plan hp (H7 r) (Ay r) (Az r);generalize eb (ba r) plan=R at *;obtain⟨R1,R2⟩:=R;generalize ba r=x at *;unfold Tw.bn Rd.pv at *;simp only[] at *;generalize r.dV=p1 at *;generalize r.osP=p2 at *;generalize r.eH=p3 at *;generalize r.zsP=p4 at *;clear h;refine rcK Tz.func77 ?_;simp only[Tryz.results77,Tryz.ntmps77]
 repeat' (first|(with_reducible first|refine ak ?_|refine aA ?_|refine aj ?_|refine aD ?_|refine And.intro ?_ ?_|refine cw (c1) ?_|refine cw (c2) ?_|intro _)|(simp[*])|(refine ai (c1) ?_ ?_;(· (simp[*];done)))|(refine ai (c2) ?_ ?_;(· (simp[*];done))))
theorem H9(r:Tw.RND)(plan:List Int)(h:ceR r≠0):az Tz.prog 77 [Tw.bn r,.sl plan.length (ints plan)] (.tup [.cJ,.int .i64 (ceR r)]) false:=by
 have c1:=jc r;rw[Ao r h] at c1;generalize ceR r=e at *;unfold Tw.bn at *;generalize r.dV=p1 at *;generalize r.osP=p2 at *;generalize r.eH=p3 at *;generalize r.zsP=p4 at *;refine rcK Tz.func77 ?_;simp only[Tryz.results77,Tryz.ntmps77]
 repeat' (first|(with_reducible first|refine ak ?_|refine aH ?_|refine aA ?_|refine aj ?_|refine aD ?_|refine And.intro ?_ ?_|refine cw (c1) ?_|intro _)|(simp[*])|(refine ai (c1) ?_ ?_;(· (simp[*];done))))
theorem nH{α:Type}[Inhabited α]{E:Nat→α→Int}:∀{l:List α}{k:Nat},(dJ E l k).2=0→∀j,j<l.length→E (k+j) (nth l j)=0
 |[],k,_,j,hj=>absurd hj (by simp)
 |x::r,k,h,j,hj=>by
  unfold dJ at h;by_cases he:E k x=0
  ·rw[if_pos he] at h
   cases j with
   |zero=>exact he
   |succ j=>
    have:=nH h j (by simpa using hj);rw[show k+(j+1)=k+1+j by omega];exact this
  ·rw[if_neg he] at h;exact absurd h he
theorem va{α:Type}[Inhabited α]{nm:α→ByteArray}{mr:α→Int}{l:List α}:∀{r:List α}{k:Nat},(eJ nm mr l r k).2=0→∀j,j<r.length→mF nm mr l (k+j) (nth r j)=0
 |[],k,_,j,hj=>absurd hj (by simp)
 |x::r,k,h,j,hj=>by
  unfold eJ at h;by_cases he:mF nm mr l k x=0
  ·rw[if_pos he] at h
   cases j with
   |zero=>exact he
   |succ j=>
    have:=va h j (by simpa using hj);rw[show k+(j+1)=k+1+j by omega];exact this
  ·rw[if_neg he] at h;exact absurd h he
theorem dg{e:Int}{r:List Int}(h:bO (e::r)=0):e=0∧bO r=0:=by
 unfold bO at h;split at h
 ·rename_i he;exact⟨he,h⟩
 ·rename_i he;exact absurd h he
theorem eY{b:Bool}{e:Int}(he:e≠0)(h:aR b e=0):b=true:=by
 unfold aR at h
 cases b with
 |true=>rfl
 |false=>exact absurd h he
theorem gJ{n lo hi:Int}:bt n lo hi=true↔lo≤n∧n≤hi:=by simp[bt]
theorem not_true{b:Bool}(h:(!b)=true):b=false:=by cases b<;>simp_all
structure lh(x:Rd):Prop where
 lc:x.af.length≤8
 lo:x.os.length≤8
 lw:x.wt.length=x.os.length
 lz:x.zs.length≤64
 lf:x.fit.length=x.os.length
 fr:∀i,i<x.os.length→(nth x.fit i).length=x.af.length
 wr:∀i,i<x.os.length→(nth x.wt i).length=x.af.length
 wn:∀i,i<x.os.length→∀k,k<x.af.length→0≤nth (nth x.wt i) k∧nth (nth x.wt i) k≤100000
 sc:∀k,k<x.af.length→1≤(nth x.af k).2.1∧(nth x.af k).2.1≤8
 so:∀i,i<x.os.length→1≤(nth x.os i).2.1∧(nth x.os i).2.1≤8
 pr:∀i,i<x.os.length→0≤(nth x.os i).2.2.2∧(nth x.os i).2.2.2≤6
 nc:∀k,k<x.af.length→fw (nth x.af k).1=true∧((x.af.take k).any fun y=>decide (y.1=(nth x.af k).1))=false
 no:∀k,k<x.os.length→fw (nth x.os k).1=true∧((x.os.take k).any fun y=>decide (y.1=(nth x.os k).1))=false
 zr:∀j,j<x.zs.length→(0≤(nth x.zs j).1∧(nth x.zs j).1≤(x.os.length:Int)-1)∧(0≤(nth x.zs j).2∧(nth x.zs j).2≤(x.af.length:Int)-1)
theorem wB(r:Tw.RND)(h:ceR r=0):lh (ba r):=by
 unfold ceR jY at h;split at h
 ·simp at h
 rename_i g1;split at h
 ·rename_i h2;exact absurd h h2
 rename_i g2;split at h
 ·simp at h
 rename_i g3;split at h
 ·rename_i h2;exact absurd h h2
 rename_i g4;split at h
 ·simp at h
 rename_i g5;have hcont:=An h
 have hw:(dJ (fun _=>mG r.af.length) r.wt 0).2=0:=by
  unfold fV at h;split at h
  ·rename_i h1;exact absurd h h1
  ·rename_i h1;simpa using h1
 rw[hcont] at h;unfold lg at h;split at h
 ·simp at h
 rename_i g6;have g2':(eJ Prod.fst fz r.af r.af 0).2=0:=Classical.not_not.1 g2;have g4':(eJ Prod.fst fA r.os r.os 0).2=0:=Classical.not_not.1 g4
 have C:=fun j hj=>va g2' j hj
 have O:=fun j hj=>va g4' j hj
 have W:=fun j hj=>nH hw j hj
 have Z:=fun j hj=>nH h j hj
 simp only[Nat.zero_add] at C O W Z
 have hlw:r.wt.length=r.os.length:=by omega
 have wait:∀i,i<r.os.length→(nth r.wt i).length=r.af.length∧((nth r.wt i).any fun x=>!bt x 0 100000)=false:=fun i hi=>by
  have:=W i (by omega);unfold mG at this;obtain⟨w1,w2⟩:=dg this;obtain⟨w2,_⟩:=dg w2;refine⟨?_,?_⟩
  ·have:=eY (by decide) w1;have:=of_decide_eq_true this;omega
  ·simpa using eY (by decide) w2
 refine⟨by show r.af.length≤8;omega,by show r.os.length≤8;omega,hlw,by show r.zs.length≤64;omega,Ay r,Az r,fun i hi=>(wait i hi).1,fun i hi k hk=>?_,fun k hk=>?_,fun i hi=>?_,fun i hi=>?_,fun k hk=>?_,fun k hk=>?_,fun j hj=>?_⟩
 ·obtain⟨w1,w2⟩:=wait i hi
  have hk':k<(nth r.wt i).length:=by rw[w1];exact hk
  have hm:=jw hk';have:=List.any_eq_false.1 w2 _ hm;have:=gJ.1 (by simpa using this);exact this
 ·have:=C k hk;obtain⟨_,n2⟩:=dg this;obtain⟨_,n3⟩:=dg n2;obtain⟨n4,_⟩:=dg n3;exact gJ.1 (eY (by decide) n4)
 ·have:=O i hi;obtain⟨_,n2⟩:=dg this;obtain⟨_,n3⟩:=dg n2;obtain⟨n4,_⟩:=dg n3;have:=eY (by decide) n4;rw[Bool.and_eq_true] at this;exact gJ.1 this.1
 ·have:=O i hi;obtain⟨_,n2⟩:=dg this;obtain⟨_,n3⟩:=dg n2;obtain⟨n4,_⟩:=dg n3;have:=eY (by decide) n4;rw[Bool.and_eq_true] at this;exact gJ.1 this.2
 ·have:=C k hk;obtain⟨n1,n2⟩:=dg this;obtain⟨n2,_⟩:=dg n2;exact⟨eY (by decide) n1,not_true (eY (by decide) n2)⟩
 ·have:=O k hk;obtain⟨n1,n2⟩:=dg this;obtain⟨n2,_⟩:=dg n2;exact⟨eY (by decide) n1,not_true (eY (by decide) n2)⟩
 ·have:=Z j hj;unfold rq at this;obtain⟨n1,_⟩:=dg this;have:=eY (by decide) n1;rw[Bool.and_eq_true] at this;exact⟨gJ.1 this.1,gJ.1 this.2⟩
end Go.Proofs.YthpkmilhiganjaaGreat
namespace Go.Proofs.YthpkmilhiganjaaGreat
open Go Go.Fi
variable[ah]
def mK(row:List Bool)(w p:List Int)(m0:Int):Nat→Int
 |0=>m0
 |k+1=>if nth row k then (if nth w k+nth p k<mK row w p m0 k then nth w k+nth p k else mK row w p m0 k) else mK row w p m0 k
@[simp] theorem VB(row:List Bool)(w p:List Int)(m0:Int):mK row w p m0 0=m0:=rfl
def lj(x:Rd)(i:Nat)(p:List Int):Int:=mK (nth x.fit i) (nth x.wt i) p (cm (nth x.os i).2.2.2.toNat) (nth x.fit i).length
theorem Ia(x:Rd)(i:Nat)(p:List Int)(hi:i<x.os.length)(hc:x.af.length<100000)(hfl:i<x.fit.length)(hwl:i<x.wt.length)(hr:(nth x.fit i).length=x.af.length)(hwr:(nth x.wt i).length=x.af.length)(hpl:p.length=x.af.length)(hpr:0≤(nth x.os i).2.2.2∧(nth x.os i).2.2.2≤6)(hw:∀k,k<x.af.length→0≤nth (nth x.wt i) k∧nth (nth x.wt i) k≤100000)(hp:∀k,k<x.af.length→-100000000000000≤nth p k∧nth p k≤100000000000000):az Tz.prog 73 [x.pv,.int .i64 i,.sl p.length (ints p)] (.int .i64 (lj x i p)) true:=by
 obtain⟨af,os,wt,zs,fit⟩:=x;unfold Rd.pv lj;simp only[] at hi hc hfl hwl hr hwr hpl hpr hw hp ⊢;generalize hq:(nth os i).2.2.2=q at hpr ⊢;obtain⟨u,rfl⟩:∃u:Nat,q=u:=⟨q.toNat,by omega⟩;have c1:=oh u (by omega);simp only[Int.toNat_natCast];generalize cm u=m0 at c1 ⊢;have kw:=keep hw;have kp:=keep hp;have kr:=keep hr;have kwr:=keep hwr;have kpl:=keep hpl;have kc:=keep hc;clear hw hp hr hwr hpl hpr hc;refine rcK Tz.func73 ?_;simp only[Tryz.results73,Tryz.ntmps73]
 repeat' (first|(with_reducible first|refine ak ?_|refine aj ?_|refine And.intro ?_ ?_|refine cw (c1) ?_|intro _)|(simp[*,hi,hfl,hq])|(refine ai (c1) ?_ ?_;(· (simp[*];done))))
 all_goals first
  |omega
  |skip
 refine cT (fun(k:Nat)=>k≤(nth fit i).length) [0,1,2,26,27] (fun(k:Nat)=>[(28,.w false false (.int .i64 k)),(7,.w false false (.int .i64 (mK (nth fit i) (nth wt i) p m0 k)))]) [] (fun(k:Nat)=>[]) (fun(k:Nat)=>(nth fit i).length-k) (fun(_u:Unit)=>True) [] (fun(_u:Unit)=>[(7,.w false false (.int .i64 (mK (nth fit i) (nth wt i) p m0 (nth fit i).length)))]) [] (fun(_u:Unit)=>[]) (0) (Nat.zero_le _) (by simp) (by simp) (fun k hk=>?_) (fun _u hf=>?_)
 ·have hk2:=hk;by_cases hlt:k<(nth fit i).length
  ·have hlc:k<af.length:=by have:=kr;unfold aP at this;omega
   have hlw:k<(nth wt i).length:=by have:=kwr;unfold aP at this;omega
   have hlp:k<p.length:=by have:=kpl;unfold aP at this;omega
   have hcc:af.length<100000:=kc;obtain⟨w1,w2⟩:=kw k hlc;obtain⟨p1,p2⟩:=kp k hlc;have hrr:(nth fit i).length=af.length:=kr
   have hz:k+1≤(nth fit i).length:=by omega
   have hz2:(nth fit i).length-(k+1)<(nth fit i).length-k:=by omega
   have hi1:inI .i64 ((k:Int)+1):=bl (by omega) (by omega);have hi2:inI .i64 (nth (nth wt i) k+nth p k):=bl (by omega) (by omega)
   have em:mK (nth fit i) (nth wt i) p m0 (k+1)=if nth (nth fit i) k then (if nth (nth wt i) k+nth p k<mK (nth fit i) (nth wt i) p m0 k then nth (nth wt i) k+nth p k else mK (nth fit i) (nth wt i) p m0 k) else mK (nth fit i) (nth wt i) p m0 k:=rfl
   clear w1 w2 p1 p2 hrr hcc hk2 hlc
   cases hb:nth (nth fit i) k with
   |true=>
    rw[hb] at em;simp only[if_true] at em
    repeat' (first|(with_reducible first|refine ak ?_|refine bA ?_|refine aH ?_|refine aj ?_|refine bo (id:=6) 18 mixed (by decide +kernel) ?_|refine aD ?_|intro _)|(simp[*,hlt,hi,hfl,hwl,hlw,hlp,hb,hi1,hi2]))
    all_goals first
     |omega
     |assumption
     |(refine nx (k+1) ?_ ?_;(· exact hz);(refine aX ?_ ?_<;>first|trivial|(simp[*,em];done)))
   |false=>
    rw[hb] at em;simp only[Bool.false_eq_true,if_false] at em
    repeat' (first|(with_reducible first|refine ak ?_|refine bA ?_|refine aH ?_|refine aj ?_|refine aD ?_|intro _)|(simp[*,hlt,hi,hfl,hwl,hlw,hlp,hb,hi1,hi2]))
    all_goals first
     |omega
     |assumption
     |(refine nx (k+1) ?_ ?_;(· exact hz);(refine aX ?_ ?_<;>first|trivial|(simp[*,em];done)))
  ·have hke:k=(nth fit i).length:=by omega
   subst hke
   repeat' (first|(with_reducible first|refine ak ?_|refine bf ?_|refine aj ?_|refine aD ?_|intro _)|(simp[*]))
   all_goals first
    |omega
    |(refine bY () ?_ ?_;(· trivial);(refine aX ?_ ?_<;>first|trivial|(simp[*];done)))
 ·repeat' (first|(with_reducible first|refine ak ?_|refine aA ?_|refine aj ?_|intro _)|(simp[*]))
end Go.Proofs.YthpkmilhiganjaaGreat
