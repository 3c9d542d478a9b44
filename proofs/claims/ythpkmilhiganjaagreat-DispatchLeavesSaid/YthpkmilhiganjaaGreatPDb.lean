/- Lemmas. -/
import Derived.Test.YthpkmilhiganjaaGreatPDa
import Derived.Test.YthpkmilhiganjaaGreatPLf
import Derived.Test.YthpkmilhiganjaaGreatPLg
import Derived.KernelRfl
import Derived.Test.YthpkmilhiganjaaGreatPLd
set_option linter.all false
set_option maxHeartbeats 32000000
set_option maxRecDepth 100000
namespace Go.Proofs.YthpkmilhiganjaaGreat
open Go Go.Fi
structure Rd where
 ab:List Car
 os:List Ord
 wt:List (List Int)
 zs:List Par
 fit:List (List Bool)
def oe(l:List Bool):List PV:=l.map PV.bool
@[simp]theorem YK(l:List Bool):(oe l).length=l.length:=by simp[oe]
@[simp]theorem OE(l:List Bool)(k:Nat)(h:k<l.length):dA (oe l) k=.bool (nth l k):=tO _ l k h
def Ix(l:List Bool):PV:=.sl l.length (oe l)
def lJ(f:List (List Bool)):List PV:=f.map Ix
@[simp]theorem YL(f:List (List Bool)):(lJ f).length=f.length:=by simp[lJ]
@[simp]theorem YM(f:List (List Bool))(k:Nat)(h:k<f.length):dA (lJ f) k=.sl (nth f k).length (oe (nth f k)):=tO Ix f k h
def Rd.pv(x:Rd):PV:=.ip [.sl x.ab.length (aS x.ab),.sl x.os.length (aR x.os),.sl x.wt.length (a8 x.wt),.sl x.zs.length (aT x.zs),.sl x.fit.length (lJ x.fit)] 0
noncomputable def aj(r:Tw.RND):Rd:=⟨r.ab,r.os,r.wt,r.zs,(List.range r.os.length).map (Tw.lE r)⟩
theorem OF(r:Tw.RND):Tw.sb r=.sl (aj r).fit.length (lJ (aj r).fit):=by
 unfold Tw.sb aj lJ;simp only[fI,pO,qW];rfl
theorem gr(r:Tw.RND)(h:ceR r=0):Tw.lG ceR r=.tup [(aj r).pv,.int .i64 0]:=by
 unfold Tw.lG;rw[aB h,OF];rfl
theorem k8(r:Tw.RND)(h:ceR r≠0):Tw.lG ceR r=.tup [.fQ,.int .i64 (ceR r)]:=by
 unfold Tw.lG;rw[ar h]
variable[av]
theorem tX(x:Rd)(h:x.ab.length<100000)(n:Int):aC Tz.prog 91 [x.pv,.int .i64 n] (.int .i64 (ba (aU n 0 ((x.ab.length:Int)-1)) 6)) true:=by
 obtain⟨ab,os,wt,zs,fit⟩:=x;unfold Rd.pv;simp only[] at h ⊢;refine rcK Tz.func91 ?_;simp only[Tryz.results91,Tryz.ntmps91]
 repeat' first|(with_reducible first|apply ai|apply az|apply af|refine And.intro ?_ ?_|refine cw (fL _ _ _) ?_|refine cw (dG _ _) ?_|intro _)|(simp[*])|(refine ae (fL _ _ _) ?_ ?_;(· (simp[*];done)))|(refine ae (dG _ _) ?_ ?_;(· (simp[*];done)))
 all_goals first
  |exact aG (by omega) (by omega)
  |omega
theorem OG(l:List Int)(hl:l.length<100000)(v:Int):aC Tz.prog 166 [.sl l.length (ints l),.int .i64 v] (.int .i64 (idxOf (λy=>decide (v=y)) l)) true:=by
 generalize hR:idxOf (λy=>decide (v=y)) l=R;have kR:aN (fH (λy=>decide (v=y)) l 0=R):=keep hR;clear hR;refine rcK Tz.func166 ?_;simp only[Tryz.results166,Tryz.ntmps166]
 repeat' first|(with_reducible first|apply ai|apply af|intro _)|(simp[*])
 refine bQ (λ(k:Nat)=>k<=l.length/\fH (λy=>decide (v=y)) (l.drop k) k=R) [0,1,7] (λ(k:Nat)=>[(8,.w false false (.int .i64 k))]) [] (λ(k:Nat)=>[]) (λ(k:Nat)=>l.length-k) (λ(_u:Unit)=>R=-1) [] (λ(_u:Unit)=>[]) [] (λ(_u:Unit)=>[]) (0) ⟨aK _,kR⟩ (by simp) (by simp) (λk hk=>?_) (λ_u hf=>?_)
 .obtain⟨hk,hj⟩:=hk;by_cases h8:k<l.length
  .have hg:=hj;rw[dg l k h8] at hg;unfold fH at hg;have kj:=keep hg;clear hj hg
   repeat' first|(with_reducible first|apply ai|apply aF|apply au|apply az|apply af|apply al|refine And.intro ?_ ?_|refine fz ?_ ?_|intro _)|(simp[*,h8])
   all_goals first
    |omega
    |exact aG (by omega) (by omega)
    |(rename_i hp;rw[aB (by simpa using hp)] at kj;exact kj)
    |(rename_i hp;rw[ar (by simpa using hp)] at kj;(refine nx (k+1) ?_ ?_;(· exact⟨by omega,kj⟩);(refine aD ?_ ?_<;>first|trivial|(simp[*];done))))
  .have h9:k=l.length:=by omega
   subst h9
   repeat' first|(with_reducible first|apply ai|apply aL|apply af|apply al|intro _)|(simp[*])
   all_goals (refine aZ () ?_ ?_;(· rw[<-hj,fg];rfl);(refine aD ?_ ?_<;>first|trivial|(simp[*];done)))
 .subst hf
  repeat' first|(with_reducible first|apply ai|apply az|apply af|intro _)|(simp[*])
theorem oP(l:List Int)(hl:l.length<100000)(v:Int):aC Tz.prog 123 [.sl l.length (ints l),.int .i64 v] (.bool (l.any λy=>decide (v=y))) true:=by
 have c1:=OG l hl v;have h:=rA (λy=>decide (v=y)) l;generalize idxOf (λy:Int=>decide (v=y)) l=i at *;rw[<-h];clear h;refine rcK Tz.func123 ?_;simp only[Tryz.results123,Tryz.ntmps123]
 repeat' first|(with_reducible first|apply ai|apply az|apply af|refine And.intro ?_ ?_|refine cw (c1) ?_|intro _)|(simp[*])|(refine ae (c1) ?_ ?_;(· (simp[*];done)))
end Go.Proofs.YthpkmilhiganjaaGreat
namespace Go.Proofs.YthpkmilhiganjaaGreat
open Go Go.Fi
variable[av]
def lK:Tw.RND where
 ab:=[(⟨#[97]⟩,4,false),(⟨#[98]⟩,4,false)]
 os:=[(⟨#[112]⟩,1,false,0),(⟨#[113]⟩,1,false,0)]
 wt:=[[100,200],[150,400]]
 zs:=[]
 dB:=by
  refine⟨?_,?_,?_,by decide,by decide,by decide,by decide⟩
  .intro c hc;simp only[cD,lP,or_false] at hc
   rcases hc with rfl|rfl<;>decide
  .intro c hc;simp only[cD,lP,or_false] at hc
   rcases hc with rfl|rfl<;>decide
  .intro c hc;simp only[cD,lP,or_false] at hc
   rcases hc with rfl|rfl<;>decide
theorem So:aC Tz.prog 68 [] (.agg [.sl 2 [.str ⟨#[97]⟩,.int .i64 4,.bool false,.str ⟨#[98]⟩,.int .i64 4,.bool false],.sl 2 [.str ⟨#[112]⟩,.int .i64 1,.bool false,.int .i64 0,.str ⟨#[113]⟩,.int .i64 1,.bool false,.int .i64 0],.sl 2 [.sl 2 [.int .i64 100,.int .i64 200],.sl 2 [.int .i64 150,.int .i64 400]],.sl 0 []]) false:=by
 refine rcK Tz.func68 ?_;simp only[Tryz.results68,Tryz.ntmps68]
 repeat' first|(with_reducible first|apply ai|apply az|apply af|intro _)|(simp[*])
theorem qw:Tw.aM lK=.agg [.sl 2 [.str ⟨#[97]⟩,.int .i64 4,.bool false,.str ⟨#[98]⟩,.int .i64 4,.bool false],.sl 2 [.str ⟨#[112]⟩,.int .i64 1,.bool false,.int .i64 0,.str ⟨#[113]⟩,.int .i64 1,.bool false,.int .i64 0],.sl 2 [.sl 2 [.int .i64 100,.int .i64 200],.sl 2 [.int .i64 150,.int .i64 400]],.sl 0 []]:=rfl
@[simp]theorem YN(l:List Int)(k:Nat):(ints l).take k=ints (l.take k):=by simp[ints,Jb]
def ji(x:Rd)(plan:List Int)(k:Nat)(n:Int):Int:=
 if n=-1 then 0 else if ba (aU n 0 ((x.ab.length:Int)-1)) 6≠0 then ba (aU n 0 ((x.ab.length:Int)-1)) 6 else
 cX [ba (nth (nth x.fit k) n.toNat) 13,ba (!((plan.take k).any λy=>decide (n=y))) 26]
def dh(x:Rd)(plan:List Int):Int×Int:=if (plan.length:Int)≠x.os.length then (0,10) else dk (ji x plan) plan 0
theorem GN(x:Rd)(plan:List Int)(hp:plan.length<100000)(hc:x.ab.length<100000)(hf:x.fit.length=x.os.length)(hr:∀i,i<x.os.length->(nth x.fit i).length=x.ab.length):aC Tz.prog 111 [x.pv,.sl plan.length (ints plan)] (.tup [.int .i64 (dh x plan).1,.int .i64 (dh x plan).2]) true:=by
 have ce:=tX x hc;generalize hR:dh x plan=R;obtain⟨R1,R2⟩:=R;unfold dh at hR;have kR:=keep hR;have kr:=keep hr;have kce:=keep ce;clear hR hr ce;obtain⟨ab,os,wt,zs,fit⟩:=x;unfold Rd.pv;simp only[] at hc hf ⊢;have kf:=keep hf;clear hf;refine rcK Tz.func111 ?_;simp only[Tryz.results111,Tryz.ntmps111]
 repeat' first|(with_reducible first|apply ai|apply au|apply az|apply af|apply al|refine And.intro ?_ ?_ |  refine kZ ?_ ?_|intro _)|(simp[*])
 rotate_right
 .rename_i b1
  have kT:aN (dk (ji ⟨ab,os,wt,zs,fit⟩ plan) plan 0=(R1,R2)):=by
   rw[ar (by simpa using b1)] at kR;exact kR
  have kb:=keep b1;clear kR b1;refine bQ (λ(k:Nat)=>k<=plan.length/\dk (ji ⟨ab,os,wt,zs,fit⟩ plan) (plan.drop k) k=(R1,R2)) [0,1,19,20] (λ(k:Nat)=>[(21,.w false false (.int .i64 k))]) [] (λ(k:Nat)=>[]) (λ(k:Nat)=>plan.length-k) (λ(_u:Unit)=>R1=0/\R2=0) [] (λ(_u:Unit)=>[]) [] (λ(_u:Unit)=>[]) (0) ⟨aK _,kT⟩ (by simp) (by simp) (λk hk=>?_) (λ_u hf=>?_)
  .obtain⟨hk,hj⟩:=hk;by_cases h8:k<plan.length
   .have hh:k<os.length:=by have:=kb;unfold aN at this;omega
    have hi:k<fit.length:=by have:=kf;unfold aN at this;omega
    have h':(nth fit k).length=ab.length:=kr k hh;rw[dg plan k h8,dk] at hj;generalize hn:nth plan k=n at hj;have c1:=kce n;unfold Rd.pv at c1;simp only[] at c1;by_cases h1:n=-1
    .have hE:ji ⟨ab,os,wt,zs,fit⟩ plan k n=0:=by unfold ji;rw[aB h1]
     rw[aB hE] at hj;have kj:=keep hj;subst h1;clear hj hE c1 hi h'
     repeat' first|(with_reducible first|apply ai|apply aF|apply au|apply aL|apply af|apply al|refine And.intro ?_ ?_|intro _)|(simp[*,h8,hh,hn])
     all_goals first
      |omega
      |exact aG (by omega) (by omega)
      |(refine nx (k+1) ?_ ?_;(· exact⟨by omega,kj⟩);(refine aD ?_ ?_<;>first|trivial|(simp[*];done)))
    .cases hw:aU n 0 ((ab.length:Int)-1) with
     |false=>
      have hE:ji ⟨ab,os,wt,zs,fit⟩ plan k n=6:=by unfold ji;simp only[ar h1,hw];rfl
      rw[hE] at hj;rw[hw,show ba false 6=6 from rfl] at c1;have kj:aN (((k:Int),(6:Int))=(R1,R2)):=hj;clear hj hE hw hi h'
      repeat' first|(with_reducible first|apply ai|apply aF|apply au|apply az|apply af|apply al|refine And.intro ?_ ?_|refine cw (c1) ?_|intro _)|(simp[*,h8,hh,hn,h1])|(refine ae (c1) ?_ ?_;(· (simp[*];done)))
      all_goals first
       |omega
       |exact aG (by omega) (by omega)
       |exact (br kj).1
       |exact (br kj).2
     |true=>
      have hb:0<=n/\n<=(ab.length:Int)-1:=by simpa[aU] using hw
      obtain⟨m,rfl⟩:∃m:Nat,n=m:=⟨n.toNat,by omega⟩
      have hm:m<(nth fit k).length:=by omega
      have hE:ji ⟨ab,os,wt,zs,fit⟩ plan k m=cX [ba (nth (nth fit k) m) 13,ba (!((plan.take k).any λy=>decide ((m:Int)=y))) 26]:=by
       unfold ji;simp only[ar h1,hw];rfl
      rw[hE] at hj;rw[hw,show ba true 6=0 from rfl] at c1;have c2:=oP (plan.take k) (by rw[ia];omega) m;rw[uS hk] at c2;have c3:=jV (ba (nth (nth fit k) m) 13) (ba (!((plan.take k).any λy=>decide ((m:Int)=y))) 26);generalize cX [ba (nth (nth fit k) m) 13,ba (!((plan.take k).any λy=>decide ((m:Int)=y))) 26]=e at hj c3;have kj:=keep hj;have a4:(m:Int)≠-1:=h1;clear hj hE hw hb h1 h'
      repeat' first|(with_reducible first|apply ai|apply aF|apply au|apply az|apply af|refine aQ (id:=10) 21 mixed (by decide +kernel) ?_|apply al|refine And.intro ?_ ?_ |  refine kZ ?_ ?_|refine cw (c1) ?_|refine cw (c2) ?_|refine cw (c3) ?_|refine cw (dG _ _) ?_|intro _)|(simp[*,h8,hh,hi,hm,hn,a4])|(refine ae (c1) ?_ ?_;(· (simp[*];done)))|(refine ae (c2) ?_ ?_;(· (simp[*];done)))|(refine ae (c3) ?_ ?_;(· (simp[*];done)))|(refine ae (dG _ _) ?_ ?_;(· (simp[*];done)))
      all_goals first
       |omega
       |exact aG (by omega) (by omega)
       |(rename_i hp;rw[ar hp] at kj;exact (br kj).1)
       |(rename_i hp;rw[ar hp] at kj;exact (br kj).2)
       |(rename_i hp;rw[aB hp] at kj;(refine nx (k+1) ?_ ?_;(· exact⟨by omega,kj⟩);(refine aD ?_ ?_<;>first|trivial|(simp[*];done))))
   .have h9:k=plan.length:=by omega
    rw[h9,fg] at hj;unfold dk at hj;have kj:=keep hj
    have hh:¬k<os.length:=by have:=kb;unfold aN at this;omega
    clear hj h9
    repeat' first|(with_reducible first|apply ai|apply aL|apply af|apply al|intro _)|(simp[*,h8,hh])
    all_goals first
     |omega
     |(refine aZ () ?_ ?_;(· exact⟨(br kj).1.symm,(br kj).2.symm⟩);(refine aD ?_ ?_<;>first|trivial|(simp[*];done)))
  .obtain⟨rfl,rfl⟩:=hf
   repeat' first|(with_reducible first|apply ai|apply az|apply af|intro _)|(simp[*])
 all_goals first
  |(rename_i b1;rw[aB (by simpa using b1)] at kR;first|exact (br kR).1|exact (br kR).2)
theorem xd(x:Rd)(plan:List Int):aC Tz.prog 86 [x.pv,.sl plan.length (ints plan)] (.fn 122 [.ip [.sl plan.length (ints plan)] 0,.ip [x.pv] 0]) false:=by
 generalize hx:x.pv=p;obtain⟨cs,rfl⟩:∃cs,p=.ip cs 0:=⟨_,hx.symm⟩;clear hx;refine rcK Tz.func86 ?_;simp only[Tryz.results86,Tryz.ntmps86]
 repeat' first|(with_reducible first|apply ai|apply az|apply af|intro _)|(simp[*])
def eqF:List Int->List Int->Bool
 |[],[]=>true
 |a::r,b::s=>decide (a=b)&&eqF r s
 |_,_=>false
theorem nB:∀(a b:List Int),eqF a b=decide (a=b)
 |[],[]=>rfl
 |[],b::s=>by simp[eqF]
 |a::r,[]=>by simp[eqF]
 |a::r,b::s=>by simp[eqF,nB r s]
theorem oQ(a b:List Int)(ha:a.length<100000):aC Tz.prog 52 [.sl a.length (ints a),.sl b.length (ints b)] (.bool (eqF a b)) true:=by
 generalize hR:eqF a b=R;have kR:=keep hR;clear hR;by_cases hl:a.length=b.length
 .have kl:=keep hl
  have kb:aN (b.length<100000):=by show b.length<100000;omega
  rw[hl]
  have kl2:aN ((a.length:Int)=b.length):=by show (a.length:Int)=b.length;omega
  clear hl ha;refine rcK Tz.func52 ?_;simp only[Tryz.results52,Tryz.ntmps52]
  repeat' first|(with_reducible first|apply ai|apply au|apply af|apply al|intro _)|(simp[*])
  refine bQ (λ(k:Nat)=>k<=b.length/\eqF (a.drop k) (b.drop k)=R) [0,1] (λ(k:Nat)=>[(5,.w false false (.int .i64 k))]) [] (λ(k:Nat)=>[]) (λ(k:Nat)=>b.length-k) (λ(_u:Unit)=>R=true) [] (λ(_u:Unit)=>[]) [] (λ(_u:Unit)=>[]) (0) ⟨aK _,kR⟩ (by simp) (by simp) (λk hk=>?_) (λ_u hf=>?_)
  .obtain⟨hk,hj⟩:=hk;have hlen:a.length=b.length:=kl;have hb:b.length<100000:=kb;by_cases h8:k<b.length
   .have ho:k<a.length:=by omega
    rw[dg a k ho,dg b k h8] at hj;unfold eqF at hj;have kj:=keep hj;clear hj hlen
    repeat' first|(with_reducible first|apply ai|apply aF|apply au|apply az|apply af|refine aQ (id:=6) 9 mixed (by decide +kernel) ?_|apply al|refine And.intro ?_ ?_ |  refine kZ ?_ ?_|intro _)|(simp[*,h8,ho])
    all_goals first
     |omega
     |exact aG (by omega) (by omega)
     |(rename_i hp;rw[show decide (nth a k=nth b k)=false by simpa using hp] at kj;simpa[aN] using kj)
     |(rename_i hp;rw[show decide (nth a k=nth b k)=true by simpa using hp] at kj;(refine nx (k+1) ?_ ?_;(· exact⟨by omega,by simpa[aN] using kj⟩);(refine aD ?_ ?_<;>first|trivial|(simp[*];done))))
   .have h9:k=b.length:=by omega
    have hq:k=a.length:=by omega
    rw[show b.drop k=[] from uR (by omega),show a.drop k=[] from uR (by omega)] at hj;have kj:=keep hj;clear hj h9 hq hlen
    repeat' first|(with_reducible first|apply ai|apply aL|apply af|apply al|intro _)|(simp[*,h8])
    all_goals first
     |omega
     |(refine aZ () ?_ ?_;(· exact kj.symm);(refine aD ?_ ?_<;>first|trivial|(simp[*];done)))
  .subst hf
   repeat' first|(with_reducible first|apply ai|apply az|apply af|intro _)|(simp[*])
 .have hRf:R=false:=by
   rw[<-show eqF a b=R from kR,nB];simp only[decide_eq_false_iff_not];intro e;exact hl (by rw[e])
  subst hRf
  have h2:¬((a.length:Int)=b.length):=by omega
  clear kR;refine rcK Tz.func52 ?_;simp only[Tryz.results52,Tryz.ntmps52]
  repeat' first|(with_reducible first|apply ai|apply az|apply af|apply al|intro _)|(simp[*,h2,hl])
theorem Sq:Tz.prog.underlying 28=some (.slice 3):=by kernel_rfl
theorem GO(l:List Int)(x:PV)(hx:x∈ints l):flat x=true:=by
 obtain⟨n,_,rfl⟩:=dW.1 hx;rfl
theorem Bs:∀l:List Int,dj (List.map (AV.w false false) (ints l))=true
 |[]=>rfl
 |_::l=>Bs l
theorem GP(l:List Int)(h:l.length<100000):aC Tz.prog 97 [.sl l.length (ints l)] (.sl l.length (ints l)) true:=by
 refine rcK Tz.func97 ?_;simp only[Tryz.results97,Tryz.ntmps97];refine ai ?_;refine af ?_;simp;refine ai ?_;refine ai ?_;refine Og (ow:=false) (fl:=false) (k:=l.length) (cells:=ints l) Sq ?_ ?_ ?_ ?_
 .simp
 .decide
 .decide
 intro b hb
 cases b with
 |true=>
  have hl:l=[]:=gF (hb rfl).1;subst hl
  repeat' first|(with_reducible first|apply ai|apply az|apply af|apply al|intro _)|(simp[*,ints])
 |false=>
  clear hb
  repeat' first|(with_reducible first|apply ai|apply au|apply az|apply af|apply al|refine And.intro ?_ ?_|intro _)|(simp[*])
  all_goals first|omega|(rename_i hx;exact GO l _ hx)|exact Bs l
theorem oR(l:List Int)(h:l.length<10000000):aC Tz.prog 24 [.sl l.length (ints l)] (.sl l.length (ints l)) true:=by
 refine rcK Tz.func24 ?_;simp only[Tryz.results24,Tryz.ntmps24]
 repeat' first|(with_reducible first|apply ai|apply az|apply af|refine And.intro ?_ ?_|intro _)|(simp[*])
 all_goals first|omega|(rename_i hx;exact GO l _ hx)|exact Bs l
theorem xe{α:Type}[Inhabited α](l:List α)(k:Nat)(h:k<l.length):l.take (k+1)=l.take k++[nth l k]:=by
 rw[sV h];simp[nth,bS,da h]
def cpA(m:List (List Int))(k:Nat):List AV:=(a8 (m.take k)).map (.w true false)
theorem GQ(m:List (List Int))(k:Nat)(h:k<=m.length):(cpA m k).length=k:=by
 simp[cpA,Nat.min_eq_left h]
@[simp]theorem YO(m:List (List Int)):cpA m 0=[]:=rfl
theorem GR(m:List (List Int))(k:Nat)(h:k<m.length):cpA m (k+1)=cpA m k++[.w true false (.sl (nth m k).length (ints (nth m k)))]:=by
 unfold cpA a8;rw[xe m k h,ou,ou];rfl
@[simp]theorem YP(m:List (List Int))(k n:Nat):AV.lt.ltL n (cpA m k)=true:=qv n true false _
@[simp]theorem YQ{D:List Nat}{h:ak}{n n':Nat}(m:List (List Int))(k:Nat):gZ D h n n' (cpA m k) (cpA m k)=True:=eq_true (oM true false _)
theorem OH(m:List (List Int)):cpA m m.length=(a8 m).map (.w true false):=by simp[cpA]
theorem OI(m:List (List Int))(hl:m.length<100000)(h':∀w∈m,w.length<100000):aC Tz.prog 74 [.sl m.length (a8 m)] (.sl m.length (a8 m)) true:=by
 refine rcK Tz.func74 ?_;simp only[Tryz.results74,Tryz.ntmps74]
 repeat' first|(with_reducible first|apply ai|apply af|intro _)|(simp[*])
 refine df 1 (λ(k:Nat)=>k<=m.length) [0] (λ(k:Nat)=>[(3,.msl 0 k 1 0 k),(4,.w false false (.int .i64 k))]) [] (λ(k:Nat)=>[(0,cpA m k)]) (λ(k:Nat)=>m.length-k) (λ(_u:Unit)=>True) [] (λ(_u:Unit)=>[(3,.msl 0 m.length 1 0 m.length)]) [] (λ(_u:Unit)=>[(0,cpA m m.length)]) (0) (aK _) (aO [] (by simp) (by simp)) (λk hk=>?_) (λ_u hf=>?_)
 .by_cases h8:k<m.length
  .have a5:=h' (nth m k) (by rw[nth,bS,da h8];exact Dh _);clear h';have cc:=oR (nth m k) (by omega);have hlen:=GQ m k hk;have ks:=keep (GR m k h8)
   repeat' first|(with_reducible first|apply ai|apply iV|apply au|apply af|apply al|refine And.intro ?_ ?_|refine cw (cc) ?_|intro _)|(simp[*,h8,hlen])|(refine ae (cc) ?_ ?_;(· (simp[*];done)))
   all_goals first
    |exact aG (by omega) (by omega)
    |omega
    |(refine nx (k+1) ?_ ?_;(· omega);(refine aO [] ?_ ?_<;>first|trivial|(simp[*,ks,GR m k h8];done)))
  .have h9:k=m.length:=by omega
   subst h9
   repeat' first|(with_reducible first|apply ai|apply aL|apply af|apply al|intro _)|(simp[*])
   all_goals first
    |(refine aZ () ?_ ?_;(· trivial);(refine aO [] ?_ ?_<;>first|trivial|(simp[*];done)))
 .have hlen:=GQ m m.length (aE _);rw[OH]
  repeat' first|(with_reducible first|apply ai|apply az|apply af|intro _)|(simp[*,hlen])
theorem Bt(l:List Car)(x:PV)(hx:x∈aS l):flat x=true/\sr x=true:=by
 obtain⟨c,_,hx⟩:=sU.1 hx;simp only[Tw.dt,cD,lP,or_false] at hx
 rcases hx with rfl|rfl|rfl<;>exact⟨rfl,rfl⟩
theorem Bu(l:List Ord)(x:PV)(hx:x∈aR l):flat x=true/\sr x=true:=by
 obtain⟨c,_,hx⟩:=sU.1 hx;simp only[Tw.cg,cD,lP,or_false] at hx
 rcases hx with rfl|rfl|rfl|rfl<;>exact⟨rfl,rfl⟩
theorem GU(l:List Par)(x:PV)(hx:x∈aT l):flat x=true/\sr x=true:=by
 obtain⟨c,_,hx⟩:=sU.1 hx;simp only[Tw.cu,cD,lP,or_false] at hx
 rcases hx with rfl|rfl<;>exact⟨rfl,rfl⟩
theorem nC(r:Tw.RND):aC Tz.prog 18 [Tw.aM r] (Tw.aM r) true:=by
 obtain⟨ab,os,wt,zs,dB⟩:=r;obtain⟨f1,f2,f3,f4,f5,f6,f7⟩:=dB;have c1:=OI wt f6 f3;unfold Tw.aM Tw.RND.cz Tw.RND.osP Tw.RND.cT Tw.RND.zsP Tw.RND.nw Tw.RND.wait;simp only[]
 change aC Tz.prog 18 [.agg [.sl ab.length (aS ab),.sl os.length (aR os),.sl wt.length (a8 wt),.sl zs.length (aT zs)]] (.agg [.sl ab.length (aS ab),.sl os.length (aR os),.sl wt.length (a8 wt),.sl zs.length (aT zs)]) true
 clear f1 f2 f3 f6;refine rcK Tz.func18 ?_;simp only[Tryz.results18,Tryz.ntmps18]
 repeat' first|(with_reducible first|apply ai|apply az|apply af|refine iX (id:=1) [0,1,2,4,5,6,8,9,11,12,13] [3,7,10,14,15,16] [[],[],[],[.new 0],[.new 0],[.new 0],[.new 0,.new 1],[.new 0,.new 1],[.new 0,.new 1],[.new 0,.new 1],[.new 0,.new 1]] [[.new 0],[.new 1],[],[.new 2],[],[.slot 2]] mixed (by decide +kernel) ?_|refine And.intro ?_ ?_|refine cw (c1) ?_|intro _)|(simp[*])|(refine ae (c1) ?_ ?_;(· (simp[*];done)))
 all_goals first
  |omega
  |(rename_i hx;first|exact (Bt _ _ hx).1|exact (Bu _ _ hx).1|exact (GU _ _ hx).1)
  |(refine tV false false _ (eh.2 λy hy=>?_);first|exact (Bt _ _ hy).2|exact (Bu _ _ hy).2|exact (GU _ _ hy).2)
theorem OJ(po pc:List Int)(h1:po.length<100000)(h2:pc.length<100000):aC Tz.prog 19 [.agg [.sl po.length (ints po),.sl pc.length (ints pc)]] (.agg [.sl po.length (ints po),.sl pc.length (ints pc)]) true:=by
 have c1:=oR po (by omega);have c2:=oR pc (by omega);refine rcK Tz.func19 ?_;simp only[Tryz.results19,Tryz.ntmps19]
 repeat' first|(with_reducible first|apply ai|apply az|apply af|refine aQ (id:=1) 7 mixed (by decide +kernel) ?_|refine And.intro ?_ ?_|refine cw (c1) ?_|refine cw (c2) ?_|intro _)|(simp[*])|(refine ae (c1) ?_ ?_;(· (simp[*];done)))|(refine ae (c2) ?_ ?_;(· (simp[*];done)))
def hY{α:Type}(p:α->Bool)(l:List α)(k:Nat):Bool:=(l.drop k).all p
theorem Bw{α:Type}[Inhabited α]{p:α->Bool}{l:List α}{k:Nat}(h:k<l.length):hY p l k=(p (nth l k)&&hY p l (k+1)):=by
 unfold hY;rw[dg l k h];rfl
theorem Bx{α:Type}(p:α->Bool)(l:List α):hY p l l.length=true:=by
 unfold hY;rw[fg];rfl
def ID(c o w z:Nat):Bool:=decide (¬(((4<c/\c<=8)\/10<c)\/((4<o/\o<=8)\/10<o)\/12<w\/66<z))
def jK(ab:List Car)(os:List Ord)(wt:List (List Int))(zs:List Par):Bool:=
 ID ab.length os.length wt.length zs.length&&(ab.all (λx:Car=>decide (x.1.size<=20))&&(os.all (λx:Ord=>decide (x.1.size<=20))&&wt.all (λw:List Int=>decide (w.length<=10))))
theorem pH(ab:List Car)(os:List Ord)(wt:List (List Int))(zs:List Par):aC Tz.prog 16 [.agg [.sl ab.length (aS ab),.sl os.length (aR os),.sl wt.length (a8 wt),.sl zs.length (aT zs)]] (.bool (jK ab os wt zs)) true:=by
 unfold jK;have hA0:ab.all (λx:Car=>decide (x.1.size<=20))=hY (λx:Car=>decide (x.1.size<=20)) ab 0:=rfl;have hA2:os.all (λx:Ord=>decide (x.1.size<=20))=hY (λx:Ord=>decide (x.1.size<=20)) os 0:=rfl;have hA4:wt.all (λw:List Int=>decide (w.length<=10))=hY (λw:List Int=>decide (w.length<=10)) wt 0:=rfl;rw[hA0,hA2,hA4];clear hA0 hA2 hA4;generalize hA0:hY (λx:Car=>decide (x.1.size<=20)) ab 0=A0;generalize hA2:hY (λx:Ord=>decide (x.1.size<=20)) os 0=A2;generalize hA4:hY (λw:List Int=>decide (w.length<=10)) wt 0=A4;have kA0:=keep hA0;have kA2:=keep hA2;have kA4:=keep hA4;clear hA0 hA2 hA4
 cases hS:ID ab.length os.length wt.length zs.length with
 |false=>
  have hS:=of_decide_eq_false hS;have kS:=keep hS;clear hS;simp only[gG];refine rcK Tz.func16 ?_;simp only[Tryz.results16,Tryz.ntmps16]
  repeat' first|(with_reducible first|apply ai|apply au|apply az|apply af|apply al|refine NQ ?_ ?_|refine NO ?_ ?_|refine fz ?_ ?_|intro _)|(simp[*])
  all_goals (exfalso;have hS:=kS;unfold aN at hS;omega)
 |true=>
  have hS:=of_decide_eq_true hS
  have l1:ab.length<=10:=by omega
  have l2:os.length<=10:=by omega
  have l3:wt.length<=12:=by omega
  have kS:=keep hS;clear hS;simp only[eo]
  have w5:¬(66:Int)<zs.length:=by have hS:=kS;unfold aN at hS;omega
  have w6:¬(12:Int)<wt.length:=by omega
  have w7:¬(10:Int)<ab.length:=by omega
  have w8:¬(10:Int)<os.length:=by omega
  have key:((¬(4:Int)<ab.length)\/((4:Int)<ab.length/\¬(ab.length:Int)<=8)):=by have hS:=kS;unfold aN at hS;omega
  have key2:((¬(4:Int)<os.length)\/((4:Int)<os.length/\¬(os.length:Int)<=8)):=by have hS:=kS;unfold aN at hS;omega
  clear kS hS
  rcases key with g1|⟨g1,g2⟩<;>rcases key2 with g3|⟨g3,g4⟩
  all_goals
   refine rcK Tz.func16 ?_;simp only[Tryz.results16,Tryz.ntmps16]
   repeat' first|(with_reducible first|apply ai|apply au|apply af|apply al|intro _)|(simp[*])
   have kk:=keep (And.intro w5 (And.intro w6 (And.intro w7 w8)));clear w5 w6 w7 w8;refine bQ (λ(k:Nat)=>k<=ab.length/\hY (λx:Car=>decide (x.1.size<=20)) ab k=A0) [1] (λ(k:Nat)=>[(3,.w false false (.int .i64 k))]) [0] (λ(k:Nat)=>[]) (λ(k:Nat)=>ab.length-k) (λ(_u:Unit)=>A0=true) [1] (λ(_u:Unit)=>[]) [0] (λ(_u:Unit)=>[]) (0) ⟨aK _,kA0⟩ (by simp) (by simp) (λk hk=>?_) (λ_u hf=>?_)
   .obtain⟨hk,hj⟩:=hk;by_cases h8:k<ab.length
    .rw[Bw h8] at hj;by_cases hr:20<((nth ab k).1.size:Int)
     .have hA:A0=false:=by rw[<-hj];simp;omega
      clear hj kA0;subst hA
      repeat' first|(with_reducible first|apply ai|apply aF|apply au|apply az|apply af|apply al|intro _)|(simp[*,h8,hr])
      all_goals first|exact aG (by omega) (by omega)|omega|(simp;done)
     .have kj:aN (hY (λx:Car=>decide (x.1.size<=20)) ab (k+1)=A0):=keep (by rw[<-hj,decide_eq_true (show (nth ab k).1.size<=20 by omega),eo]);clear hj
      repeat' first|(with_reducible first|apply ai|apply aF|apply au|apply af|apply al|refine And.intro ?_ ?_|intro _)|(simp[*,h8,hr])
      all_goals first
       |exact aG (by omega) (by omega)
       |omega
       |(refine nx (k+1) ?_ ?_;(· exact⟨by omega,kj⟩);(refine aD ?_ ?_<;>first|trivial|(simp[*];done)))
    .have h9:k=ab.length:=by omega
     subst h9;rw[Bx] at hj;have kj:=keep hj.symm;clear hj kA0
     repeat' first|(with_reducible first|apply ai|apply aL|apply af|apply al|intro _)|(simp[*])
     all_goals (refine aZ () ?_ ?_;(· exact kj);(refine aD ?_ ?_<;>first|trivial|(simp[*];done)))
   .subst hf;clear kA0;simp only[eo]
    repeat' first|(with_reducible first|apply ai|apply af|intro _)|(simp[*])
    refine bQ (λ(k:Nat)=>k<=os.length/\hY (λx:Ord=>decide (x.1.size<=20)) os k=A2) [1] (λ(k:Nat)=>[(4,.w false false (.int .i64 k))]) [0] (λ(k:Nat)=>[]) (λ(k:Nat)=>os.length-k) (λ(_u:Unit)=>A2=true) [1] (λ(_u:Unit)=>[]) [0] (λ(_u:Unit)=>[]) (0) ⟨aK _,kA2⟩ (by simp) (by simp) (λk hk=>?_) (λ_u hf=>?_)
    .obtain⟨hk,hj⟩:=hk;by_cases h8:k<os.length
     .rw[Bw h8] at hj;by_cases hr:20<((nth os k).1.size:Int)
      .have hA:A2=false:=by rw[<-hj];simp;omega
       clear hj kA2;subst hA
       repeat' first|(with_reducible first|apply ai|apply aF|apply au|apply az|apply af|apply al|intro _)|(simp[*,h8,hr])
       all_goals first|exact aG (by omega) (by omega)|omega|(simp;done)
      .have kj:aN (hY (λx:Ord=>decide (x.1.size<=20)) os (k+1)=A2):=keep (by rw[<-hj,decide_eq_true (show (nth os k).1.size<=20 by omega),eo]);clear hj
       repeat' first|(with_reducible first|apply ai|apply aF|apply au|apply af|apply al|refine And.intro ?_ ?_|intro _)|(simp[*,h8,hr])
       all_goals first
        |exact aG (by omega) (by omega)
        |omega
        |(refine nx (k+1) ?_ ?_;(· exact⟨by omega,kj⟩);(refine aD ?_ ?_<;>first|trivial|(simp[*];done)))
     .have h9:k=os.length:=by omega
      subst h9;rw[Bx] at hj;have kj:=keep hj.symm;clear hj kA2
      repeat' first|(with_reducible first|apply ai|apply aL|apply af|apply al|intro _)|(simp[*])
      all_goals (refine aZ () ?_ ?_;(· exact kj);(refine aD ?_ ?_<;>first|trivial|(simp[*];done)))
    .subst hf;clear kA2;simp only[eo]
     repeat' first|(with_reducible first|apply ai|apply af|intro _)|(simp[*])
     refine bQ (λ(k:Nat)=>k<=wt.length/\hY (λw:List Int=>decide (w.length<=10)) wt k=A4) [1] (λ(k:Nat)=>[(5,.w false false (.int .i64 k))]) [0] (λ(k:Nat)=>[]) (λ(k:Nat)=>wt.length-k) (λ(_u:Unit)=>A4=true) [] (λ(_u:Unit)=>[]) [0] (λ(_u:Unit)=>[]) (0) ⟨aK _,kA4⟩ (by simp) (by simp) (λk hk=>?_) (λ_u hf=>?_)
     .obtain⟨hk,hj⟩:=hk;by_cases h8:k<wt.length
      .rw[Bw h8] at hj;by_cases hr:10<((nth wt k).length:Int)
       .have hA:A4=false:=by rw[<-hj];simp;omega
        clear hj kA4;subst hA
        repeat' first|(with_reducible first|apply ai|apply aF|apply au|apply az|apply af|apply al|intro _)|(simp[*,h8,hr])
        all_goals first|exact aG (by omega) (by omega)|omega|(simp;done)
       .have kj:aN (hY (λw:List Int=>decide (w.length<=10)) wt (k+1)=A4):=keep (by rw[<-hj,decide_eq_true (show (nth wt k).length<=10 by omega),eo]);clear hj
        repeat' first|(with_reducible first|apply ai|apply aF|apply au|apply af|apply al|refine And.intro ?_ ?_|intro _)|(simp[*,h8,hr])
        all_goals first
         |exact aG (by omega) (by omega)
         |omega
         |(refine nx (k+1) ?_ ?_;(· exact⟨by omega,kj⟩);(refine aD ?_ ?_<;>first|trivial|(simp[*];done)))
      .have h9:k=wt.length:=by omega
       subst h9;rw[Bx] at hj;have kj:=keep hj.symm;clear hj kA4
       repeat' first|(with_reducible first|apply ai|apply aL|apply af|apply al|intro _)|(simp[*])
       all_goals (refine aZ () ?_ ?_;(· exact kj);(refine aD ?_ ?_<;>first|trivial|(simp[*];done)))
     .subst hf
      repeat' first|(with_reducible first|apply ai|apply az|apply af|intro _)|(simp[*])
theorem nD{ab:List Car}{os:List Ord}{wt:List (List Int)}{zs:List Par}(h:jK ab os wt zs=true):(ab.length<=10/\(8<ab.length\/ab.length<=4))/\(os.length<=10/\(8<os.length\/os.length<=4))/\wt.length<=12/\zs.length<=66/\(∀c∈ab,c.1.size<=20)/\(∀o∈os,o.1.size<=20)/\∀w∈wt,w.length<=10:=by
 unfold jK at h;simp only[bU,eh,decide_eq_true_eq] at h;obtain⟨h1,h2,h3,h4⟩:=h;have h1:=of_decide_eq_true h1;exact⟨⟨by omega,by omega⟩,⟨by omega,by omega⟩,by omega,by omega,h2,h3,h4⟩
def cG(ab:List Car)(os:List Ord)(wt:List (List Int))(zs:List Par)(h:jK ab os wt zs=true):Tw.RND:=⟨ab,os,wt,zs,by
 obtain⟨⟨h1,_⟩,⟨h2,_⟩,h3,h4,h5,h6,h7⟩:=nD h
 exact⟨λc hc=>by have:=h5 c hc;omega,λc hc=>by have:=h6 c hc;omega,λc hc=>by have:=h7 c hc;omega,by omega,by omega,by omega,by omega⟩⟩
def rd2:PV:=.ip [.sl 2 [.str ⟨#[97]⟩,.int .i64 4,.bool false,.str ⟨#[98]⟩,.int .i64 4,.bool false],.sl 2 [.str ⟨#[112]⟩,.int .i64 1,.bool false,.int .i64 0,.str ⟨#[113]⟩,.int .i64 1,.bool false,.int .i64 0],.sl 2 [.sl 2 [.int .i64 100,.int .i64 200],.sl 2 [.int .i64 150,.int .i64 400]],.sl 0 [],.sl 2 [.sl 2 [.bool true,.bool true],.sl 2 [.bool true,.bool true]]] 0
theorem G2:aC Tz.prog 116 [.int .i64 0] (.int .i64 1000000) true:=sw 0 (by decide)
theorem G3(l:List PV):aC Tz.prog 86 [rd2,.sl 2 l] (.fn 122 [.ip [.sl 2 l] 0,.ip [rd2] 0]) false:=by
 unfold rd2;refine rcK Tz.func86 ?_;simp only[Tryz.results86,Tryz.ntmps86]
 repeat' first|(with_reducible first|apply ai|apply az|apply af|intro _)|(simp[*])
theorem G4:aC Tz.prog 78 [rd2,.sl 2 [.int .i64 0,.int .i64 1]] (.int .i64 500) true/\aC Tz.prog 78 [rd2,.sl 2 [.int .i64 1,.int .i64 0]] (.int .i64 350) true:=by
 have c1:=G2
 have c2:=λl=>G3 l
 unfold rd2 at *;constructor
 all_goals
  refine oO Tz.func78 (by kernel_rfl) rfl (di (by kernel_rfl)) ?_;simp only[Tryz.results78,Tryz.ntmps78]
  repeat' first|(with_reducible first|apply cP|apply l8|refine ry (gf:=122) rfl Tz.func122 (by kernel_rfl) rfl (di (by kernel_rfl)) (λl=>?_)|apply cO|refine mf (id:=3) 16 ?_ ?_|refine rC rfl (by simp) ?_|apply G1|refine iY 40 ?_|apply jj|apply fY|apply ai|apply au|apply az|apply aL|apply af|refine aQ (id:=5) 5 mixed (by decide +kernel) ?_|refine aQ (id:=10) 14 mixed (by decide +kernel) ?_|apply al|refine And.intro ?_ ?_|refine cw (c1) ?_|refine cw (c2 _) ?_|intro _)|(simp[*,Tw.cg,dC,eX])|(refine ae (c1) ?_ ?_;(· (simp[*];done)))|(refine ae (c2 _) ?_ ?_;(· (simp[*];done)))
 all_goals first|exact dz (by decide)|(simp[touch];done)
def zbg:PV:=.sl 2 [.str ⟨#[97]⟩,.int .i64 4,.bool false,.str ⟨#[98]⟩,.int .i64 4,.bool false]
theorem O0:aC Tz.prog 80 [.ip [.sl 2 [.str ⟨#[97]⟩,.int .i64 4,.bool false,.str ⟨#[98]⟩,.int .i64 4,.bool false],.sl 2 [.str ⟨#[112]⟩,.int .i64 1,.bool false,.int .i64 0,.str ⟨#[113]⟩,.int .i64 1,.bool false,.int .i64 0],.sl 2 [.sl 2 [.int .i64 100,.int .i64 200],.sl 2 [.int .i64 150,.int .i64 400]],.sl 0 [],.sl 2 [.sl 2 [.bool true,.bool true],.sl 2 [.bool true,.bool true]]] 0] (.sl 2 [.sl 4 (ints [100,200,1000000,1000000000000000]),.sl 4 (ints [150,400,1000000000000000,1000000])]) true:=by
 have c1:=sw 0 (by decide)
 have e:(bw 0:Int)=1000000:=by kernel_rfl
 rw[e] at c1;refine rcK Tz.func80 ?_;simp only[Tryz.results80,Tryz.ntmps80]
 repeat' first|(with_reducible first|refine iY 40 ?_|apply jj|apply fY|apply ai|apply au|apply az|apply aL|apply af|apply al|refine And.intro ?_ ?_|refine cw (c1) ?_|intro _)|(simp[*,Tw.cg,ints])|(refine ae (c1) ?_ ?_;(· (simp[*];done)))
 all_goals exact dz (by decide)
theorem G5(n:Nat)(h:n=2\/n=4):aC Tz.prog 118 [.int .u64 1,.int .u64 n] (.tup [.int .u64 0,.int .u64 n]) true:=by
 have c:aC Tz.prog 154 [.int .u64 1,.int .u64 n] (.tup [.int .u64 0,.int .u64 n]) true:=by
  rcases h with rfl|rfl
  all_goals
   refine rcK Tz.func154 ?_;simp only[Tryz.results154,Tryz.ntmps154]
   repeat' first|(with_reducible first|apply ai|apply az|apply af|refine And.intro ?_ ?_|intro _)|(simp[*])
  all_goals exact dz (by decide)
 refine rcK Tz.func118 ?_;simp only[Tryz.results118,Tryz.ntmps118]
 repeat' first|(with_reducible first|apply ai|apply au|apply az|apply af|apply al|refine And.intro ?_ ?_|refine cw (c) ?_|intro _)|(simp[*])|(refine ae (c) ?_ ?_;(· (simp[*];done)))
theorem IE(v:Int):nI Tz.prog 81 [.sl 1 [.int .i64 v],.int .i64 (4:Nat)] [[.w false false (.int .i64 v),.w false false (.int .i64 v),.w false false (.int .i64 v),.w false false (.int .i64 v)]] (.msl 0 4 1 0 4):=by
 have c:=G5 4 (.inr rfl);refine xg 0 [] Tz.func81 (by kernel_rfl) rfl (di (by kernel_rfl)) (by simp) (by intro c hc;simp only[pT] at hc;subst hc;rfl) ?_;simp only[Tryz.results81,Tryz.ntmps81]
 repeat' first|(with_reducible first|refine iY 40 ?_|apply jj|apply fY|apply ai|apply au|apply az|apply aL|apply af|refine iX (id:=9) [0,1,2,3,4,5,6] [7,8,9] [[.slot 7],[],[],[],[],[],[]] [[.slot 7],[],[]] mixed (by decide +kernel) ?_|apply al|refine And.intro ?_ ?_|refine cw (c) ?_|intro _)|(simp[*])|(refine ae (c) ?_ ?_;(· (simp[*];done)))
 all_goals first|exact dz (by decide)|(simp[touch];done)
theorem O3:aC Tz.prog 79 [.sl 2 [.sl 4 [.int .i64 100,.int .i64 200,.int .i64 1000000,.int .i64 1000000000000000],.sl 4 [.int .i64 150,.int .i64 400,.int .i64 1000000000000000,.int .i64 1000000]],.int .i64 4] (.ip [.sl 2 [.sl 4 [.int .i64 100,.int .i64 200,.int .i64 1000000,.int .i64 1000000000000000],.sl 4 [.int .i64 150,.int .i64 400,.int .i64 1000000000000000,.int .i64 1000000]],.sl 2 [.int .i64 200,.int .i64 250],.sl 4 [.int .i64 (-100),.int .i64 0,.int .i64 0,.int .i64 0],.sl 4 [.int .i64 1,.int .i64 0,.int .i64 (-1),.int .i64 (-1)],.sl 4 [.int .i64 (-1),.int .i64 0,.int .i64 0,.int .i64 (-1)]] 0) false:=by
 have r1:=IE (-1);have r2:=IE 10000000000000000;refine rcK Tz.func79 ?_;simp only[Tryz.results79,Tryz.ntmps79]
 repeat' first|(with_reducible first|refine rD (id:=5) 2 Tz.func117 (by kernel_rfl) rfl (by decide) rfl ?_|refine Bv (by decide) (by simp) rfl ?_|refine iY 40 ?_|apply jj|apply fY|apply GZ|apply G0|apply ai|apply au|apply az|apply aL|apply af|refine aQ (id:=1) 12 mixed (by decide +kernel) ?_|refine aQ (id:=1) 7 mixed (by decide +kernel) ?_|refine aQ (id:=9) 27 mixed (by decide +kernel) ?_|refine aQ (id:=20) 16 mixed (by decide +kernel) ?_|refine aQ (id:=32) 13 mixed (by decide +kernel) ?_|apply al|refine And.intro ?_ ?_|refine cwM (r1) ?_|refine cwM (r2) ?_|intro _)|(simp[*,dC,eX])
 all_goals try first|exact dz (by decide)|(simp[touch];done)
end Go.Proofs.YthpkmilhiganjaaGreat
namespace Go.Proofs.YthpkmilhiganjaaGreat
open Go Go.Fi
noncomputable instance zbl:av:=LD
theorem O4:ceR lK=0:=by kernel_rfl
theorem tZ:aC Tz.prog 69 [Tw.aM lK] (.tup [rd2,.int .i64 0]) false:=by
 have c:=dI lK;rw[gr lK O4] at c;exact c
theorem G6:aC Tz.prog 70 [.sl 2 [.int .i64 0,.int .i64 0]] (.int .i64 0) true:=xc [0,0] (by decide)
theorem O5:aC Tz.prog 111 [rd2,.sl 2 [.int .i64 0,.int .i64 1]] (.tup [.int .i64 0,.int .i64 0]) true:=by
 have k:∀n:Int,(n=0\/n=1)->aC Tz.prog 91 [rd2,.int .i64 n] (.int .i64 0) true:=λn h=>by
  rcases h with rfl|rfl
  all_goals
   unfold rd2;refine rcK Tz.func91 ?_;simp only[Tryz.results91,Tryz.ntmps91]
   repeat' first|(with_reducible first|apply ai|apply az|apply af|refine And.intro ?_ ?_|refine cw (fL _ _ _) ?_|refine cw (dG _ _) ?_|intro _)|(simp[*])|(refine ae (fL _ _ _) ?_ ?_;(· (simp[*];done)))|(refine ae (dG _ _) ?_ ?_;(· (simp[*];done)))
  all_goals first|exact dz (by decide)|decide
 have k0:=k 0 (.inl rfl);have k1:=k 1 (.inr rfl);have i0:aC Tz.prog 123 [.sl 0 [],.int .i64 0] (.bool false) true:=oP [] (by decide) 0;have i1:aC Tz.prog 123 [.sl 1 [.int .i64 0],.int .i64 1] (.bool false) true:=oP [0] (by decide) 1
 have u:∀e,aC Tz.prog 71 [.bool true,.int .i64 e] (.int .i64 0) true:=λe=>dG true e
 have f:=G6;clear k;unfold rd2 at *;refine rcK Tz.func111 ?_;simp only[Tryz.results111,Tryz.ntmps111]
 repeat' first|(with_reducible first|refine iY 40 ?_|apply jj|apply fY|apply ai|apply au|apply az|apply aL|apply af|refine aQ (id:=10) 21 mixed (by decide +kernel) ?_|apply al|refine And.intro ?_ ?_|refine cw (k0) ?_|refine cw (k1) ?_|refine cw (i0) ?_|refine cw (i1) ?_|refine cw (u _) ?_|refine cw (f) ?_|intro _)|(simp[*])|(refine ae (k0) ?_ ?_;(· (simp[*];done)))|(refine ae (k1) ?_ ?_;(· (simp[*];done)))|(refine ae (i0) ?_ ?_;(· (simp[*];done)))|(refine ae (i1) ?_ ?_;(· (simp[*];done)))|(refine ae (u _) ?_ ?_;(· (simp[*];done)))|(refine ae (f) ?_ ?_;(· (simp[*];done)))
 all_goals first|exact dz (by decide)|(simp[touch];done)
theorem O6:aC Tz.prog 23 [Tw.aM lK,.sl 2 [.int .i64 0,.int .i64 1]] (.tup [.int .i64 500,.int .i64 0]) true:=by
 have c1:=tZ;have c2:=O5;have c3:=G4.1
 have c4:aC Tz.prog 77 [Tw.aM lK,.sl 2 [.int .i64 0,.int .i64 1]] (.tup [rd2,.int .i64 0]) false:=by
  clear c3;rw[qw] at *;unfold rd2 at *;refine rcK Tz.func77 ?_;simp only[Tryz.results77,Tryz.ntmps77]
  repeat' first|(with_reducible first|apply ai|apply az|apply af|apply al|refine And.intro ?_ ?_|refine cw (c1) ?_|refine cw (c2) ?_|intro _)|(simp[*])|(refine ae (c1) ?_ ?_;(· (simp[*];done)))|(refine ae (c2) ?_ ?_;(· (simp[*];done)))
 clear c1 c2;rw[qw] at *;unfold rd2 at *;refine rcK Tz.func23 ?_;simp only[Tryz.results23,Tryz.ntmps23]
 repeat' first|(with_reducible first|apply ai|apply au|apply az|apply af|apply al|refine And.intro ?_ ?_|refine cw (c3) ?_|refine cw (c4) ?_|intro _)|(simp[*])|(refine ae (c3) ?_ ?_;(· (simp[*];done)))|(refine ae (c4) ?_ ?_;(· (simp[*];done)))
noncomputable instance zbm:av:=LD
def zbn:PV:=.sl 2 [.sl 4 [.int .i64 100,.int .i64 200,.int .i64 1000000,.int .i64 1000000000000000],.sl 4 [.int .i64 150,.int .i64 400,.int .i64 1000000000000000,.int .i64 1000000]]
theorem IF(v:Int):nI Tz.prog 81 [.sl 1 [.int .i64 v],.int .i64 (2:Nat)] [[.w false false (.int .i64 v),.w false false (.int .i64 v)]] (.msl 0 2 1 0 2):=by
 have c:=G5 2 (.inl rfl);refine xg 0 [] Tz.func81 (by kernel_rfl) rfl (di (by kernel_rfl)) (by simp) (by intro c hc;simp only[pT] at hc;subst hc;rfl) ?_;simp only[Tryz.results81,Tryz.ntmps81]
 repeat' first|(with_reducible first|refine iY 40 ?_|apply jj|apply fY|apply ai|apply au|apply az|apply aL|apply af|refine iX (id:=9) [0,1,2,3,4,5,6] [7,8,9] [[.slot 7],[],[],[],[],[],[]] [[.slot 7],[],[]] mixed (by decide +kernel) ?_|apply al|refine And.intro ?_ ?_|refine cw (c) ?_|intro _)|(simp[*])|(refine ae (c) ?_ ?_;(· (simp[*];done)))
 all_goals first|exact dz (by decide)|(simp[touch];done)
theorem xh:aC Tz.prog 73 [rd2,.int .i64 0,.sl 2 [.int .i64 100,.int .i64 0]] (.int .i64 200) true/\aC Tz.prog 73 [rd2,.int .i64 1,.sl 2 [.int .i64 100,.int .i64 0]] (.int .i64 250) true:=by
 have c1:=G2;unfold rd2;constructor
 all_goals
  refine rcK Tz.func73 ?_;simp only[Tryz.results73,Tryz.ntmps73]
  repeat' first|(with_reducible first|refine iY 40 ?_|apply jj|apply fY|apply ai|apply au|apply az|apply aL|apply af|refine aQ (id:=6) 18 mixed (by decide +kernel) ?_|apply al|refine And.intro ?_ ?_|refine cw (c1) ?_|intro _)|(simp[*,Tw.cg])|(refine ae (c1) ?_ ?_;(· (simp[*];done)))
 all_goals first|exact dz (by decide)|(simp[touch];done)
theorem O7:aC Tz.prog 25 [Tw.aM lK] (.tup [.agg [.sl 2 [.int .i64 1,.int .i64 0],.int .i64 350,.sl 2 [.int .i64 200,.int .i64 250],.sl 2 [.int .i64 100,.int .i64 0]],.int .i64 0]) false:=by
 have c1:=tZ;have c2:=O0;have c3:=O3;have r1:=IF (-1);have c4:aC Tz.prog 78 [rd2,.sl 2 [.int .i64 1,.int .i64 0]] (.int .i64 350) true:=G4.2;have c5:=xh.1;have c6:=xh.2;rw[qw] at *;unfold rd2 at *;simp only[ints,List.map] at c2;refine rcK Tz.func25 ?_;simp only[Tryz.results25,Tryz.ntmps25]
 repeat' first|(with_reducible first|refine iY 40 ?_|apply jj|apply fY|apply ai|apply au|apply az|apply aL|apply af|refine aQ (id:=5) 12 mixed (by decide +kernel) ?_|refine aQ (id:=14) 12 mixed (by decide +kernel) ?_|refine aQ (id:=19) 10 mixed (by decide +kernel) ?_|apply al|refine And.intro ?_ ?_|refine cw (c1) ?_|refine cw (c2) ?_|refine cw (c3) ?_|refine cwM (r1) ?_|refine cw (c4) ?_|refine cw (c5) ?_|refine cw (c6) ?_|intro _)|(simp[*])|(refine ae (c1) ?_ ?_;(· (simp[*];done)))|(refine ae (c2) ?_ ?_;(· (simp[*];done)))|(refine ae (c3) ?_ ?_;(· (simp[*];done)))|(refine ae (c4) ?_ ?_;(· (simp[*];done)))|(refine ae (c5) ?_ ?_;(· (simp[*];done)))|(refine ae (c6) ?_ ?_;(· (simp[*];done)))
 all_goals first|exact dz (by decide)|(simp[touch];done)
theorem O8:aC Tz.prog 17 [Tw.aM lK,.agg [.sl 2 [.int .i64 200,.int .i64 250],.sl 2 [.int .i64 100,.int .i64 0]]] (.tup [.int .i64 350,.int .i64 0]) true:=by
 have c1:=tZ;have c5:=xh.1;have c6:=xh.2
 have u:∀e,aC Tz.prog 71 [.bool true,.int .i64 e] (.int .i64 0) true:=λe=>dG true e
 have f:=G6;rw[qw] at *;unfold rd2 at *;refine rcK Tz.func17 ?_;simp only[Tryz.results17,Tryz.ntmps17]
 repeat' first|(with_reducible first|refine iY 40 ?_|apply jj|apply fY|apply ai|apply au|apply az|apply aL|apply af|apply al|refine And.intro ?_ ?_|refine cw (c1) ?_|refine cw (c5) ?_|refine cw (c6) ?_|refine cw (u _) ?_|refine cw (f) ?_|refine cw (fL _ _ _) ?_|intro _)|(simp[*,aU])|(refine ae (c1) ?_ ?_;(· (simp[*];done)))|(refine ae (c5) ?_ ?_;(· (simp[*];done)))|(refine ae (c6) ?_ ?_;(· (simp[*];done)))|(refine ae (u _) ?_ ?_;(· (simp[*];done)))|(refine ae (f) ?_ ?_;(· (simp[*];done)))|(refine ae (fL _ _ _) ?_ ?_;(· (simp[*];done)))
 all_goals first|exact dz (by decide)|decide|(simp[touch];done)
noncomputable instance zbq:av:=LD
@[simp]theorem IJ:dK Tz.prog 153=some [.w false false .undef]:=by kernel_rfl
def xQ:List AV:=[.ptr 0 1 0,.ptr 1 1 0,.ptr 4 1 0,.ptr 5 1 0]
theorem O9:aC Tz.prog 83 [rd2,.int .i64 100000] (.tup [.sl 2 [.int .i64 1,.int .i64 0],.int .i64 2]) true/\aC Tz.prog 83 [rd2,.int .i64 0] (.tup [.sl 2 [.int .i64 (-1),.int .i64 (-1)],.int .i64 0]) true/\aC Tz.prog 83 [rd2,.int .i64 100] (.tup [.sl 2 [.int .i64 0,.int .i64 (-1)],.int .i64 1]) true/\aC Tz.prog 83 [rd2,.int .i64 150] (.tup [.sl 2 [.int .i64 0,.int .i64 (-1)],.int .i64 1]) true/\aC Tz.prog 83 [rd2,.int .i64 200] (.tup [.sl 2 [.int .i64 1,.int .i64 0],.int .i64 2]) true:=by
 have r1:=IF (-1);unfold rd2 at *;refine⟨?_,?_,?_,?_,?_⟩
 all_goals
  refine rcK Tz.func83 ?_;simp only[Tryz.results83,Tryz.ntmps83]
  repeat' first|((with_reducible refine xj (id:=6) 12 119 mixed (by decide +kernel) (by decide +kernel) Tz.func119 (by kernel_rfl) rfl rfl ?_);simp[*,xQ,IJ,dC,eX,gz,oneOf];refine xi xQ rfl (di (by kernel_rfl)) (by simp) rfl ?_)|(with_reducible first|refine xj (id:=8) 9 119 mixed (by decide +kernel) (by decide +kernel) Tz.func119 (by kernel_rfl) rfl rfl ?_|refine xi xQ rfl (di (by kernel_rfl)) (by simp) rfl ?_|refine iY 40 ?_|apply jj|apply fY|apply ai|apply au|apply az|apply aL|apply af|refine aQ (id:=4) 23 mixed (by decide +kernel) ?_|refine aQ (id:=6) 14 mixed (by decide +kernel) ?_|apply al|refine And.intro ?_ ?_|refine cwM (r1) ?_|intro _)|(simp[*,xQ,IJ,dC,eX,gz,oneOf])
 all_goals first|exact dz (by decide)|(simp[touch];done)
end Go.Proofs.YthpkmilhiganjaaGreat
