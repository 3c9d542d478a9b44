/- Lemmas. -/
import Derived.Test.YthpkmilhiganjaaGreatPDa
import Derived.Test.YthpkmilhiganjaaGreatPLf
import Derived.Test.YthpkmilhiganjaaGreatPLg
import Derived.KernelRfl
import Derived.Test.YthpkmilhiganjaaGreatPLd
set_option linter.all false
set_option maxHeartbeats 32000000
set_option maxRecDepth 100000
namespace Go.Proofs.YthpkmilhiganjaaGreat
open Go Go.Fi
variable[bJ]
@[simp]theorem YP(l:List Int)(k:Nat):(ints l).take k=ints (l.take k):=by simp[ints,Jf]
def kZ(x:Rd)(plan:List Int)(k:Nat)(n:Int):Int:=
 if n=-1 then 0 else if dt (da n 0 ((x.bz.length:Int)-1)) 6≠0 then dt (da n 0 ((x.bz.length:Int)-1)) 6 else
 fg [dt (nth (nth x.fit k) n.toNat) 13,dt (!((plan.take k).any λy=>decide (n=y))) 26]
def gv(x:Rd)(plan:List Int):Int×Int:=if (plan.length:Int)≠x.os.length then (0,10) else fB (kZ x plan) plan 0
theorem OL(x:Rd)(plan:List Int)(hp:plan.length<100000)(hc:x.bz.length<100000)(hf:x.fit.length=x.os.length)(hr:∀i,i<x.os.length->(nth x.fit i).length=x.bz.length):bT Tz.prog 111 [x.pv,.sl plan.length (ints plan)] (.tup [.int .i64 (gv x plan).1,.int .i64 (gv x plan).2]) true:=by
 have ce:=OI x hc;generalize hR:gv x plan=R;obtain⟨R1,R2⟩:=R;unfold gv at hR;have kR:=keep hR;have kr:=keep hr;have kce:=keep ce;clear hR hr ce;obtain⟨bz,os,wt,zs,fit⟩:=x;unfold Rd.pv;simp only[] at hc hf ⊢;have kf:=keep hf;clear hf;refine rcK Tz.func111 ?_;simp only[Tryz.results111,Tryz.ntmps111]
 repeat' first|(with_reducible first|apply bG|apply bS|apply bU|apply bE|apply bP|refine And.intro ?_ ?_ |  refine ma ?_ ?_|intro _)|simp[*]
 rotate_right
 .rename_i b1
  have kT:dh (fB (kZ ⟨bz,os,wt,zs,fit⟩ plan) plan 0=(R1,R2)):=by
   rw[bH (by simpa using b1)] at kR;exact kR
  have kb:=keep b1;clear kR b1;refine fj (λ(k:Nat)=>k<=plan.length/\fB (kZ ⟨bz,os,wt,zs,fit⟩ plan) (plan.drop k) k=(R1,R2)) [0,1,19,20] (λ(k:Nat)=>[(21,.w false false (.int .i64 k))]) [] (λ(k:Nat)=>[]) (λ(k:Nat)=>plan.length-k) (λ(_u:Unit)=>R1=0/\R2=0) [] (λ(_u:Unit)=>[]) [] (λ(_u:Unit)=>[]) (0) ⟨cG _,kT⟩ ae ae (λk hk=>?_) (λ_u hf=>?_)
  .obtain⟨hk,hj⟩:=hk;by_cases h8:k<plan.length
   .have hh:k<os.length:=by have:=kb;unfold dh at this;omega
    have hg:k<fit.length:=by have:=kf;unfold dh at this;omega
    have h9:(nth fit k).length=bz.length:=kr k hh;rw[fQ plan k h8,fB] at hj;generalize hn:nth plan k=n at hj;have c1:=kce n;unfold Rd.pv at c1;simp only[] at c1;by_cases h1:n=-1
    .have hE:kZ ⟨bz,os,wt,zs,fit⟩ plan k n=0:=by unfold kZ;rw[bX h1]
     rw[bX hE] at hj;have kj:=keep hj;subst h1;clear hj hE c1 hg h9
     repeat' first|(with_reducible first|apply bG|apply cj|apply bS|apply cK|apply bE|apply bP|refine And.intro ?_ ?_|intro _)|simp[*,h8,hh,hn]
     all_goals first
      |omega
      |exact cu ab ab
      |(refine nx (k+1) ?_ ?_;(· exact⟨ab,kj⟩);(refine cg ?_ ?_<;>first|trivial|(simp[*];done)))
    .cases hw:da n 0 ((bz.length:Int)-1) with
     |false=>
      have hE:kZ ⟨bz,os,wt,zs,fit⟩ plan k n=6:=by unfold kZ;simp only[bH h1,hw];rfl
      rw[hE] at hj;rw[hw,show dt false 6=6 from rfl] at c1;have kj:dh (((k:Int),(6:Int))=(R1,R2)):=hj;clear hj hE hw hg h9
      repeat' first|(with_reducible first|apply bG|apply cj|apply bS|apply bU|apply bE|apply bP|refine And.intro ?_ ?_|intro _)|simp[*,h8,hh,hn,h1]|(refine bN (c1) ?_ ?_;· simp[*];done)
      all_goals first
       |omega
       |exact cu ab ab
       |exact (dq kj).1
       |exact (dq kj).2
     |true=>
      have hb:0<=n/\n<=(bz.length:Int)-1:=by simpa[da] using hw
      obtain⟨m,rfl⟩:∃m:Nat,n=m:=⟨n.toNat,ab⟩
      have hm:m<(nth fit k).length:=ab
      have hE:kZ ⟨bz,os,wt,zs,fit⟩ plan k m=fg [dt (nth (nth fit k) m) 13,dt (!((plan.take k).any λy=>decide ((m:Int)=y))) 26]:=by
       unfold kZ;simp only[bH h1,hw];rfl
      rw[hE] at hj;rw[hw,show dt true 6=0 from rfl] at c1;have c2:=oZ (plan.take k) aO m;rw[u5 hk] at c2;have c3:=Bp (dt (nth (nth fit k) m) 13) (dt (!((plan.take k).any λy=>decide ((m:Int)=y))) 26);generalize fg [dt (nth (nth fit k) m) 13,dt (!((plan.take k).any λy=>decide ((m:Int)=y))) 26]=e at hj c3;have kj:=keep hj;have hq:(m:Int)≠-1:=h1;clear hj hE hw hb h1 h9
      repeat' first|(with_reducible first|apply bG|apply cj|apply bS|apply bU|apply bE|refine cT (id:=10) 21 mixed ai ?_|apply bP|refine And.intro ?_ ?_ |  refine ma ?_ ?_|refine cw (fP _ _) ?_|intro _)|simp[*,h8,hh,hg,hm,hn,hq]|(refine bN (c1) ?_ ?_;· simp[*];done)|(refine bN (c2) ?_ ?_;· simp[*];done)|(refine bN (c3) ?_ ?_;· simp[*];done)|(refine bN (fP _ _) ?_ ?_;· simp[*];done)
      all_goals first
       |omega
       |exact cu ab ab
       |(rename_i hp;rw[bH hp] at kj;exact (dq kj).1)
       |(rename_i hp;rw[bH hp] at kj;exact (dq kj).2)
       |(rename_i hp;rw[bX hp] at kj;(refine nx (k+1) ?_ ?_;(· exact⟨ab,kj⟩);(refine cg ?_ ?_<;>first|trivial|(simp[*];done))))
   .have h':k=plan.length:=ab
    rw[h',jG] at hj;unfold fB at hj;have kj:=keep hj
    have hh:¬k<os.length:=by have:=kb;unfold dh at this;omega
    clear hj h'
    repeat' first|(with_reducible first|apply bG|apply cK|apply bE|apply bP|intro _)|simp[*,h8,hh]
    all_goals first
     |omega
     |(refine dp () ?_ ?_;(· exact⟨(dq kj).1.symm,(dq kj).2.symm⟩);(refine cg ?_ ?_<;>first|trivial|(simp[*];done)))
  .obtain⟨rfl,rfl⟩:=hf
   repeat' first|(with_reducible first|apply bG|apply bU|apply bE|intro _)|simp[*]
 all_goals first
  |(rename_i b1;rw[bX (by simpa using b1)] at kR;first|exact (dq kR).1|exact (dq kR).2)
theorem GQ(x:Rd)(plan:List Int):bT Tz.prog 86 [x.pv,.sl plan.length (ints plan)] (.fn 122 [.ip [.sl plan.length (ints plan)] 0,.ip [x.pv] 0]) false:=by
 generalize hx:x.pv=p;obtain⟨cs,rfl⟩:∃cs,p=.ip cs 0:=⟨_,hx.symm⟩;clear hx;refine rcK Tz.func86 ?_;simp only[Tryz.results86,Tryz.ntmps86]
 repeat' first|(with_reducible first|apply bG|apply bU|apply bE|intro _)|simp[*]
def eqF:List Int->List Int->Bool
 |[],[]=>true
 |a::r,b::s=>decide (a=b)&&eqF r s
 |_,_=>false
theorem Bv:∀(a b:List Int),eqF a b=decide (a=b)
 |[],[]=>rfl
 |[],b::s=>by simp[eqF]
 |a::r,[]=>by simp[eqF]
 |a::r,b::s=>by simp[eqF,Bv r s]
theorem GR(a b:List Int)(ha:a.length<100000):bT Tz.prog 52 [.sl a.length (ints a),.sl b.length (ints b)] (.bool (eqF a b)) true:=by
 generalize hR:eqF a b=R;have kR:=keep hR;clear hR;by_cases hl:a.length=b.length
 .have kl:=keep hl
  have kb:dh (b.length<100000):=by show b.length<100000;omega
  rw[hl]
  have kl2:dh ((a.length:Int)=b.length):=by show (a.length:Int)=b.length;omega
  clear hl ha;refine rcK Tz.func52 ?_;simp only[Tryz.results52,Tryz.ntmps52]
  repeat' first|(with_reducible first|apply bG|apply bS|apply bE|apply bP|intro _)|simp[*]
  refine fj (λ(k:Nat)=>k<=b.length/\eqF (a.drop k) (b.drop k)=R) [0,1] (λ(k:Nat)=>[(5,.w false false (.int .i64 k))]) [] (λ(k:Nat)=>[]) (λ(k:Nat)=>b.length-k) (λ(_u:Unit)=>R=true) [] (λ(_u:Unit)=>[]) [] (λ(_u:Unit)=>[]) (0) ⟨cG _,kR⟩ ae ae (λk hk=>?_) (λ_u hf=>?_)
  .obtain⟨hk,hj⟩:=hk;have hlen:a.length=b.length:=kl;have hb:b.length<100000:=kb;by_cases h8:k<b.length
   .have hi:k<a.length:=ab
    rw[fQ a k hi,fQ b k h8] at hj;unfold eqF at hj;have kj:=keep hj;clear hj hlen
    repeat' first|(with_reducible first|apply bG|apply cj|apply bS|apply bU|apply bE|refine cT (id:=6) 9 mixed ai ?_|apply bP|refine And.intro ?_ ?_ |  refine ma ?_ ?_|intro _)|simp[*,h8,hi]
    all_goals first
     |omega
     |exact cu ab ab
     |(rename_i hp;rw[show decide (nth a k=nth b k)=false by simpa using hp] at kj;simpa[dh] using kj)
     |(rename_i hp;rw[show decide (nth a k=nth b k)=true by simpa using hp] at kj;(refine nx (k+1) ?_ ?_;(· exact⟨ab,by simpa[dh] using kj⟩);(refine cg ?_ ?_<;>first|trivial|(simp[*];done))))
   .have h':k=b.length:=ab
    have ho:k=a.length:=ab
    rw[show b.drop k=[] from Jc ab,show a.drop k=[] from Jc ab] at hj;have kj:=keep hj;clear hj h' ho hlen
    repeat' first|(with_reducible first|apply bG|apply cK|apply bE|apply bP|intro _)|simp[*,h8]
    all_goals first
     |omega
     |(refine dp () ?_ ?_;(· exact kj.symm);(refine cg ?_ ?_<;>first|trivial|(simp[*];done)))
  .subst hf
   repeat' first|(with_reducible first|apply bG|apply bU|apply bE|intro _)|simp[*]
 .have hRf:R=false:=by
   rw[<-show eqF a b=R from kR,Bv];simp only[decide_eq_false_iff_not];intro e;exact hl (by rw[e])
  subst hRf
  have h2:¬((a.length:Int)=b.length):=ab
  clear kR;refine rcK Tz.func52 ?_;simp only[Tryz.results52,Tryz.ntmps52]
  repeat' first|(with_reducible first|apply bG|apply bU|apply bE|apply bP|intro _)|simp[*,h2,hl]
def mR:Tw.RND where
 bz:=[(⟨#[97]⟩,4,false),(⟨#[98]⟩,4,false)]
 os:=[(⟨#[112]⟩,1,false,0),(⟨#[113]⟩,1,false,0)]
 wt:=[[100,200],[150,400]]
 zs:=[]
 eU:=by
  refine⟨?_,?_,?_,af,af,af,af⟩
  .intro c hc;simp only[ew,mX,or_false] at hc
   rcases hc with rfl|rfl<;>decide
  .intro c hc;simp only[ew,mX,or_false] at hc
   rcases hc with rfl|rfl<;>decide
  .intro c hc;simp only[ew,mX,or_false] at hc
   rcases hc with rfl|rfl<;>decide
theorem SE:bT Tz.prog 68 [] (.agg [.sl 2 [.str ⟨#[97]⟩,.int .i64 4,.bool false,.str ⟨#[98]⟩,.int .i64 4,.bool false],.sl 2 [.str ⟨#[112]⟩,.int .i64 1,.bool false,.int .i64 0,.str ⟨#[113]⟩,.int .i64 1,.bool false,.int .i64 0],.sl 2 [.sl 2 [.int .i64 100,.int .i64 200],.sl 2 [.int .i64 150,.int .i64 400]],.sl 0 []]) false:=by
 refine rcK Tz.func68 ?_;simp only[Tryz.results68,Tryz.ntmps68]
 repeat' first|(with_reducible first|apply bG|apply bU|apply bE|intro _)|simp[*]
theorem qv:Tw.dB mR=.agg [.sl 2 [.str ⟨#[97]⟩,.int .i64 4,.bool false,.str ⟨#[98]⟩,.int .i64 4,.bool false],.sl 2 [.str ⟨#[112]⟩,.int .i64 1,.bool false,.int .i64 0,.str ⟨#[113]⟩,.int .i64 1,.bool false,.int .i64 0],.sl 2 [.sl 2 [.int .i64 100,.int .i64 200],.sl 2 [.int .i64 150,.int .i64 400]],.sl 0 []]:=rfl
theorem SF:Tz.prog.underlying 28=some (.slice 3):=aj
theorem G1(l:List Int)(x:PV)(hx:x∈ints l):flat x=true:=by
 obtain⟨n,_,rfl⟩:=gA.1 hx;rfl
theorem By:∀l:List Int,eh (List.map (AV.w false false) (ints l))=true
 |[]=>rfl
 |_::l=>By l
theorem OR(l:List Int)(h:l.length<100000):bT Tz.prog 97 [.sl l.length (ints l)] (.sl l.length (ints l)) true:=by
 refine rcK Tz.func97 ?_;simp only[Tryz.results97,Tryz.ntmps97];refine bG ?_;refine bE ?_;simp;refine bG ?_;refine bG ?_;refine Oh (ow:=false) (fl:=false) (k:=l.length) (cells:=ints l) SF ?_ ?_ ?_ ?_
 .simp
 .decide
 .decide
 intro b hb
 cases b with
 |true=>
  have hl:l=[]:=iW (hb rfl).1;subst hl
  repeat' first|(with_reducible first|apply bG|apply bU|apply bE|apply bP|intro _)|simp[*,ints]
 |false=>
  clear hb
  repeat' first|(with_reducible first|apply bG|apply bS|apply bU|apply bE|apply bP|refine And.intro ?_ ?_|intro _)|simp[*]
  all_goals first|omega|(rename_i hx;exact G1 l _ hx)|exact By l
theorem xl(l:List Int)(h:l.length<10000000):bT Tz.prog 24 [.sl l.length (ints l)] (.sl l.length (ints l)) true:=by
 refine rcK Tz.func24 ?_;simp only[Tryz.results24,Tryz.ntmps24]
 repeat' first|(with_reducible first|apply bG|apply bU|apply bE|refine And.intro ?_ ?_|intro _)|simp[*]
 all_goals first|omega|(rename_i hx;exact G1 l _ hx)|exact By l
theorem G2{α:Type}[Inhabited α](l:List α)(k:Nat)(h:k<l.length):l.take (k+1)=l.take k++[nth l k]:=by
 rw[ym h];simp[nth,eu,dY h]
def cpA(m:List (List Int))(k:Nat):List AV:=(dQ (m.take k)).map (.w true false)
theorem G3(m:List (List Int))(k:Nat)(h:k<=m.length):(cpA m k).length=k:=by
 simp[cpA,Nat.min_eq_left h]
@[simp]theorem Zy(m:List (List Int)):cpA m 0=[]:=rfl
theorem G4(m:List (List Int))(k:Nat)(h:k<m.length):cpA m (k+1)=cpA m k++[.w true false (.sl (nth m k).length (ints (nth m k)))]:=by
 unfold cpA dQ;rw[G2 m k h,yk,yk];rfl
@[simp]theorem Zz{D:List Nat}{h:bD}{n n':Nat}(m:List (List Int))(k:Nat):iq D h n n' (cpA m k) (cpA m k)=True:=eq_true (qu true false _)
theorem OS(m:List (List Int)):cpA m m.length=(dQ m).map (.w true false):=by simp[cpA]
theorem OT(m:List (List Int))(hl:m.length<100000)(h9:∀w∈m,w.length<100000):bT Tz.prog 74 [.sl m.length (dQ m)] (.sl m.length (dQ m)) true:=by
 refine rcK Tz.func74 ?_;simp only[Tryz.results74,Tryz.ntmps74]
 repeat' first|(with_reducible first|apply bG|apply bE|intro _)|simp[*]
 refine fI 1 (λ(k:Nat)=>k<=m.length) [0] (λ(k:Nat)=>[(3,.msl 0 k 1 0 k),(4,.w false false (.int .i64 k))]) [] (λ(k:Nat)=>[(0,cpA m k)]) (λ(k:Nat)=>m.length-k) (λ(_u:Unit)=>True) [] (λ(_u:Unit)=>[(3,.msl 0 m.length 1 0 m.length)]) [] (λ(_u:Unit)=>[(0,cpA m m.length)]) (0) (cG _) (de [] ae ae) (λk hk=>?_) (λ_u hf=>?_)
 .by_cases h8:k<m.length
  .have a4:=h9 (nth m k) (by rw[nth,eu,dY h8];exact List.getElem_mem _);clear h9;have cc:=xl (nth m k) ab;have hlen:=G3 m k hk;have ks:=keep (G4 m k h8)
   repeat' first|(with_reducible first|apply bG|apply ry|apply bS|apply bE|apply bP|refine And.intro ?_ ?_|intro _)|simp[*,h8,hlen]|(refine bN (cc) ?_ ?_;· simp[*];done)
   all_goals first
    |exact cu ab ab
    |omega
    |(refine nx (k+1) ?_ ?_;(· omega);(refine de [] ?_ ?_<;>first|trivial|(simp[*,ks,G4 m k h8];done)))
  .have h':k=m.length:=ab
   subst h'
   repeat' first|(with_reducible first|apply bG|apply cK|apply bE|apply bP|intro _)|simp[*]
   all_goals first
    |(refine dp () ?_ ?_;(· trivial);(refine de [] ?_ ?_<;>first|trivial|(simp[*];done)))
 .have hlen:=G3 m m.length (bV _);rw[OS]
  repeat' first|(with_reducible first|apply bG|apply bU|apply bE|intro _)|simp[*,hlen]
theorem Bz(l:List Car)(x:PV)(hx:x∈dk l):flat x=true/\sA x=true:=by
 obtain⟨c,_,hx⟩:=uZ.1 hx;simp only[Tw.eX,ew,mX,or_false] at hx
 rcases hx with rfl|rfl|rfl<;>exact⟨rfl,rfl⟩
theorem BA(l:List Ord)(x:PV)(hx:x∈dj l):flat x=true/\sA x=true:=by
 obtain⟨c,_,hx⟩:=uZ.1 hx;simp only[Tw.dW,ew,mX,or_false] at hx
 rcases hx with rfl|rfl|rfl|rfl<;>exact⟨rfl,rfl⟩
theorem G5(l:List Par)(x:PV)(hx:x∈dm l):flat x=true/\sA x=true:=by
 obtain⟨c,_,hx⟩:=uZ.1 hx;simp only[Tw.dP,ew,mX,or_false] at hx
 rcases hx with rfl|rfl<;>exact⟨rfl,rfl⟩
theorem G6(r:Tw.RND):bT Tz.prog 18 [Tw.dB r] (Tw.dB r) true:=by
 obtain⟨bz,os,wt,zs,eU⟩:=r;obtain⟨f1,f2,f3,f4,f5,f6,f7⟩:=eU;have c1:=OT wt f6 f3;unfold Tw.dB Tw.RND.jh Tw.RND.osP Tw.RND.jV Tw.RND.zsP Tw.RND.nw Tw.RND.wait;simp only[]
 change bT Tz.prog 18 [.agg [.sl bz.length (dk bz),.sl os.length (dj os),.sl wt.length (dQ wt),.sl zs.length (dm zs)]] (.agg [.sl bz.length (dk bz),.sl os.length (dj os),.sl wt.length (dQ wt),.sl zs.length (dm zs)]) true
 clear f1 f2 f3 f6;refine rcK Tz.func18 ?_;simp only[Tryz.results18,Tryz.ntmps18]
 repeat' first|(with_reducible first|apply bG|apply bU|apply bE|refine j8 (id:=1) [0,1,2,4,5,6,8,9,11,12,13] [3,7,10,14,15,16] [[],[],[],[.new 0],[.new 0],[.new 0],[.new 0,.new 1],[.new 0,.new 1],[.new 0,.new 1],[.new 0,.new 1],[.new 0,.new 1]] [[.new 0],[.new 1],[],[.new 2],[],[.slot 2]] mixed ai ?_|refine And.intro ?_ ?_|intro _)|simp[*]|(refine bN (c1) ?_ ?_;· simp[*];done)
 all_goals first
  |omega
  |(rename_i hx;first|exact (Bz _ _ hx).1|exact (BA _ _ hx).1|exact (G5 _ _ hx).1)
  |(refine tX false false _ (gz.2 λy hy=>?_);first|exact (Bz _ _ hy).2|exact (BA _ _ hy).2|exact (G5 _ _ hy).2)
def iS{α:Type}(p:α->Bool)(l:List α)(k:Nat):Bool:=(l.drop k).all p
theorem BD{α:Type}[Inhabited α]{p:α->Bool}{l:List α}{k:Nat}(h:k<l.length):iS p l k=(p (nth l k)&&iS p l (k+1)):=by
 unfold iS;rw[fQ l k h];rfl
theorem BE{α:Type}(p:α->Bool)(l:List α):iS p l l.length=true:=by
 unfold iS;rw[jG];rfl
def IJ(c o w z:Nat):Bool:=decide (¬(((4<c/\c<=8)\/10<c)\/((4<o/\o<=8)\/10<o)\/12<w\/66<z))
def sI(bz:List Car)(os:List Ord)(wt:List (List Int))(zs:List Par):Bool:=
 IJ bz.length os.length wt.length zs.length&&(bz.all (λx:Car=>decide (x.1.size<=20))&&(os.all (λx:Ord=>decide (x.1.size<=20))&&wt.all (λw:List Int=>decide (w.length<=10))))
theorem SH(bz:List Car)(os:List Ord)(wt:List (List Int))(zs:List Par):bT Tz.prog 16 [.agg [.sl bz.length (dk bz),.sl os.length (dj os),.sl wt.length (dQ wt),.sl zs.length (dm zs)]] (.bool (sI bz os wt zs)) true:=by
 unfold sI;have hA0:bz.all (λx:Car=>decide (x.1.size<=20))=iS (λx:Car=>decide (x.1.size<=20)) bz 0:=rfl;have hA2:os.all (λx:Ord=>decide (x.1.size<=20))=iS (λx:Ord=>decide (x.1.size<=20)) os 0:=rfl;have hA4:wt.all (λw:List Int=>decide (w.length<=10))=iS (λw:List Int=>decide (w.length<=10)) wt 0:=rfl;rw[hA0,hA2,hA4];clear hA0 hA2 hA4;generalize hA0:iS (λx:Car=>decide (x.1.size<=20)) bz 0=A0;generalize hA2:iS (λx:Ord=>decide (x.1.size<=20)) os 0=A2;generalize hA4:iS (λw:List Int=>decide (w.length<=10)) wt 0=A4;have kA0:=keep hA0;have kA2:=keep hA2;have kA4:=keep hA4;clear hA0 hA2 hA4
 cases hS:IJ bz.length os.length wt.length zs.length with
 |false=>
  have hS:=of_decide_eq_false hS;have kS:=keep hS;clear hS;simp only[iv];refine rcK Tz.func16 ?_;simp only[Tryz.results16,Tryz.ntmps16]
  repeat' first|(with_reducible first|apply bG|apply bS|apply bU|apply bE|apply bP|refine NR ?_ ?_|refine NQ ?_ ?_|refine jJ ?_ ?_|intro _)|simp[*]
  all_goals (exfalso;have hS:=kS;unfold dh at hS;omega)
 |true=>
  have hS:=of_decide_eq_true hS
  have l1:bz.length<=10:=ab
  have l2:os.length<=10:=ab
  have l3:wt.length<=12:=ab
  have kS:=keep hS;clear hS;simp only[fV]
  have w5:¬(66:Int)<zs.length:=by have hS:=kS;unfold dh at hS;omega
  have w6:¬(12:Int)<wt.length:=ab
  have w7:¬(10:Int)<bz.length:=ab
  have w8:¬(10:Int)<os.length:=ab
  have key:((¬(4:Int)<bz.length)\/((4:Int)<bz.length/\¬(bz.length:Int)<=8)):=by have hS:=kS;unfold dh at hS;omega
  have key2:((¬(4:Int)<os.length)\/((4:Int)<os.length/\¬(os.length:Int)<=8)):=by have hS:=kS;unfold dh at hS;omega
  clear kS hS
  rcases key with g1|⟨g1,g2⟩<;>rcases key2 with g3|⟨g3,g4⟩
  all_goals
   refine rcK Tz.func16 ?_;simp only[Tryz.results16,Tryz.ntmps16]
   repeat' first|(with_reducible first|apply bG|apply bS|apply bE|apply bP|intro _)|simp[*]
   have kk:=keep (And.intro w5 (And.intro w6 (And.intro w7 w8)));clear w5 w6 w7 w8;refine fj (λ(k:Nat)=>k<=bz.length/\iS (λx:Car=>decide (x.1.size<=20)) bz k=A0) [1] (λ(k:Nat)=>[(3,.w false false (.int .i64 k))]) [0] (λ(k:Nat)=>[]) (λ(k:Nat)=>bz.length-k) (λ(_u:Unit)=>A0=true) [1] (λ(_u:Unit)=>[]) [0] (λ(_u:Unit)=>[]) (0) ⟨cG _,kA0⟩ ae ae (λk hk=>?_) (λ_u hf=>?_)
   .obtain⟨hk,hj⟩:=hk;by_cases h8:k<bz.length
    .rw[BD h8] at hj;by_cases hr:20<((nth bz k).1.size:Int)
     .have hA:A0=false:=by rw[<-hj];simp;omega
      clear hj kA0;subst hA
      repeat' first|(with_reducible first|apply bG|apply cj|apply bS|apply bU|apply bE|apply bP|intro _)|simp[*,h8,hr]
      all_goals first|exact cu ab ab|omega|(simp;done)
     .have kj:dh (iS (λx:Car=>decide (x.1.size<=20)) bz (k+1)=A0):=keep (by rw[<-hj,decide_eq_true (show (nth bz k).1.size<=20 by omega),fV]);clear hj
      repeat' first|(with_reducible first|apply bG|apply cj|apply bS|apply bE|apply bP|refine And.intro ?_ ?_|intro _)|simp[*,h8,hr]
      all_goals first
       |exact cu ab ab
       |omega
       |(refine nx (k+1) ?_ ?_;(· exact⟨ab,kj⟩);(refine cg ?_ ?_<;>first|trivial|(simp[*];done)))
    .have h':k=bz.length:=ab
     subst h';rw[BE] at hj;have kj:=keep hj.symm;clear hj kA0
     repeat' first|(with_reducible first|apply bG|apply cK|apply bE|apply bP|intro _)|simp[*]
     all_goals (refine dp () ?_ ?_;(· exact kj);(refine cg ?_ ?_<;>first|trivial|(simp[*];done)))
   .subst hf;clear kA0;simp only[fV]
    repeat' first|(with_reducible first|apply bG|apply bE|intro _)|simp[*]
    refine fj (λ(k:Nat)=>k<=os.length/\iS (λx:Ord=>decide (x.1.size<=20)) os k=A2) [1] (λ(k:Nat)=>[(4,.w false false (.int .i64 k))]) [0] (λ(k:Nat)=>[]) (λ(k:Nat)=>os.length-k) (λ(_u:Unit)=>A2=true) [1] (λ(_u:Unit)=>[]) [0] (λ(_u:Unit)=>[]) (0) ⟨cG _,kA2⟩ ae ae (λk hk=>?_) (λ_u hf=>?_)
    .obtain⟨hk,hj⟩:=hk;by_cases h8:k<os.length
     .rw[BD h8] at hj;by_cases hr:20<((nth os k).1.size:Int)
      .have hA:A2=false:=by rw[<-hj];simp;omega
       clear hj kA2;subst hA
       repeat' first|(with_reducible first|apply bG|apply cj|apply bS|apply bU|apply bE|apply bP|intro _)|simp[*,h8,hr]
       all_goals first|exact cu ab ab|omega|(simp;done)
      .have kj:dh (iS (λx:Ord=>decide (x.1.size<=20)) os (k+1)=A2):=keep (by rw[<-hj,decide_eq_true (show (nth os k).1.size<=20 by omega),fV]);clear hj
       repeat' first|(with_reducible first|apply bG|apply cj|apply bS|apply bE|apply bP|refine And.intro ?_ ?_|intro _)|simp[*,h8,hr]
       all_goals first
        |exact cu ab ab
        |omega
        |(refine nx (k+1) ?_ ?_;(· exact⟨ab,kj⟩);(refine cg ?_ ?_<;>first|trivial|(simp[*];done)))
     .have h':k=os.length:=ab
      subst h';rw[BE] at hj;have kj:=keep hj.symm;clear hj kA2
      repeat' first|(with_reducible first|apply bG|apply cK|apply bE|apply bP|intro _)|simp[*]
      all_goals (refine dp () ?_ ?_;(· exact kj);(refine cg ?_ ?_<;>first|trivial|(simp[*];done)))
    .subst hf;clear kA2;simp only[fV]
     repeat' first|(with_reducible first|apply bG|apply bE|intro _)|simp[*]
     refine fj (λ(k:Nat)=>k<=wt.length/\iS (λw:List Int=>decide (w.length<=10)) wt k=A4) [1] (λ(k:Nat)=>[(5,.w false false (.int .i64 k))]) [0] (λ(k:Nat)=>[]) (λ(k:Nat)=>wt.length-k) (λ(_u:Unit)=>A4=true) [] (λ(_u:Unit)=>[]) [0] (λ(_u:Unit)=>[]) (0) ⟨cG _,kA4⟩ ae ae (λk hk=>?_) (λ_u hf=>?_)
     .obtain⟨hk,hj⟩:=hk;by_cases h8:k<wt.length
      .rw[BD h8] at hj;by_cases hr:10<((nth wt k).length:Int)
       .have hA:A4=false:=by rw[<-hj];simp;omega
        clear hj kA4;subst hA
        repeat' first|(with_reducible first|apply bG|apply cj|apply bS|apply bU|apply bE|apply bP|intro _)|simp[*,h8,hr]
        all_goals first|exact cu ab ab|omega|(simp;done)
       .have kj:dh (iS (λw:List Int=>decide (w.length<=10)) wt (k+1)=A4):=keep (by rw[<-hj,decide_eq_true (show (nth wt k).length<=10 by omega),fV]);clear hj
        repeat' first|(with_reducible first|apply bG|apply cj|apply bS|apply bE|apply bP|refine And.intro ?_ ?_|intro _)|simp[*,h8,hr]
        all_goals first
         |exact cu ab ab
         |omega
         |(refine nx (k+1) ?_ ?_;(· exact⟨ab,kj⟩);(refine cg ?_ ?_<;>first|trivial|(simp[*];done)))
      .have h':k=wt.length:=ab
       subst h';rw[BE] at hj;have kj:=keep hj.symm;clear hj kA4
       repeat' first|(with_reducible first|apply bG|apply cK|apply bE|apply bP|intro _)|simp[*]
       all_goals (refine dp () ?_ ?_;(· exact kj);(refine cg ?_ ?_<;>first|trivial|(simp[*];done)))
     .subst hf
      repeat' first|(with_reducible first|apply bG|apply bU|apply bE|intro _)|simp[*]
theorem G9{bz:List Car}{os:List Ord}{wt:List (List Int)}{zs:List Par}(h:sI bz os wt zs=true):(bz.length<=10/\(8<bz.length\/bz.length<=4))/\(os.length<=10/\(8<os.length\/os.length<=4))/\wt.length<=12/\zs.length<=66/\(∀c∈bz,c.1.size<=20)/\(∀o∈os,o.1.size<=20)/\∀w∈wt,w.length<=10:=by
 unfold sI at h;simp only[eT,gz,decide_eq_true_eq] at h;obtain⟨h1,h2,h3,h4⟩:=h;have h1:=of_decide_eq_true h1;exact⟨⟨ab,ab⟩,⟨ab,ab⟩,ab,ab,h2,h3,h4⟩
def IK(bz:List Car)(os:List Ord)(wt:List (List Int))(zs:List Par)(h:sI bz os wt zs=true):Tw.RND:=⟨bz,os,wt,zs,by
 obtain⟨⟨h1,_⟩,⟨h2,_⟩,h3,h4,h5,h6,h7⟩:=G9 h
 exact⟨λc hc=>by have:=h5 c hc;omega,λc hc=>by have:=h6 c hc;omega,λc hc=>by have:=h7 c hc;omega,ab,ab,ab,ab⟩⟩
def rd2:PV:=.ip [.sl 2 [.str ⟨#[97]⟩,.int .i64 4,.bool false,.str ⟨#[98]⟩,.int .i64 4,.bool false],.sl 2 [.str ⟨#[112]⟩,.int .i64 1,.bool false,.int .i64 0,.str ⟨#[113]⟩,.int .i64 1,.bool false,.int .i64 0],.sl 2 [.sl 2 [.int .i64 100,.int .i64 200],.sl 2 [.int .i64 150,.int .i64 400]],.sl 0 [],.sl 2 [.sl 2 [.bool true,.bool true],.sl 2 [.bool true,.bool true]]] 0
theorem Hb:bT Tz.prog 116 [.int .i64 0] (.int .i64 1000000) true:=sD 0 af
theorem Hc(l:List PV):bT Tz.prog 86 [rd2,.sl 2 l] (.fn 122 [.ip [.sl 2 l] 0,.ip [rd2] 0]) false:=by
 unfold rd2;refine rcK Tz.func86 ?_;simp only[Tryz.results86,Tryz.ntmps86]
 repeat' first|(with_reducible first|apply bG|apply bU|apply bE|intro _)|simp[*]
theorem Hd:bT Tz.prog 78 [rd2,.sl 2 [.int .i64 0,.int .i64 1]] (.int .i64 500) true/\bT Tz.prog 78 [rd2,.sl 2 [.int .i64 1,.int .i64 0]] (.int .i64 350) true:=by
 have c1:=Hb
 have c2:=λl=>Hc l
 unfold rd2 at *;constructor
 all_goals
  refine ug Tz.func78 aj rfl (gH aj) ?_;simp only[Tryz.results78,Tryz.ntmps78]
  repeat' first|(with_reducible first|apply iF|apply ua|refine xh (gf:=122) rfl Tz.func122 aj rfl (gH aj) (λl=>?_)|apply iE|refine rD (id:=3) 16 ?_ ?_|refine xj rfl ae ?_|apply Ha|refine jL 40 ?_|apply jX|apply gS|apply bG|apply bS|apply bU|apply cK|apply bE|refine cT (id:=5) 5 mixed ai ?_|refine cT (id:=10) 14 mixed ai ?_|apply bP|refine And.intro ?_ ?_|refine cw (c2 _) ?_|intro _)|simp[*,Tw.dW,gq,jW]|(refine bN (c1) ?_ ?_;· simp[*];done)|(refine bN (c2 _) ?_ ?_;· simp[*];done)
 all_goals first|exact gP af|(simp[touch];done)
theorem O9:bT Tz.prog 80 [.ip [.sl 2 [.str ⟨#[97]⟩,.int .i64 4,.bool false,.str ⟨#[98]⟩,.int .i64 4,.bool false],.sl 2 [.str ⟨#[112]⟩,.int .i64 1,.bool false,.int .i64 0,.str ⟨#[113]⟩,.int .i64 1,.bool false,.int .i64 0],.sl 2 [.sl 2 [.int .i64 100,.int .i64 200],.sl 2 [.int .i64 150,.int .i64 400]],.sl 0 [],.sl 2 [.sl 2 [.bool true,.bool true],.sl 2 [.bool true,.bool true]]] 0] (.sl 2 [.sl 4 (ints [100,200,1000000,1000000000000000]),.sl 4 (ints [150,400,1000000000000000,1000000])]) true:=by
 have c1:=sD 0 af
 have e:(dR 0:Int)=1000000:=aj
 rw[e] at c1;refine rcK Tz.func80 ?_;simp only[Tryz.results80,Tryz.ntmps80]
 repeat' first|(with_reducible first|refine jL 40 ?_|apply jX|apply gS|apply bG|apply bS|apply bU|apply cK|apply bE|apply bP|refine And.intro ?_ ?_|intro _)|simp[*,Tw.dW,ints]|(refine bN (c1) ?_ ?_;· simp[*];done)
 all_goals exact gP af
theorem He(n:Nat)(h:n=2\/n=4):bT Tz.prog 118 [.int .u64 1,.int .u64 n] (.tup [.int .u64 0,.int .u64 n]) true:=by
 have c:bT Tz.prog 154 [.int .u64 1,.int .u64 n] (.tup [.int .u64 0,.int .u64 n]) true:=by
  rcases h with rfl|rfl
  all_goals
   refine rcK Tz.func154 ?_;simp only[Tryz.results154,Tryz.ntmps154]
   repeat' first|(with_reducible first|apply bG|apply bU|apply bE|refine And.intro ?_ ?_|intro _)|simp[*]
  all_goals exact gP af
 refine rcK Tz.func118 ?_;simp only[Tryz.results118,Tryz.ntmps118]
 repeat' first|(with_reducible first|apply bG|apply bS|apply bU|apply bE|apply bP|refine And.intro ?_ ?_|intro _)|simp[*]|(refine bN (c) ?_ ?_;· simp[*];done)
theorem IL(v:Int):og Tz.prog 81 [.sl 1 [.int .i64 v],.int .i64 (4:Nat)] [[.w false false (.int .i64 v),.w false false (.int .i64 v),.w false false (.int .i64 v),.w false false (.int .i64 v)]] (.msl 0 4 1 0 4):=by
 have c:=He 4 (.inr rfl);refine xk 0 [] Tz.func81 aj rfl (gH aj) ae (by intro c hc;simp only[qW] at hc;subst hc;rfl) ?_;simp only[Tryz.results81,Tryz.ntmps81]
 repeat' first|(with_reducible first|refine jL 40 ?_|apply jX|apply gS|apply bG|apply bS|apply bU|apply cK|apply bE|refine j8 (id:=9) [0,1,2,3,4,5,6] [7,8,9] [[.slot 7],[],[],[],[],[],[]] [[.slot 7],[],[]] mixed ai ?_|apply bP|refine And.intro ?_ ?_|intro _)|simp[*]|(refine bN (c) ?_ ?_;· simp[*];done)
 all_goals first|exact gP af|(simp[touch];done)
theorem Pa:bT Tz.prog 79 [.sl 2 [.sl 4 [.int .i64 100,.int .i64 200,.int .i64 1000000,.int .i64 1000000000000000],.sl 4 [.int .i64 150,.int .i64 400,.int .i64 1000000000000000,.int .i64 1000000]],.int .i64 4] (.ip [.sl 2 [.sl 4 [.int .i64 100,.int .i64 200,.int .i64 1000000,.int .i64 1000000000000000],.sl 4 [.int .i64 150,.int .i64 400,.int .i64 1000000000000000,.int .i64 1000000]],.sl 2 [.int .i64 200,.int .i64 250],.sl 4 [.int .i64 (-100),.int .i64 0,.int .i64 0,.int .i64 0],.sl 4 [.int .i64 1,.int .i64 0,.int .i64 (-1),.int .i64 (-1)],.sl 4 [.int .i64 (-1),.int .i64 0,.int .i64 0,.int .i64 (-1)]] 0) false:=by
 have r1:=IL (-1);have r2:=IL 10000000000000000;refine rcK Tz.func79 ?_;simp only[Tryz.results79,Tryz.ntmps79]
 repeat' first|(with_reducible first|refine rF (id:=5) 2 Tz.func117 aj rfl af rfl ?_|refine Bx af ae rfl ?_|refine jL 40 ?_|apply jX|apply gS|apply GZ|apply G0|apply bG|apply bS|apply bU|apply cK|apply bE|refine cT (id:=1) 12 mixed ai ?_|refine cT (id:=1) 7 mixed ai ?_|refine cT (id:=9) 27 mixed ai ?_|refine cT (id:=20) 16 mixed ai ?_|refine cT (id:=32) 13 mixed ai ?_|apply bP|refine And.intro ?_ ?_|refine cwM (r1) ?_|refine cwM (r2) ?_|intro _)|simp[*,gq,jW]
 all_goals try first|exact gP af|(simp[touch];done)
end Go.Proofs.YthpkmilhiganjaaGreat
namespace Go.Proofs.YthpkmilhiganjaaGreat
open Go Go.Fi
noncomputable instance zbo:bJ:=LD
theorem Pb:ceR mR=0:=aj
theorem ui:bT Tz.prog 69 [Tw.dB mR] (.tup [rd2,.int .i64 0]) false:=by
 have c:=qI mR;rw[xi mR Pb] at c;exact c
theorem Hf:bT Tz.prog 70 [.sl 2 [.int .i64 0,.int .i64 0]] (.int .i64 0) true:=Bo [0,0] af
theorem Pd:bT Tz.prog 111 [rd2,.sl 2 [.int .i64 0,.int .i64 1]] (.tup [.int .i64 0,.int .i64 0]) true:=by
 have k:∀n:Int,(n=0\/n=1)->bT Tz.prog 91 [rd2,.int .i64 n] (.int .i64 0) true:=λn h=>by
  rcases h with rfl|rfl
  all_goals
   unfold rd2;refine rcK Tz.func91 ?_;simp only[Tryz.results91,Tryz.ntmps91]
   repeat' first|(with_reducible first|apply bG|apply bU|apply bE|refine And.intro ?_ ?_|refine cw (iG _ _ _) ?_|refine cw (fP _ _) ?_|intro _)|simp[*]|(refine bN (iG _ _ _) ?_ ?_;· simp[*];done)|(refine bN (fP _ _) ?_ ?_;· simp[*];done)
  all_goals first|exact gP af|decide
 have k0:=k 0 (.inl rfl);have k1:=k 1 (.inr rfl);have i0:bT Tz.prog 123 [.sl 0 [],.int .i64 0] (.bool false) true:=oZ [] af 0;have i1:bT Tz.prog 123 [.sl 1 [.int .i64 0],.int .i64 1] (.bool false) true:=oZ [0] af 1
 have u:∀e,bT Tz.prog 71 [.bool true,.int .i64 e] (.int .i64 0) true:=λe=>fP true e
 have f:=Hf;clear k;unfold rd2 at *;refine rcK Tz.func111 ?_;simp only[Tryz.results111,Tryz.ntmps111]
 repeat' first|(with_reducible first|refine jL 40 ?_|apply jX|apply gS|apply bG|apply bS|apply bU|apply cK|apply bE|refine cT (id:=10) 21 mixed ai ?_|apply bP|refine And.intro ?_ ?_|refine cw (u _) ?_|intro _)|simp[*]|(refine bN (k0) ?_ ?_;· simp[*];done)|(refine bN (k1) ?_ ?_;· simp[*];done)|(refine bN (i0) ?_ ?_;· simp[*];done)|(refine bN (i1) ?_ ?_;· simp[*];done)|(refine bN (u _) ?_ ?_;· simp[*];done)|(refine bN (f) ?_ ?_;· simp[*];done)
 all_goals first|exact gP af|(simp[touch];done)
theorem Pe:bT Tz.prog 23 [Tw.dB mR,.sl 2 [.int .i64 0,.int .i64 1]] (.tup [.int .i64 500,.int .i64 0]) true:=by
 have c1:=ui;have c2:=Pd;have c3:=Hd.1
 have c4:bT Tz.prog 77 [Tw.dB mR,.sl 2 [.int .i64 0,.int .i64 1]] (.tup [rd2,.int .i64 0]) false:=by
  clear c3;rw[qv] at *;unfold rd2 at *;refine rcK Tz.func77 ?_;simp only[Tryz.results77,Tryz.ntmps77]
  repeat' first|(with_reducible first|apply bG|apply bU|apply bE|apply bP|refine And.intro ?_ ?_|intro _)|simp[*]|(refine bN (c1) ?_ ?_;· simp[*];done)|(refine bN (c2) ?_ ?_;· simp[*];done)
 clear c1 c2;rw[qv] at *;unfold rd2 at *;refine rcK Tz.func23 ?_;simp only[Tryz.results23,Tryz.ntmps23]
 repeat' first|(with_reducible first|apply bG|apply bS|apply bU|apply bE|apply bP|refine And.intro ?_ ?_|intro _)|simp[*]|(refine bN (c3) ?_ ?_;· simp[*];done)|(refine bN (c4) ?_ ?_;· simp[*];done)
noncomputable instance zbp:bJ:=LD
theorem IM(v:Int):og Tz.prog 81 [.sl 1 [.int .i64 v],.int .i64 (2:Nat)] [[.w false false (.int .i64 v),.w false false (.int .i64 v)]] (.msl 0 2 1 0 2):=by
 have c:=He 2 (.inl rfl);refine xk 0 [] Tz.func81 aj rfl (gH aj) ae (by intro c hc;simp only[qW] at hc;subst hc;rfl) ?_;simp only[Tryz.results81,Tryz.ntmps81]
 repeat' first|(with_reducible first|refine jL 40 ?_|apply jX|apply gS|apply bG|apply bS|apply bU|apply cK|apply bE|refine j8 (id:=9) [0,1,2,3,4,5,6] [7,8,9] [[.slot 7],[],[],[],[],[],[]] [[.slot 7],[],[]] mixed ai ?_|apply bP|refine And.intro ?_ ?_|intro _)|simp[*]|(refine bN (c) ?_ ?_;· simp[*];done)
 all_goals first|exact gP af|(simp[touch];done)
theorem xm:bT Tz.prog 73 [rd2,.int .i64 0,.sl 2 [.int .i64 100,.int .i64 0]] (.int .i64 200) true/\bT Tz.prog 73 [rd2,.int .i64 1,.sl 2 [.int .i64 100,.int .i64 0]] (.int .i64 250) true:=by
 have c1:=Hb;unfold rd2;constructor
 all_goals
  refine rcK Tz.func73 ?_;simp only[Tryz.results73,Tryz.ntmps73]
  repeat' first|(with_reducible first|refine jL 40 ?_|apply jX|apply gS|apply bG|apply bS|apply bU|apply cK|apply bE|refine cT (id:=6) 18 mixed ai ?_|apply bP|refine And.intro ?_ ?_|intro _)|simp[*,Tw.dW]|(refine bN (c1) ?_ ?_;· simp[*];done)
 all_goals first|exact gP af|(simp[touch];done)
theorem Pf:bT Tz.prog 25 [Tw.dB mR] (.tup [.agg [.sl 2 [.int .i64 1,.int .i64 0],.int .i64 350,.sl 2 [.int .i64 200,.int .i64 250],.sl 2 [.int .i64 100,.int .i64 0]],.int .i64 0]) false:=by
 have c1:=ui;have c2:=O9;have c3:=Pa;have r1:=IM (-1);have c4:bT Tz.prog 78 [rd2,.sl 2 [.int .i64 1,.int .i64 0]] (.int .i64 350) true:=Hd.2;have c5:=xm.1;have c6:=xm.2;rw[qv] at *;unfold rd2 at *;simp only[ints,List.map] at c2;refine rcK Tz.func25 ?_;simp only[Tryz.results25,Tryz.ntmps25]
 repeat' first|(with_reducible first|refine jL 40 ?_|apply jX|apply gS|apply bG|apply bS|apply bU|apply cK|apply bE|refine cT (id:=5) 12 mixed ai ?_|refine cT (id:=14) 12 mixed ai ?_|refine cT (id:=19) 10 mixed ai ?_|apply bP|refine And.intro ?_ ?_|refine cwM (r1) ?_|intro _)|simp[*]|(refine bN (c1) ?_ ?_;· simp[*];done)|(refine bN (c2) ?_ ?_;· simp[*];done)|(refine bN (c3) ?_ ?_;· simp[*];done)|(refine bN (c4) ?_ ?_;· simp[*];done)|(refine bN (c5) ?_ ?_;· simp[*];done)|(refine bN (c6) ?_ ?_;· simp[*];done)
 all_goals first|exact gP af|(simp[touch];done)
theorem Pg:bT Tz.prog 17 [Tw.dB mR,.agg [.sl 2 [.int .i64 200,.int .i64 250],.sl 2 [.int .i64 100,.int .i64 0]]] (.tup [.int .i64 350,.int .i64 0]) true:=by
 have c1:=ui;have c5:=xm.1;have c6:=xm.2
 have u:∀e,bT Tz.prog 71 [.bool true,.int .i64 e] (.int .i64 0) true:=λe=>fP true e
 have f:=Hf;rw[qv] at *;unfold rd2 at *;refine rcK Tz.func17 ?_;simp only[Tryz.results17,Tryz.ntmps17]
 repeat' first|(with_reducible first|refine jL 40 ?_|apply jX|apply gS|apply bG|apply bS|apply bU|apply cK|apply bE|apply bP|refine And.intro ?_ ?_|refine cw (u _) ?_|refine cw (iG _ _ _) ?_|intro _)|simp[*,da]|(refine bN (c1) ?_ ?_;· simp[*];done)|(refine bN (c5) ?_ ?_;· simp[*];done)|(refine bN (c6) ?_ ?_;· simp[*];done)|(refine bN (u _) ?_ ?_;· simp[*];done)|(refine bN (f) ?_ ?_;· simp[*];done)|(refine bN (iG _ _ _) ?_ ?_;· simp[*];done)
 all_goals first|exact gP af|decide|(simp[touch];done)
noncomputable instance zbr:bJ:=LD
@[simp]theorem IN:fE Tz.prog 153=some [.w false false .undef]:=aj
def xT:List AV:=[.ptr 0 1 0,.ptr 1 1 0,.ptr 4 1 0,.ptr 5 1 0]
theorem Ph:bT Tz.prog 83 [rd2,.int .i64 100000] (.tup [.sl 2 [.int .i64 1,.int .i64 0],.int .i64 2]) true/\bT Tz.prog 83 [rd2,.int .i64 0] (.tup [.sl 2 [.int .i64 (-1),.int .i64 (-1)],.int .i64 0]) true/\bT Tz.prog 83 [rd2,.int .i64 100] (.tup [.sl 2 [.int .i64 0,.int .i64 (-1)],.int .i64 1]) true/\bT Tz.prog 83 [rd2,.int .i64 150] (.tup [.sl 2 [.int .i64 0,.int .i64 (-1)],.int .i64 1]) true/\bT Tz.prog 83 [rd2,.int .i64 200] (.tup [.sl 2 [.int .i64 1,.int .i64 0],.int .i64 2]) true:=by
 have r1:=IM (-1);unfold rd2 at *;refine⟨?_,?_,?_,?_,?_⟩
 all_goals
  refine rcK Tz.func83 ?_;simp only[Tryz.results83,Tryz.ntmps83]
  repeat' first|((with_reducible refine GY (id:=6) 12 119 mixed ai ai Tz.func119 aj rfl rfl ?_);simp[*,xT,IN,gq,jW,pG,oneOf];refine GX xT rfl (gH aj) ae rfl ?_)|(with_reducible first|refine GY (id:=8) 9 119 mixed ai ai Tz.func119 aj rfl rfl ?_|refine GX xT rfl (gH aj) ae rfl ?_|refine jL 40 ?_|apply jX|apply gS|apply bG|apply bS|apply bU|apply cK|apply bE|refine cT (id:=4) 23 mixed ai ?_|refine cT (id:=6) 14 mixed ai ?_|apply bP|refine And.intro ?_ ?_|refine cwM (r1) ?_|intro _)|simp[*,xT,IN,gq,jW,pG,oneOf]
 all_goals first|exact gP af|(simp[touch];done)
noncomputable instance zbt:bJ:=LD
theorem IP(a b:Int):bT Tz.prog 161 [.int .i64 a,.int .i64 b] (.bool (decide (a<b))) true:=by
 have c:∀a,bT Tz.prog 179 [.int .i64 a] (.bool false) true:=λa=>by
  refine rcK Tz.func179 ?_;simp only[Tryz.results179,Tryz.ntmps179]
  repeat' first|(with_reducible first|apply bG|apply bU|apply bE|intro _)|simp[*]
 refine rcK Tz.func161 ?_;simp only[Tryz.results161,Tryz.ntmps161]
 repeat' first|(with_reducible first|apply bG|apply bU|apply bE|refine And.intro ?_ ?_|refine cw (c _) ?_|intro _)|simp[*]|(refine bN (c _) ?_ ?_;· simp[*];done)
theorem Pn:bT Tz.prog 32 [Tw.dB mR] (.tup [.int .i64 200,.sl 2 [.int .i64 1,.int .i64 0],.int .i64 0]) false:=by
 have c1:=ui;obtain⟨m1,m2,m3,m4,m5⟩:=Ph
 have c2:bT Tz.prog 121 [.int .u64 5] (.int .i64 3) true:=by
  have c:bT Tz.prog 165 [.int .u64 5] (.int .i64 3) true:=by
   refine rcK Tz.func165 ?_;simp only[Tryz.results165,Tryz.ntmps165]
   repeat' first|(with_reducible first|apply bG|apply bS|apply bU|apply bE|apply bP|refine And.intro ?_ ?_|intro _)|simp[*]
   all_goals first|exact gP af|decide
  refine rcK Tz.func121 ?_;simp only[Tryz.results121,Tryz.ntmps121]
  repeat' first|(with_reducible first|apply bG|apply bS|apply bU|apply bE|apply bP|refine And.intro ?_ ?_|intro _)|simp[*]|(refine bN (c) ?_ ?_;· simp[*];done)
 have c4:=Hc [.int .i64 1,.int .i64 0];rw[qv] at *;unfold rd2 at *;refine ug Tz.func32 aj rfl (gH aj) ?_;simp only[Tryz.results32,Tryz.ntmps32]
 repeat' first|((with_reducible refine Hi (o:=false) (f:=false) ?_ ?_);(· rfl))|((with_reducible refine Hj (o:=false) (f:=false) ?_ ?_);(· rfl))|(with_reducible first|apply iF|apply ua|refine Hg 40 ?_|apply Hh|refine xh (gf:=122) rfl Tz.func122 aj rfl (gH aj) (λl=>?_)|refine rD (id:=3) 16 ?_ ?_|refine xj rfl ae ?_|apply Ha|apply iE|refine rF (id:=10) 1 Tz.func84 aj rfl af rfl ?_|refine rF (id:=12) 1 Tz.func85 aj rfl af rfl ?_|refine rF (id:=1) 5 Tz.func120 aj rfl af rfl ?_|refine rF (id:=4) 3 Tz.func155 aj rfl af rfl ?_|refine Bx (gH aj) ae rfl ?_|refine jL 40 ?_|apply jX|apply gS|apply bG|apply bS|apply bU|apply cK|apply bE|refine cT (id:=4) 15 mixed ai ?_|refine j8 (id:=6) [0,1,2,3,4,5,6,7,8,9,10,11,12,13,14] [15,16,17] [[],[],[.slot 0],[.slot 0],[.slot 0],[],[],[],[],[],[],[],[],[],[]] [[.slot 0],[],[.slot 0]] mixed ai ?_|refine cT (id:=6) 10 mixed ai ?_|apply bP|refine And.intro ?_ ?_|refine cw (IP _ _) ?_|intro _)|simp[*,gq,jW,pG,oneOf]|(refine bN (c1) ?_ ?_;· simp[*];done)|(refine bN (m1) ?_ ?_;· simp[*];done)|(refine bN (m2) ?_ ?_;· simp[*];done)|(refine bN (m3) ?_ ?_;· simp[*];done)|(refine bN (m4) ?_ ?_;· simp[*];done)|(refine bN (m5) ?_ ?_;· simp[*];done)|(refine bN (c2) ?_ ?_;· simp[*];done)|(refine bN (c4) ?_ ?_;· simp[*];done)|(refine bN (IP _ _) ?_ ?_;· simp[*];done)
 all_goals first|exact gP af|decide|(simp[touch];done)
noncomputable instance zbv:bJ:=LD
theorem SI:lI Tz.prog 157=some (.int .i64,.int .i64 0):=aj
def pN:PV:=.agg [.sl 1 [.str ⟨#[97]⟩,.int .i64 4,.bool false],.sl 2 [.str ⟨#[112]⟩,.int .i64 1,.bool false,.int .i64 0,.str ⟨#[113]⟩,.int .i64 1,.bool false,.int .i64 0],.sl 2 [.sl 1 [.int .i64 100],.sl 1 [.int .i64 150]],.sl 0 []]
theorem Po:bT Tz.prog 42 [Tw.dB mR,.int .i64 1] (.tup [pN,.int .i64 0]) false:=by
 have c1:=ui
 have c2:bT Tz.prog 91 [rd2,.int .i64 1] (.int .i64 0) true:=by
  have u:∀e,bT Tz.prog 71 [.bool true,.int .i64 e] (.int .i64 0) true:=λe=>fP true e
  unfold rd2;refine rcK Tz.func91 ?_;simp only[Tryz.results91,Tryz.ntmps91]
  repeat' first|(with_reducible first|apply bG|apply bU|apply bE|refine And.intro ?_ ?_|refine cw (iG _ _ _) ?_|refine cw (u _) ?_|intro _)|simp[*,da]|(refine bN (iG _ _ _) ?_ ?_;· simp[*];done)|(refine bN (u _) ?_ ?_;· simp[*];done)
  all_goals first|exact gP af|decide
 have k0:∀k:Int,bT Tz.prog 123 [.sl 0 [],.int .i64 k] (.bool false) true:=λk=>oZ [] af k
 have k1:bT Tz.prog 123 [.sl 1 [.int .i64 1],.int .i64 0] (.bool false) true:=oZ [1] af 0;have k2:bT Tz.prog 123 [.sl 1 [.int .i64 1],.int .i64 1] (.bool true) true:=oZ [1] af 1
 have c3:bT Tz.prog 87 [rd2,.sl 0 [],.sl 1 [.int .i64 1]] pN true:=by
  have mt:=SI;clear c1 c2;unfold rd2 pN;refine rcK Tz.func87 ?_;simp only[Tryz.results87,Tryz.ntmps87]
  repeat' first|(with_reducible first|refine jL 40 ?_|apply jX|apply gS|apply bG|apply bS|apply bU|apply cK|apply bE|apply bP|refine And.intro ?_ ?_|refine cw (k0 _) ?_|intro _)|simp[*,lkV,lkR,sE,yT,okM,okK,isLit,lH,jb,eqK,xS,Tw.eX,Tw.dW,mt]|(refine bN (k0 _) ?_ ?_;· simp[*];done)|(refine bN (k1) ?_ ?_;· simp[*];done)|(refine bN (k2) ?_ ?_;· simp[*];done)
  all_goals first|exact gP af|decide|(simp[touch];done)
 rw[qv] at *;unfold rd2 pN at *;clear k0 k1 k2;refine rcK Tz.func42 ?_;simp only[Tryz.results42,Tryz.ntmps42]
 repeat' first|(with_reducible first|apply bG|apply bS|apply bU|apply bE|apply bP|refine And.intro ?_ ?_|intro _)|simp[*]|(refine bN (c1) ?_ ?_;· simp[*];done)|(refine bN (c2) ?_ ?_;· simp[*];done)|(refine bN (c3) ?_ ?_;· simp[*];done)
 all_goals first|exact gP af|decide|(simp[touch];done)
end Go.Proofs.YthpkmilhiganjaaGreat
