/- Lemmas. -/
import Derived.Test.YthpkmilhiganjaaGreatPDa
import Derived.Test.YthpkmilhiganjaaGreatPLf
import Derived.Test.YthpkmilhiganjaaGreatPLg
import Derived.KernelRfl
import Derived.Test.YthpkmilhiganjaaGreatPLd
set_option linter.all false
set_option maxHeartbeats 32000000
set_option maxRecDepth 100000
namespace Go.Proofs.YthpkmilhiganjaaGreat
open Go Go.Fi
structure Rd where
 bD:List Car
 os:List Ord
 wt:List (List Int)
 zs:List Par
 fit:List (List Bool)
def oQ(l:List Bool):List PV:=l.map PV.bool
@[simp]theorem ZZ(l:List Bool):(oQ l).length=l.length:=by simp[oQ]
@[simp]theorem PM(l:List Bool)(k:Nat)(h:k<l.length):fg (oQ l) k=.bool (nth l k):=uy _ l k h
def Jv(l:List Bool):PV:=.sl l.length (oQ l)
def qb(f:List (List Bool)):List PV:=f.map Jv
@[simp]theorem Z0(f:List (List Bool)):(qb f).length=f.length:=by simp[qb]
@[simp]theorem Z1(f:List (List Bool))(k:Nat)(h:k<f.length):fg (qb f) k=.sl (nth f k).length (oQ (nth f k)):=uy Jv f k h
def Rd.pv(x:Rd):PV:=.ip [.sl x.bD.length (dG x.bD),.sl x.os.length (dE x.os),.sl x.wt.length (dU x.wt),.sl x.zs.length (dI x.zs),.sl x.fit.length (qb x.fit)] 0
noncomputable def dg(r:Tw.RND):Rd:=⟨r.bD,r.os,r.wt,r.zs,(List.range r.os.length).map (Tw.mU r)⟩
theorem PN(r:Tw.RND):Tw.sV r=.sl (dg r).fit.length (qb (dg r).fit):=by
 unfold Tw.sV dg qb;simp only[iI,rz,List.map_map];rfl
theorem xF(r:Tw.RND)(h:ceR r=0):Tw.mV ceR r=.tup [(dg r).pv,.int .i64 0]:=by
 unfold Tw.mV;rw[b8 h,PN];rfl
theorem HG(r:Tw.RND)(h:ceR r≠0):Tw.mV ceR r=.tup [.gX,.int .i64 (ceR r)]:=by
 unfold Tw.mV;rw[bP h]
variable[bI]
theorem PQ(l:List Int)(hl:l.length<100000)(v:Int):bX Tz.prog 166 [.sl l.length (ints l),.int .i64 v] (.int .i64 (idxOf (λy=>decide (v=y)) l)) true:=by
 generalize hR:idxOf (λy=>decide (v=y)) l=R;have kR:di (ig (λy=>decide (v=y)) l 0=R):=keep hR;clear hR;refine rcK Tz.func166 ?_;simp only[Tryz.results166,Tryz.ntmps166]
 repeat' first|(with_reducible first|apply bH|apply bG|intro _)|simp[*]
 refine fp (λ(k:Nat)=>k<=l.length/\ig (λy=>decide (v=y)) (l.drop k) k=R) [0,1,7] (λ(k:Nat)=>[(8,.w false false (.int .i64 k))]) [] (λ(k:Nat)=>[]) (λ(k:Nat)=>l.length-k) (λ(_u:Unit)=>R=-1) [] (λ(_u:Unit)=>[]) [] (λ(_u:Unit)=>[]) (0) ⟨cG _,kR⟩ ae ae (λk hk=>?_) (λ_u hf=>?_)
 .obtain⟨hk,hj⟩:=hk;by_cases h8:k<l.length
  .have hh:=hj;rw[fE l k h8] at hh;unfold ig at hh;have kj:=keep hh;clear hj hh
   repeat' first|(with_reducible first|apply bH|apply cO|apply b7|apply bT|apply bG|apply bQ|refine And.intro ?_ ?_|refine lH ?_ ?_|intro _)|simp[*,h8]
   all_goals first
    |omega
    |exact dc ab ab
    |(rename_i hp;rw[b8 aT] at kj;exact kj)
    |(rename_i hp;rw[bP aT] at kj;(refine nx (k+1) ?_ ?_;(· exact⟨ab,kj⟩);(refine cD ?_ ?_<;>first|trivial|(simp[*];done))))
  .have h9:k=l.length:=ab
   subst h9
   repeat' first|(with_reducible first|apply bH|apply da|apply bG|apply bQ|intro _)|simp[*]
   all_goals (refine dH () ?_ ?_;(· rw[<-hj,jb];rfl);(refine cD ?_ ?_<;>first|trivial|(simp[*];done)))
 .subst hf
  repeat' first|(with_reducible first|apply bH|apply bT|apply bG|intro _)|simp[*]
theorem uI(l:List Int)(hl:l.length<100000)(v:Int):bX Tz.prog 123 [.sl l.length (ints l),.int .i64 v] (.bool (l.any λy=>decide (v=y))) true:=by
 have c1:=PQ l hl v;have h:=uG (λy=>decide (v=y)) l;generalize idxOf (λy:Int=>decide (v=y)) l=i at *;rw[<-h];clear h;refine rcK Tz.func123 ?_;simp only[Tryz.results123,Tryz.ntmps123]
 repeat' first|(with_reducible first|apply bH|apply bT|apply bG|refine And.intro ?_ ?_|intro _)|simp[*]|(refine bN (c1) ?_ ?_;· simp[*];done)
end Go.Proofs.YthpkmilhiganjaaGreat
namespace Go.Proofs.YthpkmilhiganjaaGreat
open Go Go.Fi
variable[bI]
@[simp]theorem Z2(l:List Int)(k:Nat):(ints l).take k=ints (l.take k):=by simp[ints,List.map_take]
def ym(x:Rd)(plan:List Int)(k:Nat)(n:Int):Int:=
 if n=-1 then 0 else if dw (dj n 0 ((x.bD.length:Int)-1)) 6≠0 then dw (dj n 0 ((x.bD.length:Int)-1)) 6 else
 fD [dw (nth (nth x.fit k) n.toNat) 13,dw (!((plan.take k).any λy=>decide (n=y))) 26]
def qd(x:Rd)(plan:List Int):Int×Int:=if (plan.length:Int)≠x.os.length then (0,10) else gh (ym x plan) plan 0
theorem PR(x:Rd)(plan:List Int):bX Tz.prog 86 [x.pv,.sl plan.length (ints plan)] (.fn 122 [.ip [.sl plan.length (ints plan)] 0,.ip [x.pv] 0]) false:=by
 generalize hx:x.pv=p;obtain⟨cs,rfl⟩:∃cs,p=.ip cs 0:=⟨_,hx.symm⟩;clear hx;refine rcK Tz.func86 ?_;simp only[Tryz.results86,Tryz.ntmps86]
 repeat' first|(with_reducible first|apply bH|apply bT|apply bG|intro _)|simp[*]
def eqF:List Int->List Int->Bool
 |[],[]=>true
 |a::r,b::s=>decide (a=b)&&eqF r s
 |_,_=>false
theorem HH:∀(a b:List Int),eqF a b=decide (a=b)
 |[],[]=>rfl
 |[],b::s=>by simp[eqF]
 |a::r,[]=>by simp[eqF]
 |a::r,b::s=>by simp[eqF,HH r s]
theorem PS(a b:List Int)(ha:a.length<100000):bX Tz.prog 52 [.sl a.length (ints a),.sl b.length (ints b)] (.bool (eqF a b)) true:=by
 generalize hR:eqF a b=R;have kR:=keep hR;clear hR;by_cases hl:a.length=b.length
 .have kl:=keep hl
  have kb:di (b.length<100000):=by show b.length<100000;omega
  rw[hl]
  have kl2:di ((a.length:Int)=b.length):=by show (a.length:Int)=b.length;omega
  clear hl ha;refine rcK Tz.func52 ?_;simp only[Tryz.results52,Tryz.ntmps52]
  repeat' first|(with_reducible first|apply bH|apply b7|apply bG|apply bQ|intro _)|simp[*]
  refine fp (λ(k:Nat)=>k<=b.length/\eqF (a.drop k) (b.drop k)=R) [0,1] (λ(k:Nat)=>[(5,.w false false (.int .i64 k))]) [] (λ(k:Nat)=>[]) (λ(k:Nat)=>b.length-k) (λ(_u:Unit)=>R=true) [] (λ(_u:Unit)=>[]) [] (λ(_u:Unit)=>[]) (0) ⟨cG _,kR⟩ ae ae (λk hk=>?_) (λ_u hf=>?_)
  .obtain⟨hk,hj⟩:=hk;have hlen:a.length=b.length:=kl;have hb:b.length<100000:=kb;by_cases h8:k<b.length
   .have hg:k<a.length:=ab
    rw[fE a k hg,fE b k h8] at hj;unfold eqF at hj;have kj:=keep hj;clear hj hlen
    repeat' first|(with_reducible first|apply bH|apply cO|apply b7|apply bT|apply bG|refine df (id:=6) 9 mixed ai ?_|apply bQ|refine And.intro ?_ ?_ |  refine oA ?_ ?_|intro _)|simp[*,h8,hg]
    all_goals first
     |omega
     |exact dc ab ab
     |(rename_i hp;rw[show decide (nth a k=nth b k)=false by simpa using hp] at kj;simpa[di] using kj)
     |(rename_i hp;rw[show decide (nth a k=nth b k)=true by simpa using hp] at kj;(refine nx (k+1) ?_ ?_;(· exact⟨ab,by simpa[di] using kj⟩);(refine cD ?_ ?_<;>first|trivial|(simp[*];done))))
   .have h9:k=b.length:=ab
    have hi:k=a.length:=ab
    rw[show b.drop k=[] from JX ab,show a.drop k=[] from JX ab] at hj;have kj:=keep hj;clear hj h9 hi hlen
    repeat' first|(with_reducible first|apply bH|apply da|apply bG|apply bQ|intro _)|simp[*,h8]
    all_goals first
     |omega
     |(refine dH () ?_ ?_;(· exact kj.symm);(refine cD ?_ ?_<;>first|trivial|(simp[*];done)))
  .subst hf
   repeat' first|(with_reducible first|apply bH|apply bT|apply bG|intro _)|simp[*]
 .have hRf:R=false:=by
   rw[<-show eqF a b=R from kR,HH];simp only[decide_eq_false_iff_not];intro e;exact hl (by rw[e])
  subst hRf
  have h2:¬((a.length:Int)=b.length):=ab
  clear kR;refine rcK Tz.func52 ?_;simp only[Tryz.results52,Tryz.ntmps52]
  repeat' first|(with_reducible first|apply bH|apply bT|apply bG|apply bQ|intro _)|simp[*,h2,hl]
def mY:Tw.RND where
 bD:=[(⟨#[97]⟩,4,false),(⟨#[98]⟩,4,false)]
 os:=[(⟨#[112]⟩,1,false,0),(⟨#[113]⟩,1,false,0)]
 wt:=[[100,200],[150,400]]
 zs:=[]
 fS:=by
  refine⟨?_,?_,?_,af,af,af,af⟩
  .intro c hc;simp only[dM,m9,or_false] at hc
   rcases hc with rfl|rfl<;>decide
  .intro c hc;simp only[dM,m9,or_false] at hc
   rcases hc with rfl|rfl<;>decide
  .intro c hc;simp only[dM,m9,or_false] at hc
   rcases hc with rfl|rfl<;>decide
theorem TJ:bX Tz.prog 68 [] (.agg [.sl 2 [.str ⟨#[97]⟩,.int .i64 4,.bool false,.str ⟨#[98]⟩,.int .i64 4,.bool false],.sl 2 [.str ⟨#[112]⟩,.int .i64 1,.bool false,.int .i64 0,.str ⟨#[113]⟩,.int .i64 1,.bool false,.int .i64 0],.sl 2 [.sl 2 [.int .i64 100,.int .i64 200],.sl 2 [.int .i64 150,.int .i64 400]],.sl 0 []]) false:=by
 refine rcK Tz.func68 ?_;simp only[Tryz.results68,Tryz.ntmps68]
 repeat' first|(with_reducible first|apply bH|apply bT|apply bG|intro _)|simp[*]
theorem qL:Tw.dT mY=.agg [.sl 2 [.str ⟨#[97]⟩,.int .i64 4,.bool false,.str ⟨#[98]⟩,.int .i64 4,.bool false],.sl 2 [.str ⟨#[112]⟩,.int .i64 1,.bool false,.int .i64 0,.str ⟨#[113]⟩,.int .i64 1,.bool false,.int .i64 0],.sl 2 [.sl 2 [.int .i64 100,.int .i64 200],.sl 2 [.int .i64 150,.int .i64 400]],.sl 0 []]:=rfl
theorem TK:Tz.prog.underlying 28=some (.slice 3):=aj
theorem HO(l:List Int)(x:PV)(hx:x∈ints l):flat x=true:=by
 obtain⟨n,_,rfl⟩:=jH.1 hx;rfl
theorem BY:∀l:List Int,eo (List.map (AV.w false false) (ints l))=true
 |[]=>rfl
 |_::l=>BY l
theorem Qd(l:List Int)(h:l.length<100000):bX Tz.prog 97 [.sl l.length (ints l)] (.sl l.length (ints l)) true:=by
 refine rcK Tz.func97 ?_;simp only[Tryz.results97,Tryz.ntmps97];refine bH ?_;refine bG ?_;simp;refine bH ?_;refine bH ?_;refine Pg (ow:=false) (fl:=false) (k:=l.length) (cells:=ints l) TK ?_ ?_ ?_ ?_
 .simp
 .decide
 .decide
 intro b hb
 cases b with
 |true=>
  have hl:l=[]:=ja (hb rfl).1;subst hl
  repeat' first|(with_reducible first|apply bH|apply bT|apply bG|apply bQ|intro _)|simp[*,ints]
 |false=>
  clear hb
  repeat' first|(with_reducible first|apply bH|apply b7|apply bT|apply bG|apply bQ|refine And.intro ?_ ?_|intro _)|simp[*]
  all_goals first|omega|(rename_i hx;exact HO l _ hx)|exact BY l
theorem Qe(l:List Int)(h:l.length<10000000):bX Tz.prog 24 [.sl l.length (ints l)] (.sl l.length (ints l)) true:=by
 refine rcK Tz.func24 ?_;simp only[Tryz.results24,Tryz.ntmps24]
 repeat' first|(with_reducible first|apply bH|apply bT|apply bG|refine And.intro ?_ ?_|intro _)|simp[*]
 all_goals first|omega|(rename_i hx;exact HO l _ hx)|exact BY l
theorem BZ{α:Type}[Inhabited α](l:List α)(k:Nat)(h:k<l.length):l.take (k+1)=l.take k++[nth l k]:=by
 rw[T4 h];simp[nth,dZ,dP h]
def cpA(m:List (List Int))(k:Nat):List AV:=(dU (m.take k)).map (.w true false)
theorem HP(m:List (List Int))(k:Nat)(h:k<=m.length):(cpA m k).length=k:=by
 simp[cpA,Nat.min_eq_left h]
@[simp]theorem za3(m:List (List Int)):cpA m 0=[]:=rfl
theorem HQ(m:List (List Int))(k:Nat)(h:k<m.length):cpA m (k+1)=cpA m k++[.w true false (.sl (nth m k).length (ints (nth m k)))]:=by
 unfold cpA dU;rw[BZ m k h,DY,DY];rfl
@[simp]theorem za4{D:List Nat}{h:bE}{n n':Nat}(m:List (List Int))(k:Nat):j0 D h n n' (cpA m k) (cpA m k)=True:=eq_true (xz true false _)
theorem Qf(m:List (List Int)):cpA m m.length=(dU m).map (.w true false):=by simp[cpA]
theorem Qg(m:List (List Int))(hl:m.length<100000)(h':∀w∈m,w.length<100000):bX Tz.prog 74 [.sl m.length (dU m)] (.sl m.length (dU m)) true:=by
 refine rcK Tz.func74 ?_;simp only[Tryz.results74,Tryz.ntmps74]
 repeat' first|(with_reducible first|apply bH|apply bG|intro _)|simp[*]
 refine kX 1 (λ(k:Nat)=>k<=m.length) [0] (λ(k:Nat)=>[(3,.msl 0 k 1 0 k),(4,.w false false (.int .i64 k))]) [] (λ(k:Nat)=>[(0,cpA m k)]) (λ(k:Nat)=>m.length-k) (λ(_u:Unit)=>True) [] (λ(_u:Unit)=>[(3,.msl 0 m.length 1 0 m.length)]) [] (λ(_u:Unit)=>[(0,cpA m m.length)]) (0) (cG _) (eJ [] ae ae) (λk hk=>?_) (λ_u hf=>?_)
 .by_cases h8:k<m.length
  .have hm:=h' (nth m k) (by rw[nth,dZ,dP h8];exact List.getElem_mem _);clear h';have cc:=Qe (nth m k) ab;have hlen:=HP m k hk;have ks:=keep (HQ m k h8)
   repeat' first|(with_reducible first|apply bH|apply rZ|apply b7|apply bG|apply bQ|refine And.intro ?_ ?_|intro _)|simp[*,h8,hlen]|(refine bN (cc) ?_ ?_;· simp[*];done)
   all_goals first
    |exact dc ab ab
    |omega
    |(refine nx (k+1) ?_ ?_;(· omega);(refine eJ [] ?_ ?_<;>first|trivial|(simp[*,ks,HQ m k h8];done)))
  .have h9:k=m.length:=ab
   subst h9
   repeat' first|(with_reducible first|apply bH|apply da|apply bG|apply bQ|intro _)|simp[*]
   all_goals first
    |(refine dH () ?_ ?_;(· trivial);(refine eJ [] ?_ ?_<;>first|trivial|(simp[*];done)))
 .have hlen:=HP m m.length (bS _);rw[Qf]
  repeat' first|(with_reducible first|apply bH|apply bT|apply bG|intro _)|simp[*,hlen]
theorem HT(l:List Car)(x:PV)(hx:x∈dG l):flat x=true/\vc x=true:=by
 obtain⟨c,_,hx⟩:=vt.1 hx;simp only[Tw.fq,dM,m9,or_false] at hx
 rcases hx with rfl|rfl|rfl<;>exact⟨rfl,rfl⟩
theorem HU(l:List Ord)(x:PV)(hx:x∈dE l):flat x=true/\vc x=true:=by
 obtain⟨c,_,hx⟩:=vt.1 hx;simp only[Tw.dY,dM,m9,or_false] at hx
 rcases hx with rfl|rfl|rfl|rfl<;>exact⟨rfl,rfl⟩
theorem HV(l:List Par)(x:PV)(hx:x∈dI l):flat x=true/\vc x=true:=by
 obtain⟨c,_,hx⟩:=vt.1 hx;simp only[Tw.eD,dM,m9,or_false] at hx
 rcases hx with rfl|rfl<;>exact⟨rfl,rfl⟩
theorem Qh(r:Tw.RND):bX Tz.prog 18 [Tw.dT r] (Tw.dT r) true:=by
 obtain⟨bD,os,wt,zs,fS⟩:=r;obtain⟨f1,f2,f3,f4,f5,f6,f7⟩:=fS;have c1:=Qg wt f6 f3;unfold Tw.dT Tw.RND.jY Tw.RND.osP Tw.RND.lW Tw.RND.zsP Tw.RND.nw Tw.RND.wait;simp only[]
 change bX Tz.prog 18 [.agg [.sl bD.length (dG bD),.sl os.length (dE os),.sl wt.length (dU wt),.sl zs.length (dI zs)]] (.agg [.sl bD.length (dG bD),.sl os.length (dE os),.sl wt.length (dU wt),.sl zs.length (dI zs)]) true
 clear f1 f2 f3 f6;refine rcK Tz.func18 ?_;simp only[Tryz.results18,Tryz.ntmps18]
 repeat' first|(with_reducible first|apply bH|apply bT|apply bG|refine ny (id:=1) [0,1,2,4,5,6,8,9,11,12,13] [3,7,10,14,15,16] [[],[],[],[.new 0],[.new 0],[.new 0],[.new 0,.new 1],[.new 0,.new 1],[.new 0,.new 1],[.new 0,.new 1],[.new 0,.new 1]] [[.new 0],[.new 1],[],[.new 2],[],[.slot 2]] mixed ai ?_|refine And.intro ?_ ?_|intro _)|simp[*]|(refine bN (c1) ?_ ?_;· simp[*];done)
 all_goals first
  |omega
  |(rename_i hx;first|exact (HT _ _ hx).1|exact (HU _ _ hx).1|exact (HV _ _ hx).1)
  |(refine uD false false _ (gp.2 λy hy=>?_);first|exact (HT _ _ hy).2|exact (HU _ _ hy).2|exact (HV _ _ hy).2)
def iS{α:Type}(p:α->Bool)(l:List α)(k:Nat):Bool:=(l.drop k).all p
theorem B7{α:Type}[Inhabited α]{p:α->Bool}{l:List α}{k:Nat}(h:k<l.length):iS p l k=(p (nth l k)&&iS p l (k+1)):=by
 unfold iS;rw[fE l k h];rfl
theorem B8{α:Type}(p:α->Bool)(l:List α):iS p l l.length=true:=by
 unfold iS;rw[jb];rfl
def JB(c o w z:Nat):Bool:=decide (¬(((4<c/\c<=8)\/10<c)\/((4<o/\o<=8)\/10<o)\/12<w\/66<z))
def tq(bD:List Car)(os:List Ord)(wt:List (List Int))(zs:List Par):Bool:=
 JB bD.length os.length wt.length zs.length&&(bD.all (λx:Car=>decide (x.1.size<=20))&&(os.all (λx:Ord=>decide (x.1.size<=20))&&wt.all (λw:List Int=>decide (w.length<=10))))
theorem TL(bD:List Car)(os:List Ord)(wt:List (List Int))(zs:List Par):bX Tz.prog 16 [.agg [.sl bD.length (dG bD),.sl os.length (dE os),.sl wt.length (dU wt),.sl zs.length (dI zs)]] (.bool (tq bD os wt zs)) true:=by
 unfold tq;have hA0:bD.all (λx:Car=>decide (x.1.size<=20))=iS (λx:Car=>decide (x.1.size<=20)) bD 0:=rfl;have hA2:os.all (λx:Ord=>decide (x.1.size<=20))=iS (λx:Ord=>decide (x.1.size<=20)) os 0:=rfl;have hA4:wt.all (λw:List Int=>decide (w.length<=10))=iS (λw:List Int=>decide (w.length<=10)) wt 0:=rfl;rw[hA0,hA2,hA4];clear hA0 hA2 hA4;generalize hA0:iS (λx:Car=>decide (x.1.size<=20)) bD 0=A0;generalize hA2:iS (λx:Ord=>decide (x.1.size<=20)) os 0=A2;generalize hA4:iS (λw:List Int=>decide (w.length<=10)) wt 0=A4;have kA0:=keep hA0;have kA2:=keep hA2;have kA4:=keep hA4;clear hA0 hA2 hA4
 cases hS:JB bD.length os.length wt.length zs.length with
 |false=>
  have hS:=of_decide_eq_false hS;have kS:=keep hS;clear hS;simp only[iJ];refine rcK Tz.func16 ?_;simp only[Tryz.results16,Tryz.ntmps16]
  repeat' first|(with_reducible first|apply bH|apply b7|apply bT|apply bG|apply bQ|refine OO ?_ ?_|refine ON ?_ ?_|refine lH ?_ ?_|intro _)|simp[*]
  all_goals (exfalso;have hS:=kS;unfold di at hS;omega)
 |true=>
  have hS:=of_decide_eq_true hS
  have l1:bD.length<=10:=ab
  have l2:os.length<=10:=ab
  have l3:wt.length<=12:=ab
  have kS:=keep hS;clear hS;simp only[fQ]
  have w5:¬(66:Int)<zs.length:=by have hS:=kS;unfold di at hS;omega
  have w6:¬(12:Int)<wt.length:=ab
  have w7:¬(10:Int)<bD.length:=ab
  have w8:¬(10:Int)<os.length:=ab
  have key:((¬(4:Int)<bD.length)\/((4:Int)<bD.length/\¬(bD.length:Int)<=8)):=by have hS:=kS;unfold di at hS;omega
  have key2:((¬(4:Int)<os.length)\/((4:Int)<os.length/\¬(os.length:Int)<=8)):=by have hS:=kS;unfold di at hS;omega
  clear kS hS
  rcases key with g1|⟨g1,g2⟩<;>rcases key2 with g3|⟨g3,g4⟩
  all_goals
   refine rcK Tz.func16 ?_;simp only[Tryz.results16,Tryz.ntmps16]
   repeat' first|(with_reducible first|apply bH|apply b7|apply bG|apply bQ|intro _)|simp[*]
   have kk:=keep (And.intro w5 (And.intro w6 (And.intro w7 w8)));clear w5 w6 w7 w8;refine fp (λ(k:Nat)=>k<=bD.length/\iS (λx:Car=>decide (x.1.size<=20)) bD k=A0) [1] (λ(k:Nat)=>[(3,.w false false (.int .i64 k))]) [0] (λ(k:Nat)=>[]) (λ(k:Nat)=>bD.length-k) (λ(_u:Unit)=>A0=true) [1] (λ(_u:Unit)=>[]) [0] (λ(_u:Unit)=>[]) (0) ⟨cG _,kA0⟩ ae ae (λk hk=>?_) (λ_u hf=>?_)
   .obtain⟨hk,hj⟩:=hk;by_cases h8:k<bD.length
    .rw[B7 h8] at hj;by_cases hr:20<((nth bD k).1.size:Int)
     .have hA:A0=false:=by rw[<-hj];simp;omega
      clear hj kA0;subst hA
      repeat' first|(with_reducible first|apply bH|apply cO|apply b7|apply bT|apply bG|apply bQ|intro _)|simp[*,h8,hr]
      all_goals first|exact dc ab ab|omega|(simp;done)
     .have kj:di (iS (λx:Car=>decide (x.1.size<=20)) bD (k+1)=A0):=keep (by rw[<-hj,decide_eq_true (show (nth bD k).1.size<=20 by omega),fQ]);clear hj
      repeat' first|(with_reducible first|apply bH|apply cO|apply b7|apply bG|apply bQ|refine And.intro ?_ ?_|intro _)|simp[*,h8,hr]
      all_goals first
       |exact dc ab ab
       |omega
       |(refine nx (k+1) ?_ ?_;(· exact⟨ab,kj⟩);(refine cD ?_ ?_<;>first|trivial|(simp[*];done)))
    .have h9:k=bD.length:=ab
     subst h9;rw[B8] at hj;have kj:=keep hj.symm;clear hj kA0
     repeat' first|(with_reducible first|apply bH|apply da|apply bG|apply bQ|intro _)|simp[*]
     all_goals (refine dH () ?_ ?_;(· exact kj);(refine cD ?_ ?_<;>first|trivial|(simp[*];done)))
   .subst hf;clear kA0;simp only[fQ]
    repeat' first|(with_reducible first|apply bH|apply bG|intro _)|simp[*]
    refine fp (λ(k:Nat)=>k<=os.length/\iS (λx:Ord=>decide (x.1.size<=20)) os k=A2) [1] (λ(k:Nat)=>[(4,.w false false (.int .i64 k))]) [0] (λ(k:Nat)=>[]) (λ(k:Nat)=>os.length-k) (λ(_u:Unit)=>A2=true) [1] (λ(_u:Unit)=>[]) [0] (λ(_u:Unit)=>[]) (0) ⟨cG _,kA2⟩ ae ae (λk hk=>?_) (λ_u hf=>?_)
    .obtain⟨hk,hj⟩:=hk;by_cases h8:k<os.length
     .rw[B7 h8] at hj;by_cases hr:20<((nth os k).1.size:Int)
      .have hA:A2=false:=by rw[<-hj];simp;omega
       clear hj kA2;subst hA
       repeat' first|(with_reducible first|apply bH|apply cO|apply b7|apply bT|apply bG|apply bQ|intro _)|simp[*,h8,hr]
       all_goals first|exact dc ab ab|omega|(simp;done)
      .have kj:di (iS (λx:Ord=>decide (x.1.size<=20)) os (k+1)=A2):=keep (by rw[<-hj,decide_eq_true (show (nth os k).1.size<=20 by omega),fQ]);clear hj
       repeat' first|(with_reducible first|apply bH|apply cO|apply b7|apply bG|apply bQ|refine And.intro ?_ ?_|intro _)|simp[*,h8,hr]
       all_goals first
        |exact dc ab ab
        |omega
        |(refine nx (k+1) ?_ ?_;(· exact⟨ab,kj⟩);(refine cD ?_ ?_<;>first|trivial|(simp[*];done)))
     .have h9:k=os.length:=ab
      subst h9;rw[B8] at hj;have kj:=keep hj.symm;clear hj kA2
      repeat' first|(with_reducible first|apply bH|apply da|apply bG|apply bQ|intro _)|simp[*]
      all_goals (refine dH () ?_ ?_;(· exact kj);(refine cD ?_ ?_<;>first|trivial|(simp[*];done)))
    .subst hf;clear kA2;simp only[fQ]
     repeat' first|(with_reducible first|apply bH|apply bG|intro _)|simp[*]
     refine fp (λ(k:Nat)=>k<=wt.length/\iS (λw:List Int=>decide (w.length<=10)) wt k=A4) [1] (λ(k:Nat)=>[(5,.w false false (.int .i64 k))]) [0] (λ(k:Nat)=>[]) (λ(k:Nat)=>wt.length-k) (λ(_u:Unit)=>A4=true) [] (λ(_u:Unit)=>[]) [0] (λ(_u:Unit)=>[]) (0) ⟨cG _,kA4⟩ ae ae (λk hk=>?_) (λ_u hf=>?_)
     .obtain⟨hk,hj⟩:=hk;by_cases h8:k<wt.length
      .rw[B7 h8] at hj;by_cases hr:10<((nth wt k).length:Int)
       .have hA:A4=false:=by rw[<-hj];simp;omega
        clear hj kA4;subst hA
        repeat' first|(with_reducible first|apply bH|apply cO|apply b7|apply bT|apply bG|apply bQ|intro _)|simp[*,h8,hr]
        all_goals first|exact dc ab ab|omega|(simp;done)
       .have kj:di (iS (λw:List Int=>decide (w.length<=10)) wt (k+1)=A4):=keep (by rw[<-hj,decide_eq_true (show (nth wt k).length<=10 by omega),fQ]);clear hj
        repeat' first|(with_reducible first|apply bH|apply cO|apply b7|apply bG|apply bQ|refine And.intro ?_ ?_|intro _)|simp[*,h8,hr]
        all_goals first
         |exact dc ab ab
         |omega
         |(refine nx (k+1) ?_ ?_;(· exact⟨ab,kj⟩);(refine cD ?_ ?_<;>first|trivial|(simp[*];done)))
      .have h9:k=wt.length:=ab
       subst h9;rw[B8] at hj;have kj:=keep hj.symm;clear hj kA4
       repeat' first|(with_reducible first|apply bH|apply da|apply bG|apply bQ|intro _)|simp[*]
       all_goals (refine dH () ?_ ?_;(· exact kj);(refine cD ?_ ?_<;>first|trivial|(simp[*];done)))
     .subst hf
      repeat' first|(with_reducible first|apply bH|apply bT|apply bG|intro _)|simp[*]
theorem HW{bD:List Car}{os:List Ord}{wt:List (List Int)}{zs:List Par}(h:tq bD os wt zs=true):(bD.length<=10/\(8<bD.length\/bD.length<=4))/\(os.length<=10/\(8<os.length\/os.length<=4))/\wt.length<=12/\zs.length<=66/\(∀c∈bD,c.1.size<=20)/\(∀o∈os,o.1.size<=20)/\∀w∈wt,w.length<=10:=by
 unfold tq at h;simp only[eY,gp,decide_eq_true_eq] at h;obtain⟨h1,h2,h3,h4⟩:=h;have h1:=of_decide_eq_true h1;exact⟨⟨ab,ab⟩,⟨ab,ab⟩,ab,ab,h2,h3,h4⟩
def JC(bD:List Car)(os:List Ord)(wt:List (List Int))(zs:List Par)(h:tq bD os wt zs=true):Tw.RND:=⟨bD,os,wt,zs,by
 obtain⟨⟨h1,_⟩,⟨h2,_⟩,h3,h4,h5,h6,h7⟩:=HW h
 exact⟨λc hc=>by have:=h5 c hc;omega,λc hc=>by have:=h6 c hc;omega,λc hc=>by have:=h7 c hc;omega,ab,ab,ab,ab⟩⟩
def rd2:PV:=.ip [.sl 2 [.str ⟨#[97]⟩,.int .i64 4,.bool false,.str ⟨#[98]⟩,.int .i64 4,.bool false],.sl 2 [.str ⟨#[112]⟩,.int .i64 1,.bool false,.int .i64 0,.str ⟨#[113]⟩,.int .i64 1,.bool false,.int .i64 0],.sl 2 [.sl 2 [.int .i64 100,.int .i64 200],.sl 2 [.int .i64 150,.int .i64 400]],.sl 0 [],.sl 2 [.sl 2 [.bool true,.bool true],.sl 2 [.bool true,.bool true]]] 0
theorem HY:bX Tz.prog 116 [.int .i64 0] (.int .i64 1000000) true:=Ju 0 af
theorem HZ(l:List PV):bX Tz.prog 86 [rd2,.sl 2 l] (.fn 122 [.ip [.sl 2 l] 0,.ip [rd2] 0]) false:=by
 unfold rd2;refine rcK Tz.func86 ?_;simp only[Tryz.results86,Tryz.ntmps86]
 repeat' first|(with_reducible first|apply bH|apply bT|apply bG|intro _)|simp[*]
theorem H0:bX Tz.prog 78 [rd2,.sl 2 [.int .i64 0,.int .i64 1]] (.int .i64 500) true/\bX Tz.prog 78 [rd2,.sl 2 [.int .i64 1,.int .i64 0]] (.int .i64 350) true:=by
 have c1:=HY
 have c2:=λl=>HZ l
 unfold rd2 at *;constructor
 all_goals
  refine xD Tz.func78 aj rfl (gG aj) ?_;simp only[Tryz.results78,Tryz.ntmps78]
  repeat' first|(with_reducible first|apply fM|apply r6|refine BQ (gf:=122) rfl Tz.func122 aj rfl (gG aj) (λl=>?_)|apply fJ|refine xE (id:=3) 16 ?_ ?_|refine BW rfl ae ?_|apply HX|refine jO 40 ?_|apply j4|apply gS|apply bH|apply b7|apply bT|apply da|apply bG|refine df (id:=5) 5 mixed ai ?_|refine df (id:=10) 14 mixed ai ?_|apply bQ|refine And.intro ?_ ?_|refine cw (c2 _) ?_|intro _)|simp[*,Tw.dY,gC,jZ]|(refine bN (c1) ?_ ?_;· simp[*];done)|(refine bN (c2 _) ?_ ?_;· simp[*];done)
 all_goals first|exact gN af|(simp[touch];done)
theorem Qk:bX Tz.prog 80 [.ip [.sl 2 [.str ⟨#[97]⟩,.int .i64 4,.bool false,.str ⟨#[98]⟩,.int .i64 4,.bool false],.sl 2 [.str ⟨#[112]⟩,.int .i64 1,.bool false,.int .i64 0,.str ⟨#[113]⟩,.int .i64 1,.bool false,.int .i64 0],.sl 2 [.sl 2 [.int .i64 100,.int .i64 200],.sl 2 [.int .i64 150,.int .i64 400]],.sl 0 [],.sl 2 [.sl 2 [.bool true,.bool true],.sl 2 [.bool true,.bool true]]] 0] (.sl 2 [.sl 4 (ints [100,200,1000000,1000000000000000]),.sl 4 (ints [150,400,1000000000000000,1000000])]) true:=by
 have c1:=Ju 0 af
 have e:(fV 0:Int)=1000000:=aj
 rw[e] at c1;refine rcK Tz.func80 ?_;simp only[Tryz.results80,Tryz.ntmps80]
 repeat' first|(with_reducible first|refine jO 40 ?_|apply j4|apply gS|apply bH|apply b7|apply bT|apply da|apply bG|apply bQ|refine And.intro ?_ ?_|intro _)|simp[*,Tw.dY,ints]|(refine bN (c1) ?_ ?_;· simp[*];done)
 all_goals exact gN af
theorem H2(n:Nat)(h:n=2\/n=4):bX Tz.prog 118 [.int .u64 1,.int .u64 n] (.tup [.int .u64 0,.int .u64 n]) true:=by
 have c:bX Tz.prog 154 [.int .u64 1,.int .u64 n] (.tup [.int .u64 0,.int .u64 n]) true:=by
  rcases h with rfl|rfl
  all_goals
   refine rcK Tz.func154 ?_;simp only[Tryz.results154,Tryz.ntmps154]
   repeat' first|(with_reducible first|apply bH|apply bT|apply bG|refine And.intro ?_ ?_|intro _)|simp[*]
  all_goals exact gN af
 refine rcK Tz.func118 ?_;simp only[Tryz.results118,Tryz.ntmps118]
 repeat' first|(with_reducible first|apply bH|apply b7|apply bT|apply bG|apply bQ|refine And.intro ?_ ?_|intro _)|simp[*]|(refine bN (c) ?_ ?_;· simp[*];done)
theorem JD(v:Int):oG Tz.prog 81 [.sl 1 [.int .i64 v],.int .i64 (4:Nat)] [[.w false false (.int .i64 v),.w false false (.int .i64 v),.w false false (.int .i64 v),.w false false (.int .i64 v)]] (.msl 0 4 1 0 4):=by
 have c:=H2 4 (.inr rfl);refine xG 0 [] Tz.func81 aj rfl (gG aj) ae (by intro c hc;simp only[oS] at hc;subst hc;rfl) ?_;simp only[Tryz.results81,Tryz.ntmps81]
 repeat' first|(with_reducible first|refine jO 40 ?_|apply j4|apply gS|apply bH|apply b7|apply bT|apply da|apply bG|refine ny (id:=9) [0,1,2,3,4,5,6] [7,8,9] [[.slot 7],[],[],[],[],[],[]] [[.slot 7],[],[]] mixed ai ?_|apply bQ|refine And.intro ?_ ?_|intro _)|simp[*]|(refine bN (c) ?_ ?_;· simp[*];done)
 all_goals first|exact gN af|(simp[touch];done)
theorem Ql:bX Tz.prog 79 [.sl 2 [.sl 4 [.int .i64 100,.int .i64 200,.int .i64 1000000,.int .i64 1000000000000000],.sl 4 [.int .i64 150,.int .i64 400,.int .i64 1000000000000000,.int .i64 1000000]],.int .i64 4] (.ip [.sl 2 [.sl 4 [.int .i64 100,.int .i64 200,.int .i64 1000000,.int .i64 1000000000000000],.sl 4 [.int .i64 150,.int .i64 400,.int .i64 1000000000000000,.int .i64 1000000]],.sl 2 [.int .i64 200,.int .i64 250],.sl 4 [.int .i64 (-100),.int .i64 0,.int .i64 0,.int .i64 0],.sl 4 [.int .i64 1,.int .i64 0,.int .i64 (-1),.int .i64 (-1)],.sl 4 [.int .i64 (-1),.int .i64 0,.int .i64 0,.int .i64 (-1)]] 0) false:=by
 have r1:=JD (-1);have r2:=JD 10000000000000000;refine rcK Tz.func79 ?_;simp only[Tryz.results79,Tryz.ntmps79]
 repeat' first|(with_reducible first|refine uH (id:=5) 2 Tz.func117 aj rfl af rfl ?_|refine HC af ae rfl ?_|refine jO 40 ?_|apply j4|apply gS|apply PY|apply PZ|apply bH|apply b7|apply bT|apply da|apply bG|refine df (id:=1) 12 mixed ai ?_|refine df (id:=1) 7 mixed ai ?_|refine df (id:=9) 27 mixed ai ?_|refine df (id:=20) 16 mixed ai ?_|refine df (id:=32) 13 mixed ai ?_|apply bQ|refine And.intro ?_ ?_|refine cwM (r1) ?_|refine cwM (r2) ?_|intro _)|simp[*,gC,jZ]
 all_goals try first|exact gN af|(simp[touch];done)
end Go.Proofs.YthpkmilhiganjaaGreat
namespace Go.Proofs.YthpkmilhiganjaaGreat
open Go Go.Fi
noncomputable instance zc6:bI:=LD
theorem Qm:ceR mY=0:=aj
theorem uJ:bX Tz.prog 69 [Tw.dT mY] (.tup [rd2,.int .i64 0]) false:=by
 have c:=pW mY;rw[xF mY Qm] at c;exact c
theorem H3:bX Tz.prog 70 [.sl 2 [.int .i64 0,.int .i64 0]] (.int .i64 0) true:=BR [0,0] af
theorem Qn:bX Tz.prog 111 [rd2,.sl 2 [.int .i64 0,.int .i64 1]] (.tup [.int .i64 0,.int .i64 0]) true:=by
 have k:∀n:Int,(n=0\/n=1)->bX Tz.prog 91 [rd2,.int .i64 n] (.int .i64 0) true:=λn h=>by
  rcases h with rfl|rfl
  all_goals
   unfold rd2;refine rcK Tz.func91 ?_;simp only[Tryz.results91,Tryz.ntmps91]
   repeat' first|(with_reducible first|apply bH|apply bT|apply bG|refine And.intro ?_ ?_|refine cw (jw _ _ _) ?_|refine cw (gv _ _) ?_|intro _)|simp[*]|(refine bN (jw _ _ _) ?_ ?_;· simp[*];done)|(refine bN (gv _ _) ?_ ?_;· simp[*];done)
  all_goals first|exact gN af|decide
 have k0:=k 0 (.inl rfl);have k1:=k 1 (.inr rfl);have i0:bX Tz.prog 123 [.sl 0 [],.int .i64 0] (.bool false) true:=uI [] af 0;have i1:bX Tz.prog 123 [.sl 1 [.int .i64 0],.int .i64 1] (.bool false) true:=uI [0] af 1
 have u:∀e,bX Tz.prog 71 [.bool true,.int .i64 e] (.int .i64 0) true:=λe=>gv true e
 have f:=H3;clear k;unfold rd2 at *;refine rcK Tz.func111 ?_;simp only[Tryz.results111,Tryz.ntmps111]
 repeat' first|(with_reducible first|refine jO 40 ?_|apply j4|apply gS|apply bH|apply b7|apply bT|apply da|apply bG|refine df (id:=10) 21 mixed ai ?_|apply bQ|refine And.intro ?_ ?_|refine cw (u _) ?_|intro _)|simp[*]|(refine bN (k0) ?_ ?_;· simp[*];done)|(refine bN (k1) ?_ ?_;· simp[*];done)|(refine bN (i0) ?_ ?_;· simp[*];done)|(refine bN (i1) ?_ ?_;· simp[*];done)|(refine bN (u _) ?_ ?_;· simp[*];done)|(refine bN (f) ?_ ?_;· simp[*];done)
 all_goals first|exact gN af|(simp[touch];done)
theorem Qo:bX Tz.prog 23 [Tw.dT mY,.sl 2 [.int .i64 0,.int .i64 1]] (.tup [.int .i64 500,.int .i64 0]) true:=by
 have c1:=uJ;have c2:=Qn;have c3:=H0.1
 have c4:bX Tz.prog 77 [Tw.dT mY,.sl 2 [.int .i64 0,.int .i64 1]] (.tup [rd2,.int .i64 0]) false:=by
  clear c3;rw[qL] at *;unfold rd2 at *;refine rcK Tz.func77 ?_;simp only[Tryz.results77,Tryz.ntmps77]
  repeat' first|(with_reducible first|apply bH|apply bT|apply bG|apply bQ|refine And.intro ?_ ?_|intro _)|simp[*]|(refine bN (c1) ?_ ?_;· simp[*];done)|(refine bN (c2) ?_ ?_;· simp[*];done)
 clear c1 c2;rw[qL] at *;unfold rd2 at *;refine rcK Tz.func23 ?_;simp only[Tryz.results23,Tryz.ntmps23]
 repeat' first|(with_reducible first|apply bH|apply b7|apply bT|apply bG|apply bQ|refine And.intro ?_ ?_|intro _)|simp[*]|(refine bN (c3) ?_ ?_;· simp[*];done)|(refine bN (c4) ?_ ?_;· simp[*];done)
noncomputable instance zc7:bI:=LD
theorem JE(v:Int):oG Tz.prog 81 [.sl 1 [.int .i64 v],.int .i64 (2:Nat)] [[.w false false (.int .i64 v),.w false false (.int .i64 v)]] (.msl 0 2 1 0 2):=by
 have c:=H2 2 (.inl rfl);refine xG 0 [] Tz.func81 aj rfl (gG aj) ae (by intro c hc;simp only[oS] at hc;subst hc;rfl) ?_;simp only[Tryz.results81,Tryz.ntmps81]
 repeat' first|(with_reducible first|refine jO 40 ?_|apply j4|apply gS|apply bH|apply b7|apply bT|apply da|apply bG|refine ny (id:=9) [0,1,2,3,4,5,6] [7,8,9] [[.slot 7],[],[],[],[],[],[]] [[.slot 7],[],[]] mixed ai ?_|apply bQ|refine And.intro ?_ ?_|intro _)|simp[*]|(refine bN (c) ?_ ?_;· simp[*];done)
 all_goals first|exact gN af|(simp[touch];done)
theorem xJ:bX Tz.prog 73 [rd2,.int .i64 0,.sl 2 [.int .i64 100,.int .i64 0]] (.int .i64 200) true/\bX Tz.prog 73 [rd2,.int .i64 1,.sl 2 [.int .i64 100,.int .i64 0]] (.int .i64 250) true:=by
 have c1:=HY;unfold rd2;constructor
 all_goals
  refine rcK Tz.func73 ?_;simp only[Tryz.results73,Tryz.ntmps73]
  repeat' first|(with_reducible first|refine jO 40 ?_|apply j4|apply gS|apply bH|apply b7|apply bT|apply da|apply bG|refine df (id:=6) 18 mixed ai ?_|apply bQ|refine And.intro ?_ ?_|intro _)|simp[*,Tw.dY]|(refine bN (c1) ?_ ?_;· simp[*];done)
 all_goals first|exact gN af|(simp[touch];done)
theorem Qp:bX Tz.prog 25 [Tw.dT mY] (.tup [.agg [.sl 2 [.int .i64 1,.int .i64 0],.int .i64 350,.sl 2 [.int .i64 200,.int .i64 250],.sl 2 [.int .i64 100,.int .i64 0]],.int .i64 0]) false:=by
 have c1:=uJ;have c2:=Qk;have c3:=Ql;have r1:=JE (-1);have c4:bX Tz.prog 78 [rd2,.sl 2 [.int .i64 1,.int .i64 0]] (.int .i64 350) true:=H0.2;have c5:=xJ.1;have c6:=xJ.2;rw[qL] at *;unfold rd2 at *;simp only[ints,List.map] at c2;refine rcK Tz.func25 ?_;simp only[Tryz.results25,Tryz.ntmps25]
 repeat' first|(with_reducible first|refine jO 40 ?_|apply j4|apply gS|apply bH|apply b7|apply bT|apply da|apply bG|refine df (id:=5) 12 mixed ai ?_|refine df (id:=14) 12 mixed ai ?_|refine df (id:=19) 10 mixed ai ?_|apply bQ|refine And.intro ?_ ?_|refine cwM (r1) ?_|intro _)|simp[*]|(refine bN (c1) ?_ ?_;· simp[*];done)|(refine bN (c2) ?_ ?_;· simp[*];done)|(refine bN (c3) ?_ ?_;· simp[*];done)|(refine bN (c4) ?_ ?_;· simp[*];done)|(refine bN (c5) ?_ ?_;· simp[*];done)|(refine bN (c6) ?_ ?_;· simp[*];done)
 all_goals first|exact gN af|(simp[touch];done)
theorem Qq:bX Tz.prog 17 [Tw.dT mY,.agg [.sl 2 [.int .i64 200,.int .i64 250],.sl 2 [.int .i64 100,.int .i64 0]]] (.tup [.int .i64 350,.int .i64 0]) true:=by
 have c1:=uJ;have c5:=xJ.1;have c6:=xJ.2
 have u:∀e,bX Tz.prog 71 [.bool true,.int .i64 e] (.int .i64 0) true:=λe=>gv true e
 have f:=H3;rw[qL] at *;unfold rd2 at *;refine rcK Tz.func17 ?_;simp only[Tryz.results17,Tryz.ntmps17]
 repeat' first|(with_reducible first|refine jO 40 ?_|apply j4|apply gS|apply bH|apply b7|apply bT|apply da|apply bG|apply bQ|refine And.intro ?_ ?_|refine cw (u _) ?_|refine cw (jw _ _ _) ?_|intro _)|simp[*,dj]|(refine bN (c1) ?_ ?_;· simp[*];done)|(refine bN (c5) ?_ ?_;· simp[*];done)|(refine bN (c6) ?_ ?_;· simp[*];done)|(refine bN (u _) ?_ ?_;· simp[*];done)|(refine bN (f) ?_ ?_;· simp[*];done)|(refine bN (jw _ _ _) ?_ ?_;· simp[*];done)
 all_goals first|exact gN af|decide|(simp[touch];done)
noncomputable instance zc9:bI:=LD
@[simp]theorem JF:fw Tz.prog 153=some [.w false false .undef]:=aj
def yp:List AV:=[.ptr 0 1 0,.ptr 1 1 0,.ptr 4 1 0,.ptr 5 1 0]
theorem Qr:bX Tz.prog 83 [rd2,.int .i64 100000] (.tup [.sl 2 [.int .i64 1,.int .i64 0],.int .i64 2]) true/\bX Tz.prog 83 [rd2,.int .i64 0] (.tup [.sl 2 [.int .i64 (-1),.int .i64 (-1)],.int .i64 0]) true/\bX Tz.prog 83 [rd2,.int .i64 100] (.tup [.sl 2 [.int .i64 0,.int .i64 (-1)],.int .i64 1]) true/\bX Tz.prog 83 [rd2,.int .i64 150] (.tup [.sl 2 [.int .i64 0,.int .i64 (-1)],.int .i64 1]) true/\bX Tz.prog 83 [rd2,.int .i64 200] (.tup [.sl 2 [.int .i64 1,.int .i64 0],.int .i64 2]) true:=by
 have r1:=JE (-1);unfold rd2 at *;refine⟨?_,?_,?_,?_,?_⟩
 all_goals
  refine rcK Tz.func83 ?_;simp only[Tryz.results83,Tryz.ntmps83]
  repeat' first|((with_reducible refine xI (id:=6) 12 119 mixed ai ai Tz.func119 aj rfl rfl ?_);simp[*,yp,JF,gC,jZ,pR,oneOf];refine xH yp rfl (gG aj) ae rfl ?_)|(with_reducible first|refine xI (id:=8) 9 119 mixed ai ai Tz.func119 aj rfl rfl ?_|refine xH yp rfl (gG aj) ae rfl ?_|refine jO 40 ?_|apply j4|apply gS|apply bH|apply b7|apply bT|apply da|apply bG|refine df (id:=4) 23 mixed ai ?_|refine df (id:=6) 14 mixed ai ?_|apply bQ|refine And.intro ?_ ?_|refine cwM (r1) ?_|intro _)|simp[*,yp,JF,gC,jZ,pR,oneOf]
 all_goals first|exact gN af|(simp[touch];done)
noncomputable instance zdb:bI:=LD
theorem JG(a b:Int):bX Tz.prog 161 [.int .i64 a,.int .i64 b] (.bool (decide (a<b))) true:=by
 have c:∀a,bX Tz.prog 179 [.int .i64 a] (.bool false) true:=λa=>by
  refine rcK Tz.func179 ?_;simp only[Tryz.results179,Tryz.ntmps179]
  repeat' first|(with_reducible first|apply bH|apply bT|apply bG|intro _)|simp[*]
 refine rcK Tz.func161 ?_;simp only[Tryz.results161,Tryz.ntmps161]
 repeat' first|(with_reducible first|apply bH|apply bT|apply bG|refine And.intro ?_ ?_|refine cw (c _) ?_|intro _)|simp[*]|(refine bN (c _) ?_ ?_;· simp[*];done)
theorem Qx:bX Tz.prog 32 [Tw.dT mY] (.tup [.int .i64 200,.sl 2 [.int .i64 1,.int .i64 0],.int .i64 0]) false:=by
 have c1:=uJ;obtain⟨m1,m2,m3,m4,m5⟩:=Qr
 have c2:bX Tz.prog 121 [.int .u64 5] (.int .i64 3) true:=by
  have c:bX Tz.prog 165 [.int .u64 5] (.int .i64 3) true:=by
   refine rcK Tz.func165 ?_;simp only[Tryz.results165,Tryz.ntmps165]
   repeat' first|(with_reducible first|apply bH|apply b7|apply bT|apply bG|apply bQ|refine And.intro ?_ ?_|intro _)|simp[*]
   all_goals first|exact gN af|decide
  refine rcK Tz.func121 ?_;simp only[Tryz.results121,Tryz.ntmps121]
  repeat' first|(with_reducible first|apply bH|apply b7|apply bT|apply bG|apply bQ|refine And.intro ?_ ?_|intro _)|simp[*]|(refine bN (c) ?_ ?_;· simp[*];done)
 have c4:=HZ [.int .i64 1,.int .i64 0];rw[qL] at *;unfold rd2 at *;refine xD Tz.func32 aj rfl (gG aj) ?_;simp only[Tryz.results32,Tryz.ntmps32]
 repeat' first|((with_reducible refine H7 (o:=false) (f:=false) ?_ ?_);(· rfl))|((with_reducible refine H8 (o:=false) (f:=false) ?_ ?_);(· rfl))|(with_reducible first|apply fM|apply r6|refine H5 40 ?_|apply H6|refine BQ (gf:=122) rfl Tz.func122 aj rfl (gG aj) (λl=>?_)|refine xE (id:=3) 16 ?_ ?_|refine BW rfl ae ?_|apply HX|apply fJ|refine uH (id:=10) 1 Tz.func84 aj rfl af rfl ?_|refine uH (id:=12) 1 Tz.func85 aj rfl af rfl ?_|refine uH (id:=1) 5 Tz.func120 aj rfl af rfl ?_|refine uH (id:=4) 3 Tz.func155 aj rfl af rfl ?_|refine HC (gG aj) ae rfl ?_|refine jO 40 ?_|apply j4|apply gS|apply bH|apply b7|apply bT|apply da|apply bG|refine df (id:=4) 15 mixed ai ?_|refine ny (id:=6) [0,1,2,3,4,5,6,7,8,9,10,11,12,13,14] [15,16,17] [[],[],[.slot 0],[.slot 0],[.slot 0],[],[],[],[],[],[],[],[],[],[]] [[.slot 0],[],[.slot 0]] mixed ai ?_|refine df (id:=6) 10 mixed ai ?_|apply bQ|refine And.intro ?_ ?_|refine cw (JG _ _) ?_|intro _)|simp[*,gC,jZ,pR,oneOf]|(refine bN (c1) ?_ ?_;· simp[*];done)|(refine bN (m1) ?_ ?_;· simp[*];done)|(refine bN (m2) ?_ ?_;· simp[*];done)|(refine bN (m3) ?_ ?_;· simp[*];done)|(refine bN (m4) ?_ ?_;· simp[*];done)|(refine bN (m5) ?_ ?_;· simp[*];done)|(refine bN (c2) ?_ ?_;· simp[*];done)|(refine bN (c4) ?_ ?_;· simp[*];done)|(refine bN (JG _ _) ?_ ?_;· simp[*];done)
 all_goals first|exact gN af|decide|(simp[touch];done)
noncomputable instance zdd:bI:=LD
theorem TM:nI Tz.prog 157=some (.int .i64,.int .i64 0):=aj
def qe:PV:=.agg [.sl 1 [.str ⟨#[97]⟩,.int .i64 4,.bool false],.sl 2 [.str ⟨#[112]⟩,.int .i64 1,.bool false,.int .i64 0,.str ⟨#[113]⟩,.int .i64 1,.bool false,.int .i64 0],.sl 2 [.sl 1 [.int .i64 100],.sl 1 [.int .i64 150]],.sl 0 []]
theorem Qy:bX Tz.prog 42 [Tw.dT mY,.int .i64 1] (.tup [qe,.int .i64 0]) false:=by
 have c1:=uJ
 have c2:bX Tz.prog 91 [rd2,.int .i64 1] (.int .i64 0) true:=by
  have u:∀e,bX Tz.prog 71 [.bool true,.int .i64 e] (.int .i64 0) true:=λe=>gv true e
  unfold rd2;refine rcK Tz.func91 ?_;simp only[Tryz.results91,Tryz.ntmps91]
  repeat' first|(with_reducible first|apply bH|apply bT|apply bG|refine And.intro ?_ ?_|refine cw (jw _ _ _) ?_|refine cw (u _) ?_|intro _)|simp[*,dj]|(refine bN (jw _ _ _) ?_ ?_;· simp[*];done)|(refine bN (u _) ?_ ?_;· simp[*];done)
  all_goals first|exact gN af|decide
 have k0:∀k:Int,bX Tz.prog 123 [.sl 0 [],.int .i64 k] (.bool false) true:=λk=>uI [] af k
 have k1:bX Tz.prog 123 [.sl 1 [.int .i64 1],.int .i64 0] (.bool false) true:=uI [1] af 0;have k2:bX Tz.prog 123 [.sl 1 [.int .i64 1],.int .i64 1] (.bool true) true:=uI [1] af 1
 have c3:bX Tz.prog 87 [rd2,.sl 0 [],.sl 1 [.int .i64 1]] qe true:=by
  have mt:=TM;clear c1 c2;unfold rd2 qe;refine rcK Tz.func87 ?_;simp only[Tryz.results87,Tryz.ntmps87]
  repeat' first|(with_reducible first|refine jO 40 ?_|apply j4|apply gS|apply bH|apply b7|apply bT|apply da|apply bG|apply bQ|refine And.intro ?_ ?_|refine cw (k0 _) ?_|intro _)|simp[*,lkV,lkR,yo,Fg,okM,okK,isLit,nH,jR,eqK,Dv,Tw.fq,Tw.dY,mt]|(refine bN (k0 _) ?_ ?_;· simp[*];done)|(refine bN (k1) ?_ ?_;· simp[*];done)|(refine bN (k2) ?_ ?_;· simp[*];done)
  all_goals first|exact gN af|decide|(simp[touch];done)
 rw[qL] at *;unfold rd2 qe at *;clear k0 k1 k2;refine rcK Tz.func42 ?_;simp only[Tryz.results42,Tryz.ntmps42]
 repeat' first|(with_reducible first|apply bH|apply b7|apply bT|apply bG|apply bQ|refine And.intro ?_ ?_|intro _)|simp[*]|(refine bN (c1) ?_ ?_;· simp[*];done)|(refine bN (c2) ?_ ?_;· simp[*];done)|(refine bN (c3) ?_ ?_;· simp[*];done)
 all_goals first|exact gN af|decide|(simp[touch];done)
end Go.Proofs.YthpkmilhiganjaaGreat
