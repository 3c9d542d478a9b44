/- Lemmas. -/
import Derived.Test.YthpkmilhiganjaaGreatPDa
import Derived.Test.YthpkmilhiganjaaGreatPLf
import Derived.Test.YthpkmilhiganjaaGreatPLg
import Derived.KernelRfl
import Derived.Test.YthpkmilhiganjaaGreatPLd
set_option linter.all false
set_option maxHeartbeats 32000000
set_option maxRecDepth 100000
namespace Go.Proofs.YthpkmilhiganjaaGreat
open Go Go.Fi
structure Rd where
 ab:List Car
 os:List Ord
 wt:List (List Int)
 zs:List Par
 fit:List (List Bool)
def nJ(l:List Bool):List PV:=l.map PV.bool
@[simp]theorem Yd(l:List Bool):(nJ l).length=l.length:=by simp[nJ]
@[simp]theorem NZ(l:List Bool)(k:Nat)(h:k<l.length):dL (nJ l) k=.bool (nth l k):=sK _ l k h
def HX(l:List Bool):PV:=.sl l.length (nJ l)
def oT(f:List (List Bool)):List PV:=f.map HX
@[simp]theorem Ye(f:List (List Bool)):(oT f).length=f.length:=by simp[oT]
@[simp]theorem Yf(f:List (List Bool))(k:Nat)(h:k<f.length):dL (oT f) k=.sl (nth f k).length (nJ (nth f k)):=sK HX f k h
def Rd.pv(x:Rd):PV:=.ip [.sl x.ab.length (bf x.ab),.sl x.os.length (ba x.os),.sl x.wt.length (bP x.wt),.sl x.zs.length (aZ x.zs),.sl x.fit.length (oT x.fit)] 0
noncomputable def bz(r:Tw.RND):Rd:=⟨r.ab,r.os,r.wt,r.zs,(List.range r.os.length).map (Tw.lA r)⟩
theorem N3(r:Tw.RND):Tw.rr r=.sl (bz r).fit.length (oT (bz r).fit):=by
 unfold Tw.rr bz oT;simp only[hZ,oV,List.map_map];rfl
theorem qJ(r:Tw.RND)(h:ceR r=0):Tw.lB ceR r=.tup [(bz r).pv,.int .i64 0]:=by
 unfold Tw.lB;rw[az h,N3];rfl
theorem N4(r:Tw.RND)(h:ceR r≠0):Tw.lB ceR r=.tup [.gl,.int .i64 (ceR r)]:=by
 unfold Tw.lB;rw[ai h]
variable[ak]
theorem AM(x:Rd)(h:x.ab.length<100000)(n:Int):aB Tz.prog 91 [x.pv,.int .i64 n] (.int .i64 (aP (aL n 0 ((x.ab.length:Int)-1)) 6)) true:=by
 obtain⟨ab,os,wt,zs,fit⟩:=x;unfold Rd.pv;simp only[] at h ⊢;refine rcK Tz.func91 ?_;simp only[Tryz.results91,Tryz.ntmps91]
 repeat' first|(with_reducible first|apply aj|apply av|apply af|refine And.intro ?_ ?_|refine cw (gk _ _ _) ?_|refine cw (eh _ _) ?_|intro _)|(simp[*])|(refine ar (gk _ _ _) ?_ ?_;(· (simp[*];done)))|(refine ar (eh _ _) ?_ ?_;(· (simp[*];done)))
 all_goals first
  |exact aN (by omega) (by omega)
  |omega
theorem N5(l:List Int)(hl:l.length<100000)(v:Int):aB Tz.prog 166 [.sl l.length (ints l),.int .i64 v] (.int .i64 (idxOf (λy=>decide (v=y)) l)) true:=by
 generalize hR:idxOf (λy=>decide (v=y)) l=R;have kR:br (gq (λy=>decide (v=y)) l 0=R):=keep hR;clear hR;refine rcK Tz.func166 ?_;simp only[Tryz.results166,Tryz.ntmps166]
 repeat' first|(with_reducible first|apply aj|apply af|intro _)|(simp[*])
 refine eD (λ(k:Nat)=>k<=l.length/\gq (λy=>decide (v=y)) (l.drop k) k=R) [0,1,7] (λ(k:Nat)=>[(8,.w false false (.int .i64 k))]) [] (λ(k:Nat)=>[]) (λ(k:Nat)=>l.length-k) (λ(_u:Unit)=>R=-1) [] (λ(_u:Unit)=>[]) [] (λ(_u:Unit)=>[]) (0) ⟨aR _,kR⟩ (by simp) (by simp) (λk hk=>?_) (λ_u hf=>?_)
 .obtain⟨hk,hj⟩:=hk;by_cases h8:k<l.length
  .have hh:=hj;rw[fC l k h8] at hh;unfold gq at hh;have kj:=keep hh;clear hj hh
   repeat' first|(with_reducible first|apply aj|apply aI|apply aE|apply av|apply af|apply au|refine And.intro ?_ ?_|refine bY ?_ ?_|intro _)|(simp[*,h8])
   all_goals first
    |omega
    |exact aN (by omega) (by omega)
    |(rename_i hp;rw[az (by simpa using hp)] at kj;exact kj)
    |(rename_i hp;rw[ai (by simpa using hp)] at kj;(refine nx (k+1) ?_ ?_;(· exact⟨by omega,kj⟩);(refine aM ?_ ?_<;>first|trivial|(simp[*];done))))
  .have h9:k=l.length:=by omega
   subst h9
   repeat' first|(with_reducible first|apply aj|apply aK|apply af|apply au|intro _)|(simp[*])
   all_goals (refine bN () ?_ ?_;(· rw[<-hj,jK];rfl);(refine aM ?_ ?_<;>first|trivial|(simp[*];done)))
 .subst hf
  repeat' first|(with_reducible first|apply aj|apply av|apply af|intro _)|(simp[*])
theorem pD(l:List Int)(hl:l.length<100000)(v:Int):aB Tz.prog 123 [.sl l.length (ints l),.int .i64 v] (.bool (l.any λy=>decide (v=y))) true:=by
 have c1:=N5 l hl v;have h:=sX (λy=>decide (v=y)) l;generalize idxOf (λy:Int=>decide (v=y)) l=i at *;rw[<-h];clear h;refine rcK Tz.func123 ?_;simp only[Tryz.results123,Tryz.ntmps123]
 repeat' first|(with_reducible first|apply aj|apply av|apply af|refine And.intro ?_ ?_|refine cw (c1) ?_|intro _)|(simp[*])|(refine ar (c1) ?_ ?_;(· (simp[*];done)))
end Go.Proofs.YthpkmilhiganjaaGreat
namespace Go.Proofs.YthpkmilhiganjaaGreat
open Go Go.Fi
variable[ak]
theorem N6(x:Rd)(plan:List Int):aB Tz.prog 86 [x.pv,.sl plan.length (ints plan)] (.fn 122 [.ip [.sl plan.length (ints plan)] 0,.ip [x.pv] 0]) false:=by
 generalize hx:x.pv=p;obtain⟨cs,rfl⟩:∃cs,p=.ip cs 0:=⟨_,hx.symm⟩;clear hx;refine rcK Tz.func86 ?_;simp only[Tryz.results86,Tryz.ntmps86]
 repeat' first|(with_reducible first|apply aj|apply av|apply af|intro _)|(simp[*])
def eqF:List Int->List Int->Bool
 |[],[]=>true
 |a::r,b::s=>decide (a=b)&&eqF r s
 |_,_=>false
theorem AN:∀(a b:List Int),eqF a b=decide (a=b)
 |[],[]=>rfl
 |[],b::s=>by simp[eqF]
 |a::r,[]=>by simp[eqF]
 |a::r,b::s=>by simp[eqF,AN r s]
theorem Gf(a b:List Int)(ha:a.length<100000):aB Tz.prog 52 [.sl a.length (ints a),.sl b.length (ints b)] (.bool (eqF a b)) true:=by
 generalize hR:eqF a b=R;have kR:=keep hR;clear hR;by_cases hl:a.length=b.length
 .have kl:=keep hl
  have kb:br (b.length<100000):=by show b.length<100000;omega
  rw[hl]
  have kl2:br ((a.length:Int)=b.length):=by show (a.length:Int)=b.length;omega
  clear hl ha;refine rcK Tz.func52 ?_;simp only[Tryz.results52,Tryz.ntmps52]
  repeat' first|(with_reducible first|apply aj|apply aE|apply af|apply au|intro _)|(simp[*])
  refine eD (λ(k:Nat)=>k<=b.length/\eqF (a.drop k) (b.drop k)=R) [0,1] (λ(k:Nat)=>[(5,.w false false (.int .i64 k))]) [] (λ(k:Nat)=>[]) (λ(k:Nat)=>b.length-k) (λ(_u:Unit)=>R=true) [] (λ(_u:Unit)=>[]) [] (λ(_u:Unit)=>[]) (0) ⟨aR _,kR⟩ (by simp) (by simp) (λk hk=>?_) (λ_u hf=>?_)
  .obtain⟨hk,hj⟩:=hk;have hlen:a.length=b.length:=kl;have hb:b.length<100000:=kb;by_cases h8:k<b.length
   .have hg:k<a.length:=by omega
    rw[fC a k hg,fC b k h8] at hj;unfold eqF at hj;have kj:=keep hj;clear hj hlen
    repeat' first|(with_reducible first|apply aj|apply aI|apply aE|apply av|apply af|refine bm (id:=6) 9 mixed (by decide +kernel) ?_|apply au|refine And.intro ?_ ?_ |  refine cD ?_ ?_|intro _)|(simp[*,h8,hg])
    all_goals first
     |omega
     |exact aN (by omega) (by omega)
     |(rename_i hp;rw[show decide (nth a k=nth b k)=false by simpa using hp] at kj;simpa[br] using kj)
     |(rename_i hp;rw[show decide (nth a k=nth b k)=true by simpa using hp] at kj;(refine nx (k+1) ?_ ?_;(· exact⟨by omega,by simpa[br] using kj⟩);(refine aM ?_ ?_<;>first|trivial|(simp[*];done))))
   .have h9:k=b.length:=by omega
    have hi:k=a.length:=by omega
    rw[show b.drop k=[] from Iw (by omega),show a.drop k=[] from Iw (by omega)] at hj;have kj:=keep hj;clear hj h9 hi hlen
    repeat' first|(with_reducible first|apply aj|apply aK|apply af|apply au|intro _)|(simp[*,h8])
    all_goals first
     |omega
     |(refine bN () ?_ ?_;(· exact kj.symm);(refine aM ?_ ?_<;>first|trivial|(simp[*];done)))
  .subst hf
   repeat' first|(with_reducible first|apply aj|apply av|apply af|intro _)|(simp[*])
 .have hRf:R=false:=by
   rw[<-show eqF a b=R from kR,AN];simp only[decide_eq_false_iff_not];intro e;exact hl (by rw[e])
  subst hRf
  have h2:¬((a.length:Int)=b.length):=by omega
  clear kR;refine rcK Tz.func52 ?_;simp only[Tryz.results52,Tryz.ntmps52]
  repeat' first|(with_reducible first|apply aj|apply av|apply af|apply au|intro _)|(simp[*,h2,hl])
def lE:Tw.RND where
 ab:=[(⟨#[97]⟩,4,false),(⟨#[98]⟩,4,false)]
 os:=[(⟨#[112]⟩,1,false,0),(⟨#[113]⟩,1,false,0)]
 wt:=[[100,200],[150,400]]
 zs:=[]
 dT:=by
  refine⟨?_,?_,?_,by decide,by decide,by decide,by decide⟩
  .intro c hc;simp only[db,lL,or_false] at hc
   rcases hc with rfl|rfl<;>decide
  .intro c hc;simp only[db,lL,or_false] at hc
   rcases hc with rfl|rfl<;>decide
  .intro c hc;simp only[db,lL,or_false] at hc
   rcases hc with rfl|rfl<;>decide
theorem R4:aB Tz.prog 68 [] (.agg [.sl 2 [.str ⟨#[97]⟩,.int .i64 4,.bool false,.str ⟨#[98]⟩,.int .i64 4,.bool false],.sl 2 [.str ⟨#[112]⟩,.int .i64 1,.bool false,.int .i64 0,.str ⟨#[113]⟩,.int .i64 1,.bool false,.int .i64 0],.sl 2 [.sl 2 [.int .i64 100,.int .i64 200],.sl 2 [.int .i64 150,.int .i64 400]],.sl 0 []]) false:=by
 refine rcK Tz.func68 ?_;simp only[Tryz.results68,Tryz.ntmps68]
 repeat' first|(with_reducible first|apply aj|apply av|apply af|intro _)|(simp[*])
theorem pE:Tw.cu lE=.agg [.sl 2 [.str ⟨#[97]⟩,.int .i64 4,.bool false,.str ⟨#[98]⟩,.int .i64 4,.bool false],.sl 2 [.str ⟨#[112]⟩,.int .i64 1,.bool false,.int .i64 0,.str ⟨#[113]⟩,.int .i64 1,.bool false,.int .i64 0],.sl 2 [.sl 2 [.int .i64 100,.int .i64 200],.sl 2 [.int .i64 150,.int .i64 400]],.sl 0 []]:=rfl
theorem R5:Tz.prog.underlying 28=some (.slice 3):=by kernel_rfl
theorem Gp(l:List Int)(x:PV)(hx:x∈ints l):flat x=true:=by
 obtain⟨n,_,rfl⟩:=lK.1 hx;rfl
theorem AR:∀l:List Int,dh (List.map (AV.w false false) (ints l))=true
 |[]=>rfl
 |_::l=>AR l
theorem Oi(l:List Int)(h:l.length<100000):aB Tz.prog 97 [.sl l.length (ints l)] (.sl l.length (ints l)) true:=by
 refine rcK Tz.func97 ?_;simp only[Tryz.results97,Tryz.ntmps97];refine aj ?_;refine af ?_;simp;refine aj ?_;refine aj ?_;refine NF (ow:=false) (fl:=false) (k:=l.length) (cells:=ints l) R5 ?_ ?_ ?_ ?_
 .simp
 .decide
 .decide
 intro b hb
 cases b with
 |true=>
  have hl:l=[]:=ia (hb rfl).1;subst hl
  repeat' first|(with_reducible first|apply aj|apply av|apply af|apply au|intro _)|(simp[*,ints])
 |false=>
  clear hb
  repeat' first|(with_reducible first|apply aj|apply aE|apply av|apply af|apply au|refine And.intro ?_ ?_|intro _)|(simp[*])
  all_goals first|omega|(rename_i hx;exact Gp l _ hx)|exact AR l
theorem Oj(l:List Int)(h:l.length<10000000):aB Tz.prog 24 [.sl l.length (ints l)] (.sl l.length (ints l)) true:=by
 refine rcK Tz.func24 ?_;simp only[Tryz.results24,Tryz.ntmps24]
 repeat' first|(with_reducible first|apply aj|apply av|apply af|refine And.intro ?_ ?_|intro _)|(simp[*])
 all_goals first|omega|(rename_i hx;exact Gp l _ hx)|exact AR l
theorem Ok{α:Type}[Inhabited α](l:List α)(k:Nat)(h:k<l.length):l.take (k+1)=l.take k++[nth l k]:=by
 rw[IA h];simp[nth,da,cG h]
def cpA(m:List (List Int))(k:Nat):List AV:=(bP (m.take k)).map (.w true false)
theorem Gq(m:List (List Int))(k:Nat)(h:k<=m.length):(cpA m k).length=k:=by
 simp[cpA,Nat.min_eq_left h]
@[simp]theorem YV(m:List (List Int)):cpA m 0=[]:=rfl
theorem Gr(m:List (List Int))(k:Nat)(h:k<m.length):cpA m (k+1)=cpA m k++[.w true false (.sl (nth m k).length (ints (nth m k)))]:=by
 unfold cpA bP;rw[Ok m k h,Ct,Ct];rfl
@[simp]theorem YX{D:List Nat}{h:ae}{n n':Nat}(m:List (List Int))(k:Nat):gD D h n n' (cpA m k) (cpA m k)=True:=eq_true (og true false _)
theorem Ol(m:List (List Int)):cpA m m.length=(bP m).map (.w true false):=by simp[cpA]
theorem Gs(m:List (List Int))(hl:m.length<100000)(h':∀w∈m,w.length<100000):aB Tz.prog 74 [.sl m.length (bP m)] (.sl m.length (bP m)) true:=by
 refine rcK Tz.func74 ?_;simp only[Tryz.results74,Tryz.ntmps74]
 repeat' first|(with_reducible first|apply aj|apply af|intro _)|(simp[*])
 refine gj 1 (λ(k:Nat)=>k<=m.length) [0] (λ(k:Nat)=>[(3,.msl 0 k 1 0 k),(4,.w false false (.int .i64 k))]) [] (λ(k:Nat)=>[(0,cpA m k)]) (λ(k:Nat)=>m.length-k) (λ(_u:Unit)=>True) [] (λ(_u:Unit)=>[(3,.msl 0 m.length 1 0 m.length)]) [] (λ(_u:Unit)=>[(0,cpA m m.length)]) (0) (aR _) (bU [] (by simp) (by simp)) (λk hk=>?_) (λ_u hf=>?_)
 .by_cases h8:k<m.length
  .have hm:=h' (nth m k) (by rw[nth,da,cG h8];exact ID _);clear h';have cc:=Oj (nth m k) (by omega);have hlen:=Gq m k hk;have ks:=keep (Gr m k h8)
   repeat' first|(with_reducible first|apply aj|apply cT|apply aE|apply af|apply au|refine And.intro ?_ ?_|refine cw (cc) ?_|intro _)|(simp[*,h8,hlen])|(refine ar (cc) ?_ ?_;(· (simp[*];done)))
   all_goals first
    |exact aN (by omega) (by omega)
    |omega
    |(refine nx (k+1) ?_ ?_;(· omega);(refine bU [] ?_ ?_<;>first|trivial|(simp[*,ks,Gr m k h8];done)))
  .have h9:k=m.length:=by omega
   subst h9
   repeat' first|(with_reducible first|apply aj|apply aK|apply af|apply au|intro _)|(simp[*])
   all_goals first
    |(refine bN () ?_ ?_;(· trivial);(refine bU [] ?_ ?_<;>first|trivial|(simp[*];done)))
 .have hlen:=Gq m m.length (aD _);rw[Ol]
  repeat' first|(with_reducible first|apply aj|apply av|apply af|intro _)|(simp[*,hlen])
theorem wx(l:List Car)(x:PV)(hx:x∈bf l):flat x=true/\tQ x=true:=by
 obtain⟨c,_,hx⟩:=xB.1 hx;simp only[Tw.dM,db,lL,or_false] at hx
 rcases hx with rfl|rfl|rfl<;>exact⟨rfl,rfl⟩
theorem wy(l:List Ord)(x:PV)(hx:x∈ba l):flat x=true/\tQ x=true:=by
 obtain⟨c,_,hx⟩:=xB.1 hx;simp only[Tw.cJ,db,lL,or_false] at hx
 rcases hx with rfl|rfl|rfl|rfl<;>exact⟨rfl,rfl⟩
theorem wz(l:List Par)(x:PV)(hx:x∈aZ l):flat x=true/\tQ x=true:=by
 obtain⟨c,_,hx⟩:=xB.1 hx;simp only[Tw.cg,db,lL,or_false] at hx
 rcases hx with rfl|rfl<;>exact⟨rfl,rfl⟩
theorem Gt(r:Tw.RND):aB Tz.prog 18 [Tw.cu r] (Tw.cu r) true:=by
 obtain⟨ab,os,wt,zs,dT⟩:=r;obtain⟨f1,f2,f3,f4,f5,f6,f7⟩:=dT;have c1:=Gs wt f6 f3;unfold Tw.cu Tw.RND.j6 Tw.RND.osP Tw.RND.mn Tw.RND.zsP Tw.RND.nw Tw.RND.wait;simp only[]
 change aB Tz.prog 18 [.agg [.sl ab.length (bf ab),.sl os.length (ba os),.sl wt.length (bP wt),.sl zs.length (aZ zs)]] (.agg [.sl ab.length (bf ab),.sl os.length (ba os),.sl wt.length (bP wt),.sl zs.length (aZ zs)]) true
 clear f1 f2 f3 f6;refine rcK Tz.func18 ?_;simp only[Tryz.results18,Tryz.ntmps18]
 repeat' first|(with_reducible first|apply aj|apply av|apply af|refine qF (id:=1) [0,1,2,4,5,6,8,9,11,12,13] [3,7,10,14,15,16] [[],[],[],[.new 0],[.new 0],[.new 0],[.new 0,.new 1],[.new 0,.new 1],[.new 0,.new 1],[.new 0,.new 1],[.new 0,.new 1]] [[.new 0],[.new 1],[],[.new 2],[],[.slot 2]] mixed (by decide +kernel) ?_|refine And.intro ?_ ?_|refine cw (c1) ?_|intro _)|(simp[*])|(refine ar (c1) ?_ ?_;(· (simp[*];done)))
 all_goals first
  |omega
  |(rename_i hx;first|exact (wx _ _ hx).1|exact (wy _ _ hx).1|exact (wz _ _ hx).1)
  |(refine wh false false _ (fR.2 λy hy=>?_);first|exact (wx _ _ hy).2|exact (wy _ _ hy).2|exact (wz _ _ hy).2)
def g9{α:Type}(p:α->Bool)(l:List α)(k:Nat):Bool:=(l.drop k).all p
theorem AS{α:Type}[Inhabited α]{p:α->Bool}{l:List α}{k:Nat}(h:k<l.length):g9 p l k=(p (nth l k)&&g9 p l (k+1)):=by
 unfold g9;rw[fC l k h];rfl
theorem AT{α:Type}(p:α->Bool)(l:List α):g9 p l l.length=true:=by
 unfold g9;rw[jK];rfl
def H5(c o w z:Nat):Bool:=decide (¬(((4<c/\c<=8)\/10<c)\/((4<o/\o<=8)\/10<o)\/12<w\/66<z))
def rH(ab:List Car)(os:List Ord)(wt:List (List Int))(zs:List Par):Bool:=
 H5 ab.length os.length wt.length zs.length&&(ab.all (λx:Car=>decide (x.1.size<=20))&&(os.all (λx:Ord=>decide (x.1.size<=20))&&wt.all (λw:List Int=>decide (w.length<=10))))
theorem R7(ab:List Car)(os:List Ord)(wt:List (List Int))(zs:List Par):aB Tz.prog 16 [.agg [.sl ab.length (bf ab),.sl os.length (ba os),.sl wt.length (bP wt),.sl zs.length (aZ zs)]] (.bool (rH ab os wt zs)) true:=by
 unfold rH;have hA0:ab.all (λx:Car=>decide (x.1.size<=20))=g9 (λx:Car=>decide (x.1.size<=20)) ab 0:=rfl;have hA2:os.all (λx:Ord=>decide (x.1.size<=20))=g9 (λx:Ord=>decide (x.1.size<=20)) os 0:=rfl;have hA4:wt.all (λw:List Int=>decide (w.length<=10))=g9 (λw:List Int=>decide (w.length<=10)) wt 0:=rfl;rw[hA0,hA2,hA4];clear hA0 hA2 hA4;generalize hA0:g9 (λx:Car=>decide (x.1.size<=20)) ab 0=A0;generalize hA2:g9 (λx:Ord=>decide (x.1.size<=20)) os 0=A2;generalize hA4:g9 (λw:List Int=>decide (w.length<=10)) wt 0=A4;have kA0:=keep hA0;have kA2:=keep hA2;have kA4:=keep hA4;clear hA0 hA2 hA4
 cases hS:H5 ab.length os.length wt.length zs.length with
 |false=>
  have hS:=of_decide_eq_false hS;have kS:=keep hS;clear hS;simp only[iG];refine rcK Tz.func16 ?_;simp only[Tryz.results16,Tryz.ntmps16]
  repeat' first|(with_reducible first|apply aj|apply aE|apply av|apply af|apply au|refine Nc ?_ ?_|refine Nb ?_ ?_|refine bY ?_ ?_|intro _)|(simp[*])
  all_goals (exfalso;have hS:=kS;unfold br at hS;omega)
 |true=>
  have hS:=of_decide_eq_true hS
  have l1:ab.length<=10:=by omega
  have l2:os.length<=10:=by omega
  have l3:wt.length<=12:=by omega
  have kS:=keep hS;clear hS;simp only[fz]
  have w5:¬(66:Int)<zs.length:=by have hS:=kS;unfold br at hS;omega
  have w6:¬(12:Int)<wt.length:=by omega
  have w7:¬(10:Int)<ab.length:=by omega
  have w8:¬(10:Int)<os.length:=by omega
  have key:((¬(4:Int)<ab.length)\/((4:Int)<ab.length/\¬(ab.length:Int)<=8)):=by have hS:=kS;unfold br at hS;omega
  have key2:((¬(4:Int)<os.length)\/((4:Int)<os.length/\¬(os.length:Int)<=8)):=by have hS:=kS;unfold br at hS;omega
  clear kS hS
  rcases key with g1|⟨g1,g2⟩<;>rcases key2 with g3|⟨g3,g4⟩
  all_goals
   refine rcK Tz.func16 ?_;simp only[Tryz.results16,Tryz.ntmps16]
   repeat' first|(with_reducible first|apply aj|apply aE|apply af|apply au|intro _)|(simp[*])
   have kk:=keep (And.intro w5 (And.intro w6 (And.intro w7 w8)));clear w5 w6 w7 w8;refine eD (λ(k:Nat)=>k<=ab.length/\g9 (λx:Car=>decide (x.1.size<=20)) ab k=A0) [1] (λ(k:Nat)=>[(3,.w false false (.int .i64 k))]) [0] (λ(k:Nat)=>[]) (λ(k:Nat)=>ab.length-k) (λ(_u:Unit)=>A0=true) [1] (λ(_u:Unit)=>[]) [0] (λ(_u:Unit)=>[]) (0) ⟨aR _,kA0⟩ (by simp) (by simp) (λk hk=>?_) (λ_u hf=>?_)
   .obtain⟨hk,hj⟩:=hk;by_cases h8:k<ab.length
    .rw[AS h8] at hj;by_cases hr:20<((nth ab k).1.size:Int)
     .have hA:A0=false:=by rw[<-hj];simp;omega
      clear hj kA0;subst hA
      repeat' first|(with_reducible first|apply aj|apply aI|apply aE|apply av|apply af|apply au|intro _)|(simp[*,h8,hr])
      all_goals first|exact aN (by omega) (by omega)|omega|(simp;done)
     .have kj:br (g9 (λx:Car=>decide (x.1.size<=20)) ab (k+1)=A0):=keep (by rw[<-hj,decide_eq_true (show (nth ab k).1.size<=20 by omega),fz]);clear hj
      repeat' first|(with_reducible first|apply aj|apply aI|apply aE|apply af|apply au|refine And.intro ?_ ?_|intro _)|(simp[*,h8,hr])
      all_goals first
       |exact aN (by omega) (by omega)
       |omega
       |(refine nx (k+1) ?_ ?_;(· exact⟨by omega,kj⟩);(refine aM ?_ ?_<;>first|trivial|(simp[*];done)))
    .have h9:k=ab.length:=by omega
     subst h9;rw[AT] at hj;have kj:=keep hj.symm;clear hj kA0
     repeat' first|(with_reducible first|apply aj|apply aK|apply af|apply au|intro _)|(simp[*])
     all_goals (refine bN () ?_ ?_;(· exact kj);(refine aM ?_ ?_<;>first|trivial|(simp[*];done)))
   .subst hf;clear kA0;simp only[fz]
    repeat' first|(with_reducible first|apply aj|apply af|intro _)|(simp[*])
    refine eD (λ(k:Nat)=>k<=os.length/\g9 (λx:Ord=>decide (x.1.size<=20)) os k=A2) [1] (λ(k:Nat)=>[(4,.w false false (.int .i64 k))]) [0] (λ(k:Nat)=>[]) (λ(k:Nat)=>os.length-k) (λ(_u:Unit)=>A2=true) [1] (λ(_u:Unit)=>[]) [0] (λ(_u:Unit)=>[]) (0) ⟨aR _,kA2⟩ (by simp) (by simp) (λk hk=>?_) (λ_u hf=>?_)
    .obtain⟨hk,hj⟩:=hk;by_cases h8:k<os.length
     .rw[AS h8] at hj;by_cases hr:20<((nth os k).1.size:Int)
      .have hA:A2=false:=by rw[<-hj];simp;omega
       clear hj kA2;subst hA
       repeat' first|(with_reducible first|apply aj|apply aI|apply aE|apply av|apply af|apply au|intro _)|(simp[*,h8,hr])
       all_goals first|exact aN (by omega) (by omega)|omega|(simp;done)
      .have kj:br (g9 (λx:Ord=>decide (x.1.size<=20)) os (k+1)=A2):=keep (by rw[<-hj,decide_eq_true (show (nth os k).1.size<=20 by omega),fz]);clear hj
       repeat' first|(with_reducible first|apply aj|apply aI|apply aE|apply af|apply au|refine And.intro ?_ ?_|intro _)|(simp[*,h8,hr])
       all_goals first
        |exact aN (by omega) (by omega)
        |omega
        |(refine nx (k+1) ?_ ?_;(· exact⟨by omega,kj⟩);(refine aM ?_ ?_<;>first|trivial|(simp[*];done)))
     .have h9:k=os.length:=by omega
      subst h9;rw[AT] at hj;have kj:=keep hj.symm;clear hj kA2
      repeat' first|(with_reducible first|apply aj|apply aK|apply af|apply au|intro _)|(simp[*])
      all_goals (refine bN () ?_ ?_;(· exact kj);(refine aM ?_ ?_<;>first|trivial|(simp[*];done)))
    .subst hf;clear kA2;simp only[fz]
     repeat' first|(with_reducible first|apply aj|apply af|intro _)|(simp[*])
     refine eD (λ(k:Nat)=>k<=wt.length/\g9 (λw:List Int=>decide (w.length<=10)) wt k=A4) [1] (λ(k:Nat)=>[(5,.w false false (.int .i64 k))]) [0] (λ(k:Nat)=>[]) (λ(k:Nat)=>wt.length-k) (λ(_u:Unit)=>A4=true) [] (λ(_u:Unit)=>[]) [0] (λ(_u:Unit)=>[]) (0) ⟨aR _,kA4⟩ (by simp) (by simp) (λk hk=>?_) (λ_u hf=>?_)
     .obtain⟨hk,hj⟩:=hk;by_cases h8:k<wt.length
      .rw[AS h8] at hj;by_cases hr:10<((nth wt k).length:Int)
       .have hA:A4=false:=by rw[<-hj];simp;omega
        clear hj kA4;subst hA
        repeat' first|(with_reducible first|apply aj|apply aI|apply aE|apply av|apply af|apply au|intro _)|(simp[*,h8,hr])
        all_goals first|exact aN (by omega) (by omega)|omega|(simp;done)
       .have kj:br (g9 (λw:List Int=>decide (w.length<=10)) wt (k+1)=A4):=keep (by rw[<-hj,decide_eq_true (show (nth wt k).length<=10 by omega),fz]);clear hj
        repeat' first|(with_reducible first|apply aj|apply aI|apply aE|apply af|apply au|refine And.intro ?_ ?_|intro _)|(simp[*,h8,hr])
        all_goals first
         |exact aN (by omega) (by omega)
         |omega
         |(refine nx (k+1) ?_ ?_;(· exact⟨by omega,kj⟩);(refine aM ?_ ?_<;>first|trivial|(simp[*];done)))
      .have h9:k=wt.length:=by omega
       subst h9;rw[AT] at hj;have kj:=keep hj.symm;clear hj kA4
       repeat' first|(with_reducible first|apply aj|apply aK|apply af|apply au|intro _)|(simp[*])
       all_goals (refine bN () ?_ ?_;(· exact kj);(refine aM ?_ ?_<;>first|trivial|(simp[*];done)))
     .subst hf
      repeat' first|(with_reducible first|apply aj|apply av|apply af|intro _)|(simp[*])
theorem Gu{ab:List Car}{os:List Ord}{wt:List (List Int)}{zs:List Par}(h:rH ab os wt zs=true):(ab.length<=10/\(8<ab.length\/ab.length<=4))/\(os.length<=10/\(8<os.length\/os.length<=4))/\wt.length<=12/\zs.length<=66/\(∀c∈ab,c.1.size<=20)/\(∀o∈os,o.1.size<=20)/\∀w∈wt,w.length<=10:=by
 unfold rH at h;simp only[di,fR,decide_eq_true_eq] at h;obtain⟨h1,h2,h3,h4⟩:=h;have h1:=of_decide_eq_true h1;exact⟨⟨by omega,by omega⟩,⟨by omega,by omega⟩,by omega,by omega,h2,h3,h4⟩
def H6(ab:List Car)(os:List Ord)(wt:List (List Int))(zs:List Par)(h:rH ab os wt zs=true):Tw.RND:=⟨ab,os,wt,zs,by
 obtain⟨⟨h1,_⟩,⟨h2,_⟩,h3,h4,h5,h6,h7⟩:=Gu h
 exact⟨λc hc=>by have:=h5 c hc;omega,λc hc=>by have:=h6 c hc;omega,λc hc=>by have:=h7 c hc;omega,by omega,by omega,by omega,by omega⟩⟩
def rd2:PV:=.ip [.sl 2 [.str ⟨#[97]⟩,.int .i64 4,.bool false,.str ⟨#[98]⟩,.int .i64 4,.bool false],.sl 2 [.str ⟨#[112]⟩,.int .i64 1,.bool false,.int .i64 0,.str ⟨#[113]⟩,.int .i64 1,.bool false,.int .i64 0],.sl 2 [.sl 2 [.int .i64 100,.int .i64 200],.sl 2 [.int .i64 150,.int .i64 400]],.sl 0 [],.sl 2 [.sl 2 [.bool true,.bool true],.sl 2 [.bool true,.bool true]]] 0
theorem Gw:aB Tz.prog 116 [.int .i64 0] (.int .i64 1000000) true:=rF 0 (by decide)
theorem Gx(l:List PV):aB Tz.prog 86 [rd2,.sl 2 l] (.fn 122 [.ip [.sl 2 l] 0,.ip [rd2] 0]) false:=by
 unfold rd2;refine rcK Tz.func86 ?_;simp only[Tryz.results86,Tryz.ntmps86]
 repeat' first|(with_reducible first|apply aj|apply av|apply af|intro _)|(simp[*])
theorem Gy:aB Tz.prog 78 [rd2,.sl 2 [.int .i64 0,.int .i64 1]] (.int .i64 500) true/\aB Tz.prog 78 [rd2,.sl 2 [.int .i64 1,.int .i64 0]] (.int .i64 350) true:=by
 have c1:=Gw
 have c2:=λl=>Gx l
 unfold rd2 at *;constructor
 all_goals
  refine wo Tz.func78 (by kernel_rfl) rfl (ga (by kernel_rfl)) ?_;simp only[Tryz.results78,Tryz.ntmps78]
  repeat' first|(with_reducible first|apply mY|apply wm|refine AD (gf:=122) rfl Tz.func122 (by kernel_rfl) rfl (ga (by kernel_rfl)) (λl=>?_)|apply mX|refine wq (id:=3) 16 ?_ ?_|refine AP rfl (by simp) ?_|apply Gv|refine iX 40 ?_|apply jh|apply fT|apply aj|apply aE|apply av|apply aK|apply af|refine bm (id:=5) 5 mixed (by decide +kernel) ?_|refine bm (id:=10) 14 mixed (by decide +kernel) ?_|apply au|refine And.intro ?_ ?_|refine cw (c1) ?_|refine cw (c2 _) ?_|intro _)|(simp[*,Tw.cJ,fI,iM])|(refine ar (c1) ?_ ?_;(· (simp[*];done)))|(refine ar (c2 _) ?_ ?_;(· (simp[*];done)))
 all_goals first|exact fw (by decide)|(simp[touch];done)
theorem Oo:aB Tz.prog 80 [.ip [.sl 2 [.str ⟨#[97]⟩,.int .i64 4,.bool false,.str ⟨#[98]⟩,.int .i64 4,.bool false],.sl 2 [.str ⟨#[112]⟩,.int .i64 1,.bool false,.int .i64 0,.str ⟨#[113]⟩,.int .i64 1,.bool false,.int .i64 0],.sl 2 [.sl 2 [.int .i64 100,.int .i64 200],.sl 2 [.int .i64 150,.int .i64 400]],.sl 0 [],.sl 2 [.sl 2 [.bool true,.bool true],.sl 2 [.bool true,.bool true]]] 0] (.sl 2 [.sl 4 (ints [100,200,1000000,1000000000000000]),.sl 4 (ints [150,400,1000000000000000,1000000])]) true:=by
 have c1:=rF 0 (by decide)
 have e:(de 0:Int)=1000000:=by kernel_rfl
 rw[e] at c1;refine rcK Tz.func80 ?_;simp only[Tryz.results80,Tryz.ntmps80]
 repeat' first|(with_reducible first|refine iX 40 ?_|apply jh|apply fT|apply aj|apply aE|apply av|apply aK|apply af|apply au|refine And.intro ?_ ?_|refine cw (c1) ?_|intro _)|(simp[*,Tw.cJ,ints])|(refine ar (c1) ?_ ?_;(· (simp[*];done)))
 all_goals exact fw (by decide)
theorem Gz(n:Nat)(h:n=2\/n=4):aB Tz.prog 118 [.int .u64 1,.int .u64 n] (.tup [.int .u64 0,.int .u64 n]) true:=by
 have c:aB Tz.prog 154 [.int .u64 1,.int .u64 n] (.tup [.int .u64 0,.int .u64 n]) true:=by
  rcases h with rfl|rfl
  all_goals
   refine rcK Tz.func154 ?_;simp only[Tryz.results154,Tryz.ntmps154]
   repeat' first|(with_reducible first|apply aj|apply av|apply af|refine And.intro ?_ ?_|intro _)|(simp[*])
  all_goals exact fw (by decide)
 refine rcK Tz.func118 ?_;simp only[Tryz.results118,Tryz.ntmps118]
 repeat' first|(with_reducible first|apply aj|apply aE|apply av|apply af|apply au|refine And.intro ?_ ?_|refine cw (c) ?_|intro _)|(simp[*])|(refine ar (c) ?_ ?_;(· (simp[*];done)))
theorem H7(v:Int):jz Tz.prog 81 [.sl 1 [.int .i64 v],.int .i64 (4:Nat)] [[.w false false (.int .i64 v),.w false false (.int .i64 v),.w false false (.int .i64 v),.w false false (.int .i64 v)]] (.msl 0 4 1 0 4):=by
 have c:=Gz 4 (.inr rfl);refine sY 0 [] Tz.func81 (by kernel_rfl) rfl (ga (by kernel_rfl)) (by simp) (by intro c hc;simp only[oZ] at hc;subst hc;rfl) ?_;simp only[Tryz.results81,Tryz.ntmps81]
 repeat' first|(with_reducible first|refine iX 40 ?_|apply jh|apply fT|apply aj|apply aE|apply av|apply aK|apply af|refine qF (id:=9) [0,1,2,3,4,5,6] [7,8,9] [[.slot 7],[],[],[],[],[],[]] [[.slot 7],[],[]] mixed (by decide +kernel) ?_|apply au|refine And.intro ?_ ?_|refine cw (c) ?_|intro _)|(simp[*])|(refine ar (c) ?_ ?_;(· (simp[*];done)))
 all_goals first|exact fw (by decide)|(simp[touch];done)
theorem Oq:aB Tz.prog 79 [.sl 2 [.sl 4 [.int .i64 100,.int .i64 200,.int .i64 1000000,.int .i64 1000000000000000],.sl 4 [.int .i64 150,.int .i64 400,.int .i64 1000000000000000,.int .i64 1000000]],.int .i64 4] (.ip [.sl 2 [.sl 4 [.int .i64 100,.int .i64 200,.int .i64 1000000,.int .i64 1000000000000000],.sl 4 [.int .i64 150,.int .i64 400,.int .i64 1000000000000000,.int .i64 1000000]],.sl 2 [.int .i64 200,.int .i64 250],.sl 4 [.int .i64 (-100),.int .i64 0,.int .i64 0,.int .i64 0],.sl 4 [.int .i64 1,.int .i64 0,.int .i64 (-1),.int .i64 (-1)],.sl 4 [.int .i64 (-1),.int .i64 0,.int .i64 0,.int .i64 (-1)]] 0) false:=by
 have r1:=H7 (-1);have r2:=H7 10000000000000000;refine rcK Tz.func79 ?_;simp only[Tryz.results79,Tryz.ntmps79]
 repeat' first|(with_reducible first|refine qK (id:=5) 2 Tz.func117 (by kernel_rfl) rfl (by decide) rfl ?_|refine AQ (by decide) (by simp) rfl ?_|refine iX 40 ?_|apply jh|apply fT|apply Gm|apply Gn|apply aj|apply aE|apply av|apply aK|apply af|refine bm (id:=1) 12 mixed (by decide +kernel) ?_|refine bm (id:=1) 7 mixed (by decide +kernel) ?_|refine bm (id:=9) 27 mixed (by decide +kernel) ?_|refine bm (id:=20) 16 mixed (by decide +kernel) ?_|refine bm (id:=32) 13 mixed (by decide +kernel) ?_|apply au|refine And.intro ?_ ?_|refine cwM (r1) ?_|refine cwM (r2) ?_|intro _)|(simp[*,fI,iM])
 all_goals try first|exact fw (by decide)|(simp[touch];done)
end Go.Proofs.YthpkmilhiganjaaGreat
namespace Go.Proofs.YthpkmilhiganjaaGreat
open Go Go.Fi
noncomputable instance zan:ak:=LD
theorem Ot:ceR lE=0:=by kernel_rfl
theorem tc:aB Tz.prog 69 [Tw.cu lE] (.tup [rd2,.int .i64 0]) false:=by
 have c:=nG lE;rw[qJ lE Ot] at c;exact c
theorem GA:aB Tz.prog 70 [.sl 2 [.int .i64 0,.int .i64 0]] (.int .i64 0) true:=sV [0,0] (by decide)
theorem Ou:aB Tz.prog 111 [rd2,.sl 2 [.int .i64 0,.int .i64 1]] (.tup [.int .i64 0,.int .i64 0]) true:=by
 have k:∀n:Int,(n=0\/n=1)->aB Tz.prog 91 [rd2,.int .i64 n] (.int .i64 0) true:=λn h=>by
  rcases h with rfl|rfl
  all_goals
   unfold rd2;refine rcK Tz.func91 ?_;simp only[Tryz.results91,Tryz.ntmps91]
   repeat' first|(with_reducible first|apply aj|apply av|apply af|refine And.intro ?_ ?_|refine cw (gk _ _ _) ?_|refine cw (eh _ _) ?_|intro _)|(simp[*])|(refine ar (gk _ _ _) ?_ ?_;(· (simp[*];done)))|(refine ar (eh _ _) ?_ ?_;(· (simp[*];done)))
  all_goals first|exact fw (by decide)|decide
 have k0:=k 0 (.inl rfl);have k1:=k 1 (.inr rfl);have i0:aB Tz.prog 123 [.sl 0 [],.int .i64 0] (.bool false) true:=pD [] (by decide) 0;have i1:aB Tz.prog 123 [.sl 1 [.int .i64 0],.int .i64 1] (.bool false) true:=pD [0] (by decide) 1
 have u:∀e,aB Tz.prog 71 [.bool true,.int .i64 e] (.int .i64 0) true:=λe=>eh true e
 have f:=GA;clear k;unfold rd2 at *;refine rcK Tz.func111 ?_;simp only[Tryz.results111,Tryz.ntmps111]
 repeat' first|(with_reducible first|refine iX 40 ?_|apply jh|apply fT|apply aj|apply aE|apply av|apply aK|apply af|refine bm (id:=10) 21 mixed (by decide +kernel) ?_|apply au|refine And.intro ?_ ?_|refine cw (k0) ?_|refine cw (k1) ?_|refine cw (i0) ?_|refine cw (i1) ?_|refine cw (u _) ?_|refine cw (f) ?_|intro _)|(simp[*])|(refine ar (k0) ?_ ?_;(· (simp[*];done)))|(refine ar (k1) ?_ ?_;(· (simp[*];done)))|(refine ar (i0) ?_ ?_;(· (simp[*];done)))|(refine ar (i1) ?_ ?_;(· (simp[*];done)))|(refine ar (u _) ?_ ?_;(· (simp[*];done)))|(refine ar (f) ?_ ?_;(· (simp[*];done)))
 all_goals first|exact fw (by decide)|(simp[touch];done)
theorem Ov:aB Tz.prog 23 [Tw.cu lE,.sl 2 [.int .i64 0,.int .i64 1]] (.tup [.int .i64 500,.int .i64 0]) true:=by
 have c1:=tc;have c2:=Ou;have c3:=Gy.1
 have c4:aB Tz.prog 77 [Tw.cu lE,.sl 2 [.int .i64 0,.int .i64 1]] (.tup [rd2,.int .i64 0]) false:=by
  clear c3;rw[pE] at *;unfold rd2 at *;refine rcK Tz.func77 ?_;simp only[Tryz.results77,Tryz.ntmps77]
  repeat' first|(with_reducible first|apply aj|apply av|apply af|apply au|refine And.intro ?_ ?_|refine cw (c1) ?_|refine cw (c2) ?_|intro _)|(simp[*])|(refine ar (c1) ?_ ?_;(· (simp[*];done)))|(refine ar (c2) ?_ ?_;(· (simp[*];done)))
 clear c1 c2;rw[pE] at *;unfold rd2 at *;refine rcK Tz.func23 ?_;simp only[Tryz.results23,Tryz.ntmps23]
 repeat' first|(with_reducible first|apply aj|apply aE|apply av|apply af|apply au|refine And.intro ?_ ?_|refine cw (c3) ?_|refine cw (c4) ?_|intro _)|(simp[*])|(refine ar (c3) ?_ ?_;(· (simp[*];done)))|(refine ar (c4) ?_ ?_;(· (simp[*];done)))
noncomputable instance zao:ak:=LD
theorem H8(v:Int):jz Tz.prog 81 [.sl 1 [.int .i64 v],.int .i64 (2:Nat)] [[.w false false (.int .i64 v),.w false false (.int .i64 v)]] (.msl 0 2 1 0 2):=by
 have c:=Gz 2 (.inl rfl);refine sY 0 [] Tz.func81 (by kernel_rfl) rfl (ga (by kernel_rfl)) (by simp) (by intro c hc;simp only[oZ] at hc;subst hc;rfl) ?_;simp only[Tryz.results81,Tryz.ntmps81]
 repeat' first|(with_reducible first|refine iX 40 ?_|apply jh|apply fT|apply aj|apply aE|apply av|apply aK|apply af|refine qF (id:=9) [0,1,2,3,4,5,6] [7,8,9] [[.slot 7],[],[],[],[],[],[]] [[.slot 7],[],[]] mixed (by decide +kernel) ?_|apply au|refine And.intro ?_ ?_|refine cw (c) ?_|intro _)|(simp[*])|(refine ar (c) ?_ ?_;(· (simp[*];done)))
 all_goals first|exact fw (by decide)|(simp[touch];done)
theorem wA:aB Tz.prog 73 [rd2,.int .i64 0,.sl 2 [.int .i64 100,.int .i64 0]] (.int .i64 200) true/\aB Tz.prog 73 [rd2,.int .i64 1,.sl 2 [.int .i64 100,.int .i64 0]] (.int .i64 250) true:=by
 have c1:=Gw;unfold rd2;constructor
 all_goals
  refine rcK Tz.func73 ?_;simp only[Tryz.results73,Tryz.ntmps73]
  repeat' first|(with_reducible first|refine iX 40 ?_|apply jh|apply fT|apply aj|apply aE|apply av|apply aK|apply af|refine bm (id:=6) 18 mixed (by decide +kernel) ?_|apply au|refine And.intro ?_ ?_|refine cw (c1) ?_|intro _)|(simp[*,Tw.cJ])|(refine ar (c1) ?_ ?_;(· (simp[*];done)))
 all_goals first|exact fw (by decide)|(simp[touch];done)
theorem Ow:aB Tz.prog 25 [Tw.cu lE] (.tup [.agg [.sl 2 [.int .i64 1,.int .i64 0],.int .i64 350,.sl 2 [.int .i64 200,.int .i64 250],.sl 2 [.int .i64 100,.int .i64 0]],.int .i64 0]) false:=by
 have c1:=tc;have c2:=Oo;have c3:=Oq;have r1:=H8 (-1);have c4:aB Tz.prog 78 [rd2,.sl 2 [.int .i64 1,.int .i64 0]] (.int .i64 350) true:=Gy.2;have c5:=wA.1;have c6:=wA.2;rw[pE] at *;unfold rd2 at *;simp only[ints,List.map] at c2;refine rcK Tz.func25 ?_;simp only[Tryz.results25,Tryz.ntmps25]
 repeat' first|(with_reducible first|refine iX 40 ?_|apply jh|apply fT|apply aj|apply aE|apply av|apply aK|apply af|refine bm (id:=5) 12 mixed (by decide +kernel) ?_|refine bm (id:=14) 12 mixed (by decide +kernel) ?_|refine bm (id:=19) 10 mixed (by decide +kernel) ?_|apply au|refine And.intro ?_ ?_|refine cw (c1) ?_|refine cw (c2) ?_|refine cw (c3) ?_|refine cwM (r1) ?_|refine cw (c4) ?_|refine cw (c5) ?_|refine cw (c6) ?_|intro _)|(simp[*])|(refine ar (c1) ?_ ?_;(· (simp[*];done)))|(refine ar (c2) ?_ ?_;(· (simp[*];done)))|(refine ar (c3) ?_ ?_;(· (simp[*];done)))|(refine ar (c4) ?_ ?_;(· (simp[*];done)))|(refine ar (c5) ?_ ?_;(· (simp[*];done)))|(refine ar (c6) ?_ ?_;(· (simp[*];done)))
 all_goals first|exact fw (by decide)|(simp[touch];done)
theorem Ox:aB Tz.prog 17 [Tw.cu lE,.agg [.sl 2 [.int .i64 200,.int .i64 250],.sl 2 [.int .i64 100,.int .i64 0]]] (.tup [.int .i64 350,.int .i64 0]) true:=by
 have c1:=tc;have c5:=wA.1;have c6:=wA.2
 have u:∀e,aB Tz.prog 71 [.bool true,.int .i64 e] (.int .i64 0) true:=λe=>eh true e
 have f:=GA;rw[pE] at *;unfold rd2 at *;refine rcK Tz.func17 ?_;simp only[Tryz.results17,Tryz.ntmps17]
 repeat' first|(with_reducible first|refine iX 40 ?_|apply jh|apply fT|apply aj|apply aE|apply av|apply aK|apply af|apply au|refine And.intro ?_ ?_|refine cw (c1) ?_|refine cw (c5) ?_|refine cw (c6) ?_|refine cw (u _) ?_|refine cw (f) ?_|refine cw (gk _ _ _) ?_|intro _)|(simp[*,aL])|(refine ar (c1) ?_ ?_;(· (simp[*];done)))|(refine ar (c5) ?_ ?_;(· (simp[*];done)))|(refine ar (c6) ?_ ?_;(· (simp[*];done)))|(refine ar (u _) ?_ ?_;(· (simp[*];done)))|(refine ar (f) ?_ ?_;(· (simp[*];done)))|(refine ar (gk _ _ _) ?_ ?_;(· (simp[*];done)))
 all_goals first|exact fw (by decide)|decide|(simp[touch];done)
noncomputable instance zaq:ak:=LD
@[simp]theorem H9:dW Tz.prog 153=some [.w false false .undef]:=by kernel_rfl
def xe:List AV:=[.ptr 0 1 0,.ptr 1 1 0,.ptr 4 1 0,.ptr 5 1 0]
theorem Oy:aB Tz.prog 83 [rd2,.int .i64 100000] (.tup [.sl 2 [.int .i64 1,.int .i64 0],.int .i64 2]) true/\aB Tz.prog 83 [rd2,.int .i64 0] (.tup [.sl 2 [.int .i64 (-1),.int .i64 (-1)],.int .i64 0]) true/\aB Tz.prog 83 [rd2,.int .i64 100] (.tup [.sl 2 [.int .i64 0,.int .i64 (-1)],.int .i64 1]) true/\aB Tz.prog 83 [rd2,.int .i64 150] (.tup [.sl 2 [.int .i64 0,.int .i64 (-1)],.int .i64 1]) true/\aB Tz.prog 83 [rd2,.int .i64 200] (.tup [.sl 2 [.int .i64 1,.int .i64 0],.int .i64 2]) true:=by
 have r1:=H8 (-1);unfold rd2 at *;refine⟨?_,?_,?_,?_,?_⟩
 all_goals
  refine rcK Tz.func83 ?_;simp only[Tryz.results83,Tryz.ntmps83]
  repeat' first|((with_reducible refine Gl (id:=6) 12 119 mixed (by decide +kernel) (by decide +kernel) Tz.func119 (by kernel_rfl) rfl rfl ?_);simp[*,xe,H9,fI,iM,nD,oneOf];refine Gk xe rfl (ga (by kernel_rfl)) (by simp) rfl ?_)|(with_reducible first|refine Gl (id:=8) 9 119 mixed (by decide +kernel) (by decide +kernel) Tz.func119 (by kernel_rfl) rfl rfl ?_|refine Gk xe rfl (ga (by kernel_rfl)) (by simp) rfl ?_|refine iX 40 ?_|apply jh|apply fT|apply aj|apply aE|apply av|apply aK|apply af|refine bm (id:=4) 23 mixed (by decide +kernel) ?_|refine bm (id:=6) 14 mixed (by decide +kernel) ?_|apply au|refine And.intro ?_ ?_|refine cwM (r1) ?_|intro _)|(simp[*,xe,H9,fI,iM,nD,oneOf])
 all_goals first|exact fw (by decide)|(simp[touch];done)
noncomputable instance zas:ak:=LD
theorem Ia(a b:Int):aB Tz.prog 161 [.int .i64 a,.int .i64 b] (.bool (decide (a<b))) true:=by
 have c:∀a,aB Tz.prog 179 [.int .i64 a] (.bool false) true:=λa=>by
  refine rcK Tz.func179 ?_;simp only[Tryz.results179,Tryz.ntmps179]
  repeat' first|(with_reducible first|apply aj|apply av|apply af|intro _)|(simp[*])
 refine rcK Tz.func161 ?_;simp only[Tryz.results161,Tryz.ntmps161]
 repeat' first|(with_reducible first|apply aj|apply av|apply af|refine And.intro ?_ ?_|refine cw (c _) ?_|intro _)|(simp[*])|(refine ar (c _) ?_ ?_;(· (simp[*];done)))
theorem OP:aB Tz.prog 32 [Tw.cu lE] (.tup [.int .i64 200,.sl 2 [.int .i64 1,.int .i64 0],.int .i64 0]) false:=by
 have c1:=tc;obtain⟨m1,m2,m3,m4,m5⟩:=Oy
 have c2:aB Tz.prog 121 [.int .u64 5] (.int .i64 3) true:=by
  have c:aB Tz.prog 165 [.int .u64 5] (.int .i64 3) true:=by
   refine rcK Tz.func165 ?_;simp only[Tryz.results165,Tryz.ntmps165]
   repeat' first|(with_reducible first|apply aj|apply aE|apply av|apply af|apply au|refine And.intro ?_ ?_|intro _)|(simp[*])
   all_goals first|exact fw (by decide)|decide
  refine rcK Tz.func121 ?_;simp only[Tryz.results121,Tryz.ntmps121]
  repeat' first|(with_reducible first|apply aj|apply aE|apply av|apply af|apply au|refine And.intro ?_ ?_|refine cw (c) ?_|intro _)|(simp[*])|(refine ar (c) ?_ ?_;(· (simp[*];done)))
 have c4:=Gx [.int .i64 1,.int .i64 0];rw[pE] at *;unfold rd2 at *;refine wo Tz.func32 (by kernel_rfl) rfl (ga (by kernel_rfl)) ?_;simp only[Tryz.results32,Tryz.ntmps32]
 repeat' first|((with_reducible refine GH (o:=false) (f:=false) ?_ ?_);(· rfl))|((with_reducible refine GJ (o:=false) (f:=false) ?_ ?_);(· rfl))|(with_reducible first|apply mY|apply wm|refine GF 40 ?_|apply GG|refine AD (gf:=122) rfl Tz.func122 (by kernel_rfl) rfl (ga (by kernel_rfl)) (λl=>?_)|refine wq (id:=3) 16 ?_ ?_|refine AP rfl (by simp) ?_|apply Gv|apply mX|refine qK (id:=10) 1 Tz.func84 (by kernel_rfl) rfl (by decide) rfl ?_|refine qK (id:=12) 1 Tz.func85 (by kernel_rfl) rfl (by decide) rfl ?_|refine qK (id:=1) 5 Tz.func120 (by kernel_rfl) rfl (by decide) rfl ?_|refine qK (id:=4) 3 Tz.func155 (by kernel_rfl) rfl (by decide) rfl ?_|refine AQ (ga (by kernel_rfl)) (by simp) rfl ?_|refine iX 40 ?_|apply jh|apply fT|apply aj|apply aE|apply av|apply aK|apply af|refine bm (id:=4) 15 mixed (by decide +kernel) ?_|refine qF (id:=6) [0,1,2,3,4,5,6,7,8,9,10,11,12,13,14] [15,16,17] [[],[],[.slot 0],[.slot 0],[.slot 0],[],[],[],[],[],[],[],[],[],[]] [[.slot 0],[],[.slot 0]] mixed (by decide +kernel) ?_|refine bm (id:=6) 10 mixed (by decide +kernel) ?_|apply au|refine And.intro ?_ ?_|refine cw (c1) ?_|refine cw (m1) ?_|refine cw (m2) ?_|refine cw (m3) ?_|refine cw (m4) ?_|refine cw (m5) ?_|refine cw (c2) ?_|refine cw (c4) ?_|refine cw (Ia _ _) ?_|intro _)|(simp[*,fI,iM,nD,oneOf])|(refine ar (c1) ?_ ?_;(· (simp[*];done)))|(refine ar (m1) ?_ ?_;(· (simp[*];done)))|(refine ar (m2) ?_ ?_;(· (simp[*];done)))|(refine ar (m3) ?_ ?_;(· (simp[*];done)))|(refine ar (m4) ?_ ?_;(· (simp[*];done)))|(refine ar (m5) ?_ ?_;(· (simp[*];done)))|(refine ar (c2) ?_ ?_;(· (simp[*];done)))|(refine ar (c4) ?_ ?_;(· (simp[*];done)))|(refine ar (Ia _ _) ?_ ?_;(· (simp[*];done)))
 all_goals first|exact fw (by decide)|decide|(simp[touch];done)
noncomputable instance zau:ak:=LD
theorem R9:jV Tz.prog 157=some (.int .i64,.int .i64 0):=by kernel_rfl
def oU:PV:=.agg [.sl 1 [.str ⟨#[97]⟩,.int .i64 4,.bool false],.sl 2 [.str ⟨#[112]⟩,.int .i64 1,.bool false,.int .i64 0,.str ⟨#[113]⟩,.int .i64 1,.bool false,.int .i64 0],.sl 2 [.sl 1 [.int .i64 100],.sl 1 [.int .i64 150]],.sl 0 []]
theorem OQ:aB Tz.prog 42 [Tw.cu lE,.int .i64 1] (.tup [oU,.int .i64 0]) false:=by
 have c1:=tc
 have c2:aB Tz.prog 91 [rd2,.int .i64 1] (.int .i64 0) true:=by
  have u:∀e,aB Tz.prog 71 [.bool true,.int .i64 e] (.int .i64 0) true:=λe=>eh true e
  unfold rd2;refine rcK Tz.func91 ?_;simp only[Tryz.results91,Tryz.ntmps91]
  repeat' first|(with_reducible first|apply aj|apply av|apply af|refine And.intro ?_ ?_|refine cw (gk _ _ _) ?_|refine cw (u _) ?_|intro _)|(simp[*,aL])|(refine ar (gk _ _ _) ?_ ?_;(· (simp[*];done)))|(refine ar (u _) ?_ ?_;(· (simp[*];done)))
  all_goals first|exact fw (by decide)|decide
 have k0:∀k:Int,aB Tz.prog 123 [.sl 0 [],.int .i64 k] (.bool false) true:=λk=>pD [] (by decide) k
 have k1:aB Tz.prog 123 [.sl 1 [.int .i64 1],.int .i64 0] (.bool false) true:=pD [1] (by decide) 0;have k2:aB Tz.prog 123 [.sl 1 [.int .i64 1],.int .i64 1] (.bool true) true:=pD [1] (by decide) 1
 have c3:aB Tz.prog 87 [rd2,.sl 0 [],.sl 1 [.int .i64 1]] oU true:=by
  have mt:=R9;clear c1 c2;unfold rd2 oU;refine rcK Tz.func87 ?_;simp only[Tryz.results87,Tryz.ntmps87]
  repeat' first|(with_reducible first|refine iX 40 ?_|apply jh|apply fT|apply aj|apply aE|apply av|apply aK|apply af|apply au|refine And.intro ?_ ?_|refine cw (k0 _) ?_|refine cw (k1) ?_|refine cw (k2) ?_|intro _)|(simp[*,lkV,lkR,rG,yc,okM,okK,isLit,jU,iq,eqK,xc,Tw.dM,Tw.cJ,mt])|(refine ar (k0 _) ?_ ?_;(· (simp[*];done)))|(refine ar (k1) ?_ ?_;(· (simp[*];done)))|(refine ar (k2) ?_ ?_;(· (simp[*];done)))
  all_goals first|exact fw (by decide)|decide|(simp[touch];done)
 rw[pE] at *;unfold rd2 oU at *;clear k0 k1 k2;refine rcK Tz.func42 ?_;simp only[Tryz.results42,Tryz.ntmps42]
 repeat' first|(with_reducible first|apply aj|apply aE|apply av|apply af|apply au|refine And.intro ?_ ?_|refine cw (c1) ?_|refine cw (c2) ?_|refine cw (c3) ?_|intro _)|(simp[*])|(refine ar (c1) ?_ ?_;(· (simp[*];done)))|(refine ar (c2) ?_ ?_;(· (simp[*];done)))|(refine ar (c3) ?_ ?_;(· (simp[*];done)))
 all_goals first|exact fw (by decide)|decide|(simp[touch];done)
end Go.Proofs.YthpkmilhiganjaaGreat
