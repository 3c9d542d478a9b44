/- Lemmas. -/
import Derived.Test.YthpkmilhiganjaaGreatPDa
import Derived.Test.YthpkmilhiganjaaGreatPLf
import Derived.Test.YthpkmilhiganjaaGreatPLg
import Derived.KernelRfl
import Derived.Test.YthpkmilhiganjaaGreatPLd
set_option linter.all false
set_option maxHeartbeats 32000000
set_option maxRecDepth 100000
namespace Go.Proofs.YthpkmilhiganjaaGreat
open Go Go.Fi
variable[bE]
def eqF:List Int->List Int->Bool
 |[],[]=>true
 |a::r,b::s=>decide (a=b)&&eqF r s
 |_,_=>false
theorem Br:∀(a b:List Int),eqF a b=decide (a=b)
 |[],[]=>rfl
 |[],b::s=>by simp[eqF]
 |a::r,[]=>by simp[eqF]
 |a::r,b::s=>by simp[eqF,Br r s]
theorem G0(a b:List Int)(ha:a.length<100000):bX Tz.prog 52 [.sl a.length (ints a),.sl b.length (ints b)] (.bool (eqF a b)) true:=by
 generalize hR:eqF a b=R;have kR:=keep hR;clear hR;by_cases hl:a.length=b.length
 .have kl:=keep hl
  have kb:dp (b.length<100000):=by show b.length<100000;omega
  rw[hl]
  have kl2:dp ((a.length:Int)=b.length):=by show (a.length:Int)=b.length;omega
  clear hl ha;refine rcK Tz.func52 ?_;simp only[Tryz.results52,Tryz.ntmps52]
  repeat' first|(with_reducible first|apply bI|apply cg|apply bH|apply bP|intro _)|simp[*]
  refine fH (λ(k:Nat)=>k<=b.length/\eqF (a.drop k) (b.drop k)=R) [0,1] (λ(k:Nat)=>[(5,.w false false (.int .i64 k))]) [] (λ(k:Nat)=>[]) (λ(k:Nat)=>b.length-k) (λ(_u:Unit)=>R=true) [] (λ(_u:Unit)=>[]) [] (λ(_u:Unit)=>[]) (0) ⟨cG _,kR⟩ ae ae (λk hk=>?_) (λ_u hf=>?_)
  .obtain⟨hk,hj⟩:=hk;have hlen:a.length=b.length:=kl;have hb:b.length<100000:=kb;by_cases h8:k<b.length
   .have hh:k<a.length:=ab
    rw[gb a k hh,gb b k h8] at hj;unfold eqF at hj;have kj:=keep hj;clear hj hlen
    repeat' first|(with_reducible first|apply bI|apply dk|apply cg|apply bV|apply bH|refine dD (id:=6) 9 mixed ai ?_|apply bP|refine And.intro ?_ ?_ |  refine oU ?_ ?_|intro _)|simp[*,h8,hh]
    all_goals first
     |omega
     |exact db ab ab
     |(rename_i hp;rw[show decide (nth a k=nth b k)=false by simpa using hp] at kj;simpa[dp] using kj)
     |(rename_i hp;rw[show decide (nth a k=nth b k)=true by simpa using hp] at kj;(refine nx (k+1) ?_ ?_;(· exact⟨ab,by simpa[dp] using kj⟩);(refine cY ?_ ?_<;>first|trivial|(simp[*];done))))
   .have h9:k=b.length:=ab
    have hg:k=a.length:=ab
    rw[show b.drop k=[] from JB ab,show a.drop k=[] from JB ab] at hj;have kj:=keep hj;clear hj h9 hg hlen
    repeat' first|(with_reducible first|apply bI|apply dg|apply bH|apply bP|intro _)|simp[*,h8]
    all_goals first
     |omega
     |(refine dQ () ?_ ?_;(· exact kj.symm);(refine cY ?_ ?_<;>first|trivial|(simp[*];done)))
  .subst hf
   repeat' first|(with_reducible first|apply bI|apply bV|apply bH|intro _)|simp[*]
 .have hRf:R=false:=by
   rw[<-show eqF a b=R from kR,Br];simp only[decide_eq_false_iff_not];intro e;exact hl (by rw[e])
  subst hRf
  have h2:¬((a.length:Int)=b.length):=ab
  clear kR;refine rcK Tz.func52 ?_;simp only[Tryz.results52,Tryz.ntmps52]
  repeat' first|(with_reducible first|apply bI|apply bV|apply bH|apply bP|intro _)|simp[*,h2,hl]
theorem Ts:Tz.prog.underlying 28=some (.slice 3):=aj
theorem G1(l:List Int)(x:PV)(hx:x∈ints l):flat x=true:=by
 obtain⟨n,_,rfl⟩:=ja.1 hx;rfl
theorem Bs:∀l:List Int,eD (List.map (AV.w false false) (ints l))=true
 |[]=>rfl
 |_::l=>Bs l
theorem Pd(l:List Int)(h:l.length<100000):bX Tz.prog 97 [.sl l.length (ints l)] (.sl l.length (ints l)) true:=by
 refine rcK Tz.func97 ?_;simp only[Tryz.results97,Tryz.ntmps97];refine bI ?_;refine bH ?_;simp;refine bI ?_;refine bI ?_;refine ON (ow:=false) (fl:=false) (k:=l.length) (cells:=ints l) Ts ?_ ?_ ?_ ?_
 .simp
 .decide
 .decide
 intro b hb
 cases b with
 |true=>
  have hl:l=[]:=iJ (hb rfl).1;subst hl
  repeat' first|(with_reducible first|apply bI|apply bV|apply bH|apply bP|intro _)|simp[*,ints]
 |false=>
  clear hb
  repeat' first|(with_reducible first|apply bI|apply cg|apply bV|apply bH|apply bP|refine And.intro ?_ ?_|intro _)|simp[*]
  all_goals first|omega|(rename_i hx;exact G1 l _ hx)|exact Bs l
theorem G2(l:List Int)(h:l.length<10000000):bX Tz.prog 24 [.sl l.length (ints l)] (.sl l.length (ints l)) true:=by
 refine rcK Tz.func24 ?_;simp only[Tryz.results24,Tryz.ntmps24]
 repeat' first|(with_reducible first|apply bI|apply bV|apply bH|refine And.intro ?_ ?_|intro _)|simp[*]
 all_goals first|omega|(rename_i hx;exact G1 l _ hx)|exact Bs l
theorem rF{α:Type}[Inhabited α](l:List α)(k:Nat)(h:k<l.length):l.take (k+1)=l.take k++[nth l k]:=by
 rw[List.take_succ_eq_append_getElem h];simp[nth,dT,dO h]
def cpA(m:List (List Int))(k:Nat):List AV:=(dH (m.take k)).map (.w true false)
theorem G3(m:List (List Int))(k:Nat)(h:k<=m.length):(cpA m k).length=k:=by
 simp[cpA,JE h]
@[simp]theorem Zu(m:List (List Int)):cpA m 0=[]:=rfl
theorem G4(m:List (List Int))(k:Nat)(h:k<m.length):cpA m (k+1)=cpA m k++[.w true false (.sl (nth m k).length (ints (nth m k)))]:=by
 unfold cpA dH;rw[rF m k h,JF,JF];rfl
@[simp]theorem Zv{D:List Nat}{h:bz}{n n':Nat}(m:List (List Int))(k:Nat):gF D h n n' (cpA m k) (cpA m k)=True:=eq_true (tZ true false _)
theorem Pe(m:List (List Int)):cpA m m.length=(dH m).map (.w true false):=by simp[cpA]
theorem Pf(m:List (List Int))(hl:m.length<100000)(h':∀w∈m,w.length<100000):bX Tz.prog 74 [.sl m.length (dH m)] (.sl m.length (dH m)) true:=by
 refine rcK Tz.func74 ?_;simp only[Tryz.results74,Tryz.ntmps74]
 repeat' first|(with_reducible first|apply bI|apply bH|intro _)|simp[*]
 refine Bf 1 (λ(k:Nat)=>k<=m.length) [0] (λ(k:Nat)=>[(3,.msl 0 k 1 0 k),(4,.w false false (.int .i64 k))]) [] (λ(k:Nat)=>[(0,cpA m k)]) (λ(k:Nat)=>m.length-k) (λ(_u:Unit)=>True) [] (λ(_u:Unit)=>[(3,.msl 0 m.length 1 0 m.length)]) [] (λ(_u:Unit)=>[(0,cpA m m.length)]) (0) (cG _) (eJ [] ae ae) (λk hk=>?_) (λ_u hf=>?_)
 .by_cases h8:k<m.length
  .have hi:=h' (nth m k) (by rw[nth,dT,dO h8];exact List.getElem_mem _);clear h';have cc:=G2 (nth m k) ab;have hlen:=G3 m k hk;have ks:=keep (G4 m k h8)
   repeat' first|(with_reducible first|apply bI|apply A9|apply cg|apply bH|apply bP|refine And.intro ?_ ?_|intro _)|simp[*,h8,hlen]|(refine bJ (cc) ?_ ?_;· simp[*];done)
   all_goals first
    |exact db ab ab
    |omega
    |(refine nx (k+1) ?_ ?_;(· omega);(refine eJ [] ?_ ?_<;>first|trivial|(simp[*,ks,G4 m k h8];done)))
  .have h9:k=m.length:=ab
   subst h9
   repeat' first|(with_reducible first|apply bI|apply dg|apply bH|apply bP|intro _)|simp[*]
   all_goals first
    |(refine dQ () ?_ ?_;(· trivial);(refine eJ [] ?_ ?_<;>first|trivial|(simp[*];done)))
 .have hlen:=G3 m m.length (bU _);rw[Pe]
  repeat' first|(with_reducible first|apply bI|apply bV|apply bH|intro _)|simp[*,hlen]
theorem xd(l:List Car)(x:PV)(hx:x∈di l):flat x=true/\uL x=true:=by
 obtain⟨c,_,hx⟩:=yc.1 hx;simp only[Tw.fA,dU,mQ,or_false] at hx
 rcases hx with rfl|rfl|rfl<;>exact⟨rfl,rfl⟩
theorem xe(l:List Ord)(x:PV)(hx:x∈dh l):flat x=true/\uL x=true:=by
 obtain⟨c,_,hx⟩:=yc.1 hx;simp only[Tw.eH,dU,mQ,or_false] at hx
 rcases hx with rfl|rfl|rfl|rfl<;>exact⟨rfl,rfl⟩
theorem xg(l:List Par)(x:PV)(hx:x∈dc l):flat x=true/\uL x=true:=by
 obtain⟨c,_,hx⟩:=yc.1 hx;simp only[Tw.eI,dU,mQ,or_false] at hx
 rcases hx with rfl|rfl<;>exact⟨rfl,rfl⟩
theorem Pg(r:Tw.RND):bX Tz.prog 18 [Tw.dR r] (Tw.dR r) true:=by
 obtain⟨bD,os,wt,zs,fj⟩:=r;obtain⟨f1,f2,f3,f4,f5,f6,f7⟩:=fj;have c1:=Pf wt f6 f3;unfold Tw.dR Tw.RND.oB Tw.RND.osP Tw.RND.qF Tw.RND.zsP Tw.RND.nw Tw.RND.wait;simp only[]
 change bX Tz.prog 18 [.agg [.sl bD.length (di bD),.sl os.length (dh os),.sl wt.length (dH wt),.sl zs.length (dc zs)]] (.agg [.sl bD.length (di bD),.sl os.length (dh os),.sl wt.length (dH wt),.sl zs.length (dc zs)]) true
 clear f1 f2 f3 f6;refine rcK Tz.func18 ?_;simp only[Tryz.results18,Tryz.ntmps18]
 repeat' first|(with_reducible first|apply bI|apply bV|apply bH|refine tX (id:=1) [0,1,2,4,5,6,8,9,11,12,13] [3,7,10,14,15,16] [[],[],[],[.new 0],[.new 0],[.new 0],[.new 0,.new 1],[.new 0,.new 1],[.new 0,.new 1],[.new 0,.new 1],[.new 0,.new 1]] [[.new 0],[.new 1],[],[.new 2],[],[.slot 2]] mixed ai ?_|refine And.intro ?_ ?_|intro _)|simp[*]|(refine bJ (c1) ?_ ?_;· simp[*];done)
 all_goals first
  |omega
  |(rename_i hx;first|exact (xd _ _ hx).1|exact (xe _ _ hx).1|exact (xg _ _ hx).1)
  |(refine wX false false _ (gm.2 λy hy=>?_);first|exact (xd _ _ hy).2|exact (xe _ _ hy).2|exact (xg _ _ hy).2)
def rd2:PV:=.ip [.sl 2 [.str ⟨#[97]⟩,.int .i64 4,.bool false,.str ⟨#[98]⟩,.int .i64 4,.bool false],.sl 2 [.str ⟨#[112]⟩,.int .i64 1,.bool false,.int .i64 0,.str ⟨#[113]⟩,.int .i64 1,.bool false,.int .i64 0],.sl 2 [.sl 2 [.int .i64 100,.int .i64 200],.sl 2 [.int .i64 150,.int .i64 400]],.sl 0 [],.sl 2 [.sl 2 [.bool true,.bool true],.sl 2 [.bool true,.bool true]]] 0
theorem Hu:bX Tz.prog 116 [.int .i64 0] (.int .i64 1000000) true:=I4 0 af
theorem Hv(l:List PV):bX Tz.prog 86 [rd2,.sl 2 l] (.fn 122 [.ip [.sl 2 l] 0,.ip [rd2] 0]) false:=by
 unfold rd2;refine rcK Tz.func86 ?_;simp only[Tryz.results86,Tryz.ntmps86]
 repeat' first|(with_reducible first|apply bI|apply bV|apply bH|intro _)|simp[*]
theorem Hw:bX Tz.prog 78 [rd2,.sl 2 [.int .i64 0,.int .i64 1]] (.int .i64 500) true/\bX Tz.prog 78 [rd2,.sl 2 [.int .i64 1,.int .i64 0]] (.int .i64 350) true:=by
 have c1:=Hu
 have c2:=λl=>Hv l
 unfold rd2 at *;constructor
 all_goals
  refine Bl Tz.func78 aj rfl (ij aj) ?_;simp only[Tryz.results78,Tryz.ntmps78]
  repeat' first|(with_reducible first|apply Bi|apply Bj|refine GO (gf:=122) rfl Tz.func122 aj rfl (ij aj) (λl=>?_)|apply Bh|refine G7 (id:=3) 16 ?_ ?_|refine G6 rfl ae ?_|apply Ht|refine jB 40 ?_|apply jO|apply gw|apply bI|apply cg|apply bV|apply dg|apply bH|refine dD (id:=5) 5 mixed ai ?_|refine dD (id:=10) 14 mixed ai ?_|apply bP|refine And.intro ?_ ?_|refine cw (c2 _) ?_|intro _)|simp[*,Tw.eH,gq,jg]|(refine bJ (c1) ?_ ?_;· simp[*];done)|(refine bJ (c2 _) ?_ ?_;· simp[*];done)
 all_goals first|exact fR af|(simp[touch];done)
theorem PU:bX Tz.prog 80 [.ip [.sl 2 [.str ⟨#[97]⟩,.int .i64 4,.bool false,.str ⟨#[98]⟩,.int .i64 4,.bool false],.sl 2 [.str ⟨#[112]⟩,.int .i64 1,.bool false,.int .i64 0,.str ⟨#[113]⟩,.int .i64 1,.bool false,.int .i64 0],.sl 2 [.sl 2 [.int .i64 100,.int .i64 200],.sl 2 [.int .i64 150,.int .i64 400]],.sl 0 [],.sl 2 [.sl 2 [.bool true,.bool true],.sl 2 [.bool true,.bool true]]] 0] (.sl 2 [.sl 4 (ints [100,200,1000000,1000000000000000]),.sl 4 (ints [150,400,1000000000000000,1000000])]) true:=by
 have c1:=I4 0 af
 have e:(jj 0:Int)=1000000:=aj
 rw[e] at c1;refine rcK Tz.func80 ?_;simp only[Tryz.results80,Tryz.ntmps80]
 repeat' first|(with_reducible first|refine jB 40 ?_|apply jO|apply gw|apply bI|apply cg|apply bV|apply dg|apply bH|apply bP|refine And.intro ?_ ?_|intro _)|simp[*,Tw.eH,ints]|(refine bJ (c1) ?_ ?_;· simp[*];done)
 all_goals exact fR af
theorem Hx(n:Nat)(h:n=2\/n=4):bX Tz.prog 118 [.int .u64 1,.int .u64 n] (.tup [.int .u64 0,.int .u64 n]) true:=by
 have c:bX Tz.prog 154 [.int .u64 1,.int .u64 n] (.tup [.int .u64 0,.int .u64 n]) true:=by
  rcases h with rfl|rfl
  all_goals
   refine rcK Tz.func154 ?_;simp only[Tryz.results154,Tryz.ntmps154]
   repeat' first|(with_reducible first|apply bI|apply bV|apply bH|refine And.intro ?_ ?_|intro _)|simp[*]
  all_goals exact fR af
 refine rcK Tz.func118 ?_;simp only[Tryz.results118,Tryz.ntmps118]
 repeat' first|(with_reducible first|apply bI|apply cg|apply bV|apply bH|apply bP|refine And.intro ?_ ?_|intro _)|simp[*]|(refine bJ (c) ?_ ?_;· simp[*];done)
theorem Jd(v:Int):mf Tz.prog 81 [.sl 1 [.int .i64 v],.int .i64 (4:Nat)] [[.w false false (.int .i64 v),.w false false (.int .i64 v),.w false false (.int .i64 v),.w false false (.int .i64 v)]] (.msl 0 4 1 0 4):=by
 have c:=Hx 4 (.inr rfl);refine uh 0 [] Tz.func81 aj rfl (ij aj) ae (by intro c hc;simp only[sV] at hc;subst hc;rfl) ?_;simp only[Tryz.results81,Tryz.ntmps81]
 repeat' first|(with_reducible first|refine jB 40 ?_|apply jO|apply gw|apply bI|apply cg|apply bV|apply dg|apply bH|refine tX (id:=9) [0,1,2,3,4,5,6] [7,8,9] [[.slot 7],[],[],[],[],[],[]] [[.slot 7],[],[]] mixed ai ?_|apply bP|refine And.intro ?_ ?_|intro _)|simp[*]|(refine bJ (c) ?_ ?_;· simp[*];done)
 all_goals first|exact fR af|(simp[touch];done)
theorem PW:bX Tz.prog 79 [.sl 2 [.sl 4 [.int .i64 100,.int .i64 200,.int .i64 1000000,.int .i64 1000000000000000],.sl 4 [.int .i64 150,.int .i64 400,.int .i64 1000000000000000,.int .i64 1000000]],.int .i64 4] (.ip [.sl 2 [.sl 4 [.int .i64 100,.int .i64 200,.int .i64 1000000,.int .i64 1000000000000000],.sl 4 [.int .i64 150,.int .i64 400,.int .i64 1000000000000000,.int .i64 1000000]],.sl 2 [.int .i64 200,.int .i64 250],.sl 4 [.int .i64 (-100),.int .i64 0,.int .i64 0,.int .i64 0],.sl 4 [.int .i64 1,.int .i64 0,.int .i64 (-1),.int .i64 (-1)],.sl 4 [.int .i64 (-1),.int .i64 0,.int .i64 0,.int .i64 (-1)]] 0) false:=by
 have r1:=Jd (-1);have r2:=Jd 10000000000000000;refine rcK Tz.func79 ?_;simp only[Tryz.results79,Tryz.ntmps79]
 repeat' first|(with_reducible first|refine rG (id:=5) 2 Tz.func117 aj rfl af rfl ?_|refine Bu af ae rfl ?_|refine jB 40 ?_|apply jO|apply gw|apply PF|apply PG|apply bI|apply cg|apply bV|apply dg|apply bH|refine dD (id:=1) 12 mixed ai ?_|refine dD (id:=1) 7 mixed ai ?_|refine dD (id:=9) 27 mixed ai ?_|refine dD (id:=20) 16 mixed ai ?_|refine dD (id:=32) 13 mixed ai ?_|apply bP|refine And.intro ?_ ?_|refine cwM (r1) ?_|refine cwM (r2) ?_|intro _)|simp[*,gq,jg]
 all_goals try first|exact fR af|(simp[touch];done)
end Go.Proofs.YthpkmilhiganjaaGreat
namespace Go.Proofs.YthpkmilhiganjaaGreat
open Go Go.Fi
noncomputable instance zdf:bE:=LD
theorem PX:ceR mL=0:=aj
theorem uj:bX Tz.prog 69 [Tw.dR mL] (.tup [rd2,.int .i64 0]) false:=by
 have c:=qI mL;rw[xc mL PX] at c;exact c
theorem Hy:bX Tz.prog 70 [.sl 2 [.int .i64 0,.int .i64 0]] (.int .i64 0) true:=rC [0,0] af
theorem PY:bX Tz.prog 111 [rd2,.sl 2 [.int .i64 0,.int .i64 1]] (.tup [.int .i64 0,.int .i64 0]) true:=by
 have k:∀n:Int,(n=0\/n=1)->bX Tz.prog 91 [rd2,.int .i64 n] (.int .i64 0) true:=λn h=>by
  rcases h with rfl|rfl
  all_goals
   unfold rd2;refine rcK Tz.func91 ?_;simp only[Tryz.results91,Tryz.ntmps91]
   repeat' first|(with_reducible first|apply bI|apply bV|apply bH|refine And.intro ?_ ?_|refine cw (gL _ _ _) ?_|refine cw (fC _ _) ?_|intro _)|simp[*]|(refine bJ (gL _ _ _) ?_ ?_;· simp[*];done)|(refine bJ (fC _ _) ?_ ?_;· simp[*];done)
  all_goals first|exact fR af|decide
 have k0:=k 0 (.inl rfl);have k1:=k 1 (.inr rfl);have i0:bX Tz.prog 123 [.sl 0 [],.int .i64 0] (.bool false) true:=rD [] af 0;have i1:bX Tz.prog 123 [.sl 1 [.int .i64 0],.int .i64 1] (.bool false) true:=rD [0] af 1
 have u:∀e,bX Tz.prog 71 [.bool true,.int .i64 e] (.int .i64 0) true:=λe=>fC true e
 have f:=Hy;clear k;unfold rd2 at *;refine rcK Tz.func111 ?_;simp only[Tryz.results111,Tryz.ntmps111]
 repeat' first|(with_reducible first|refine jB 40 ?_|apply jO|apply gw|apply bI|apply cg|apply bV|apply dg|apply bH|refine dD (id:=10) 21 mixed ai ?_|apply bP|refine And.intro ?_ ?_|refine cw (u _) ?_|intro _)|simp[*]|(refine bJ (k0) ?_ ?_;· simp[*];done)|(refine bJ (k1) ?_ ?_;· simp[*];done)|(refine bJ (i0) ?_ ?_;· simp[*];done)|(refine bJ (i1) ?_ ?_;· simp[*];done)|(refine bJ (u _) ?_ ?_;· simp[*];done)|(refine bJ (f) ?_ ?_;· simp[*];done)
 all_goals first|exact fR af|(simp[touch];done)
theorem PZ:bX Tz.prog 23 [Tw.dR mL,.sl 2 [.int .i64 0,.int .i64 1]] (.tup [.int .i64 500,.int .i64 0]) true:=by
 have c1:=uj;have c2:=PY;have c3:=Hw.1
 have c4:bX Tz.prog 77 [Tw.dR mL,.sl 2 [.int .i64 0,.int .i64 1]] (.tup [rd2,.int .i64 0]) false:=by
  clear c3;rw[qo] at *;unfold rd2 at *;refine rcK Tz.func77 ?_;simp only[Tryz.results77,Tryz.ntmps77]
  repeat' first|(with_reducible first|apply bI|apply bV|apply bH|apply bP|refine And.intro ?_ ?_|intro _)|simp[*]|(refine bJ (c1) ?_ ?_;· simp[*];done)|(refine bJ (c2) ?_ ?_;· simp[*];done)
 clear c1 c2;rw[qo] at *;unfold rd2 at *;refine rcK Tz.func23 ?_;simp only[Tryz.results23,Tryz.ntmps23]
 repeat' first|(with_reducible first|apply bI|apply cg|apply bV|apply bH|apply bP|refine And.intro ?_ ?_|intro _)|simp[*]|(refine bJ (c3) ?_ ?_;· simp[*];done)|(refine bJ (c4) ?_ ?_;· simp[*];done)
noncomputable instance zdg:bE:=LD
theorem Je(v:Int):mf Tz.prog 81 [.sl 1 [.int .i64 v],.int .i64 (2:Nat)] [[.w false false (.int .i64 v),.w false false (.int .i64 v)]] (.msl 0 2 1 0 2):=by
 have c:=Hx 2 (.inl rfl);refine uh 0 [] Tz.func81 aj rfl (ij aj) ae (by intro c hc;simp only[sV] at hc;subst hc;rfl) ?_;simp only[Tryz.results81,Tryz.ntmps81]
 repeat' first|(with_reducible first|refine jB 40 ?_|apply jO|apply gw|apply bI|apply cg|apply bV|apply dg|apply bH|refine tX (id:=9) [0,1,2,3,4,5,6] [7,8,9] [[.slot 7],[],[],[],[],[],[]] [[.slot 7],[],[]] mixed ai ?_|apply bP|refine And.intro ?_ ?_|intro _)|simp[*]|(refine bJ (c) ?_ ?_;· simp[*];done)
 all_goals first|exact fR af|(simp[touch];done)
theorem xi:bX Tz.prog 73 [rd2,.int .i64 0,.sl 2 [.int .i64 100,.int .i64 0]] (.int .i64 200) true/\bX Tz.prog 73 [rd2,.int .i64 1,.sl 2 [.int .i64 100,.int .i64 0]] (.int .i64 250) true:=by
 have c1:=Hu;unfold rd2;constructor
 all_goals
  refine rcK Tz.func73 ?_;simp only[Tryz.results73,Tryz.ntmps73]
  repeat' first|(with_reducible first|refine jB 40 ?_|apply jO|apply gw|apply bI|apply cg|apply bV|apply dg|apply bH|refine dD (id:=6) 18 mixed ai ?_|apply bP|refine And.intro ?_ ?_|intro _)|simp[*,Tw.eH]|(refine bJ (c1) ?_ ?_;· simp[*];done)
 all_goals first|exact fR af|(simp[touch];done)
theorem P4:bX Tz.prog 25 [Tw.dR mL] (.tup [.agg [.sl 2 [.int .i64 1,.int .i64 0],.int .i64 350,.sl 2 [.int .i64 200,.int .i64 250],.sl 2 [.int .i64 100,.int .i64 0]],.int .i64 0]) false:=by
 have c1:=uj;have c2:=PU;have c3:=PW;have r1:=Je (-1);have c4:bX Tz.prog 78 [rd2,.sl 2 [.int .i64 1,.int .i64 0]] (.int .i64 350) true:=Hw.2;have c5:=xi.1;have c6:=xi.2;rw[qo] at *;unfold rd2 at *;simp only[ints,List.map] at c2;refine rcK Tz.func25 ?_;simp only[Tryz.results25,Tryz.ntmps25]
 repeat' first|(with_reducible first|refine jB 40 ?_|apply jO|apply gw|apply bI|apply cg|apply bV|apply dg|apply bH|refine dD (id:=5) 12 mixed ai ?_|refine dD (id:=14) 12 mixed ai ?_|refine dD (id:=19) 10 mixed ai ?_|apply bP|refine And.intro ?_ ?_|refine cwM (r1) ?_|intro _)|simp[*]|(refine bJ (c1) ?_ ?_;· simp[*];done)|(refine bJ (c2) ?_ ?_;· simp[*];done)|(refine bJ (c3) ?_ ?_;· simp[*];done)|(refine bJ (c4) ?_ ?_;· simp[*];done)|(refine bJ (c5) ?_ ?_;· simp[*];done)|(refine bJ (c6) ?_ ?_;· simp[*];done)
 all_goals first|exact fR af|(simp[touch];done)
theorem P5:bX Tz.prog 17 [Tw.dR mL,.agg [.sl 2 [.int .i64 200,.int .i64 250],.sl 2 [.int .i64 100,.int .i64 0]]] (.tup [.int .i64 350,.int .i64 0]) true:=by
 have c1:=uj;have c5:=xi.1;have c6:=xi.2
 have u:∀e,bX Tz.prog 71 [.bool true,.int .i64 e] (.int .i64 0) true:=λe=>fC true e
 have f:=Hy;rw[qo] at *;unfold rd2 at *;refine rcK Tz.func17 ?_;simp only[Tryz.results17,Tryz.ntmps17]
 repeat' first|(with_reducible first|refine jB 40 ?_|apply jO|apply gw|apply bI|apply cg|apply bV|apply dg|apply bH|apply bP|refine And.intro ?_ ?_|refine cw (u _) ?_|refine cw (gL _ _ _) ?_|intro _)|simp[*,cj]|(refine bJ (c1) ?_ ?_;· simp[*];done)|(refine bJ (c5) ?_ ?_;· simp[*];done)|(refine bJ (c6) ?_ ?_;· simp[*];done)|(refine bJ (u _) ?_ ?_;· simp[*];done)|(refine bJ (f) ?_ ?_;· simp[*];done)|(refine bJ (gL _ _ _) ?_ ?_;· simp[*];done)
 all_goals first|exact fR af|decide|(simp[touch];done)
noncomputable instance zdi:bE:=LD
@[simp]theorem Jf:fu Tz.prog 153=some [.w false false .undef]:=aj
def xP:List AV:=[.ptr 0 1 0,.ptr 1 1 0,.ptr 4 1 0,.ptr 5 1 0]
theorem P6:bX Tz.prog 83 [rd2,.int .i64 100000] (.tup [.sl 2 [.int .i64 1,.int .i64 0],.int .i64 2]) true/\bX Tz.prog 83 [rd2,.int .i64 0] (.tup [.sl 2 [.int .i64 (-1),.int .i64 (-1)],.int .i64 0]) true/\bX Tz.prog 83 [rd2,.int .i64 100] (.tup [.sl 2 [.int .i64 0,.int .i64 (-1)],.int .i64 1]) true/\bX Tz.prog 83 [rd2,.int .i64 150] (.tup [.sl 2 [.int .i64 0,.int .i64 (-1)],.int .i64 1]) true/\bX Tz.prog 83 [rd2,.int .i64 200] (.tup [.sl 2 [.int .i64 1,.int .i64 0],.int .i64 2]) true:=by
 have r1:=Je (-1);unfold rd2 at *;refine⟨?_,?_,?_,?_,?_⟩
 all_goals
  refine rcK Tz.func83 ?_;simp only[Tryz.results83,Tryz.ntmps83]
  repeat' first|((with_reducible refine Hh (id:=6) 12 119 mixed ai ai Tz.func119 aj rfl rfl ?_);simp[*,xP,Jf,gq,jg,pD,oneOf];refine Hg xP rfl (ij aj) ae rfl ?_)|(with_reducible first|refine Hh (id:=8) 9 119 mixed ai ai Tz.func119 aj rfl rfl ?_|refine Hg xP rfl (ij aj) ae rfl ?_|refine jB 40 ?_|apply jO|apply gw|apply bI|apply cg|apply bV|apply dg|apply bH|refine dD (id:=4) 23 mixed ai ?_|refine dD (id:=6) 14 mixed ai ?_|apply bP|refine And.intro ?_ ?_|refine cwM (r1) ?_|intro _)|simp[*,xP,Jf,gq,jg,pD,oneOf]
 all_goals first|exact fR af|(simp[touch];done)
noncomputable instance zdk:bE:=LD
theorem Jg(a b:Int):bX Tz.prog 161 [.int .i64 a,.int .i64 b] (.bool (decide (a<b))) true:=by
 have c:∀a,bX Tz.prog 179 [.int .i64 a] (.bool false) true:=λa=>by
  refine rcK Tz.func179 ?_;simp only[Tryz.results179,Tryz.ntmps179]
  repeat' first|(with_reducible first|apply bI|apply bV|apply bH|intro _)|simp[*]
 refine rcK Tz.func161 ?_;simp only[Tryz.results161,Tryz.ntmps161]
 repeat' first|(with_reducible first|apply bI|apply bV|apply bH|refine And.intro ?_ ?_|refine cw (c _) ?_|intro _)|simp[*]|(refine bJ (c _) ?_ ?_;· simp[*];done)
theorem Ql:bX Tz.prog 32 [Tw.dR mL] (.tup [.int .i64 200,.sl 2 [.int .i64 1,.int .i64 0],.int .i64 0]) false:=by
 have c1:=uj;obtain⟨m1,m2,m3,m4,m5⟩:=P6
 have c2:bX Tz.prog 121 [.int .u64 5] (.int .i64 3) true:=by
  have c:bX Tz.prog 165 [.int .u64 5] (.int .i64 3) true:=by
   refine rcK Tz.func165 ?_;simp only[Tryz.results165,Tryz.ntmps165]
   repeat' first|(with_reducible first|apply bI|apply cg|apply bV|apply bH|apply bP|refine And.intro ?_ ?_|intro _)|simp[*]
   all_goals first|exact fR af|decide
  refine rcK Tz.func121 ?_;simp only[Tryz.results121,Tryz.ntmps121]
  repeat' first|(with_reducible first|apply bI|apply cg|apply bV|apply bH|apply bP|refine And.intro ?_ ?_|intro _)|simp[*]|(refine bJ (c) ?_ ?_;· simp[*];done)
 have c4:=Hv [.int .i64 1,.int .i64 0];rw[qo] at *;unfold rd2 at *;refine Bl Tz.func32 aj rfl (ij aj) ?_;simp only[Tryz.results32,Tryz.ntmps32]
 repeat' first|((with_reducible refine HF (o:=false) (f:=false) ?_ ?_);(· rfl))|((with_reducible refine HG (o:=false) (f:=false) ?_ ?_);(· rfl))|(with_reducible first|apply Bi|apply Bj|refine HC 40 ?_|apply HD|refine GO (gf:=122) rfl Tz.func122 aj rfl (ij aj) (λl=>?_)|refine G7 (id:=3) 16 ?_ ?_|refine G6 rfl ae ?_|apply Ht|apply Bh|refine rG (id:=10) 1 Tz.func84 aj rfl af rfl ?_|refine rG (id:=12) 1 Tz.func85 aj rfl af rfl ?_|refine rG (id:=1) 5 Tz.func120 aj rfl af rfl ?_|refine rG (id:=4) 3 Tz.func155 aj rfl af rfl ?_|refine Bu (ij aj) ae rfl ?_|refine jB 40 ?_|apply jO|apply gw|apply bI|apply cg|apply bV|apply dg|apply bH|refine dD (id:=4) 15 mixed ai ?_|refine tX (id:=6) [0,1,2,3,4,5,6,7,8,9,10,11,12,13,14] [15,16,17] [[],[],[.slot 0],[.slot 0],[.slot 0],[],[],[],[],[],[],[],[],[],[]] [[.slot 0],[],[.slot 0]] mixed ai ?_|refine dD (id:=6) 10 mixed ai ?_|apply bP|refine And.intro ?_ ?_|refine cw (Jg _ _) ?_|intro _)|simp[*,gq,jg,pD,oneOf]|(refine bJ (c1) ?_ ?_;· simp[*];done)|(refine bJ (m1) ?_ ?_;· simp[*];done)|(refine bJ (m2) ?_ ?_;· simp[*];done)|(refine bJ (m3) ?_ ?_;· simp[*];done)|(refine bJ (m4) ?_ ?_;· simp[*];done)|(refine bJ (m5) ?_ ?_;· simp[*];done)|(refine bJ (c2) ?_ ?_;· simp[*];done)|(refine bJ (c4) ?_ ?_;· simp[*];done)|(refine bJ (Jg _ _) ?_ ?_;· simp[*];done)
 all_goals first|exact fR af|decide|(simp[touch];done)
noncomputable instance zdm:bE:=LD
theorem TB:lq Tz.prog 157=some (.int .i64,.int .i64 0):=aj
def pK:PV:=.agg [.sl 1 [.str ⟨#[97]⟩,.int .i64 4,.bool false],.sl 2 [.str ⟨#[112]⟩,.int .i64 1,.bool false,.int .i64 0,.str ⟨#[113]⟩,.int .i64 1,.bool false,.int .i64 0],.sl 2 [.sl 1 [.int .i64 100],.sl 1 [.int .i64 150]],.sl 0 []]
theorem Qm:bX Tz.prog 42 [Tw.dR mL,.int .i64 1] (.tup [pK,.int .i64 0]) false:=by
 have c1:=uj
 have c2:bX Tz.prog 91 [rd2,.int .i64 1] (.int .i64 0) true:=by
  have u:∀e,bX Tz.prog 71 [.bool true,.int .i64 e] (.int .i64 0) true:=λe=>fC true e
  unfold rd2;refine rcK Tz.func91 ?_;simp only[Tryz.results91,Tryz.ntmps91]
  repeat' first|(with_reducible first|apply bI|apply bV|apply bH|refine And.intro ?_ ?_|refine cw (gL _ _ _) ?_|refine cw (u _) ?_|intro _)|simp[*,cj]|(refine bJ (gL _ _ _) ?_ ?_;· simp[*];done)|(refine bJ (u _) ?_ ?_;· simp[*];done)
  all_goals first|exact fR af|decide
 have k0:∀k:Int,bX Tz.prog 123 [.sl 0 [],.int .i64 k] (.bool false) true:=λk=>rD [] af k
 have k1:bX Tz.prog 123 [.sl 1 [.int .i64 1],.int .i64 0] (.bool false) true:=rD [1] af 0;have k2:bX Tz.prog 123 [.sl 1 [.int .i64 1],.int .i64 1] (.bool true) true:=rD [1] af 1
 have c3:bX Tz.prog 87 [rd2,.sl 0 [],.sl 1 [.int .i64 1]] pK true:=by
  have mt:=TB;clear c1 c2;unfold rd2 pK;refine rcK Tz.func87 ?_;simp only[Tryz.results87,Tryz.ntmps87]
  repeat' first|(with_reducible first|refine jB 40 ?_|apply jO|apply gw|apply bI|apply cg|apply bV|apply dg|apply bH|apply bP|refine And.intro ?_ ?_|refine cw (k0 _) ?_|intro _)|simp[*,lkV,lkR,sA,yL,okM,okK,isLit,ll,iO,eqK,xN,Tw.fA,Tw.eH,mt]|(refine bJ (k0 _) ?_ ?_;· simp[*];done)|(refine bJ (k1) ?_ ?_;· simp[*];done)|(refine bJ (k2) ?_ ?_;· simp[*];done)
  all_goals first|exact fR af|decide|(simp[touch];done)
 rw[qo] at *;unfold rd2 pK at *;clear k0 k1 k2;refine rcK Tz.func42 ?_;simp only[Tryz.results42,Tryz.ntmps42]
 repeat' first|(with_reducible first|apply bI|apply cg|apply bV|apply bH|apply bP|refine And.intro ?_ ?_|intro _)|simp[*]|(refine bJ (c1) ?_ ?_;· simp[*];done)|(refine bJ (c2) ?_ ?_;· simp[*];done)|(refine bJ (c3) ?_ ?_;· simp[*];done)
 all_goals first|exact fR af|decide|(simp[touch];done)
noncomputable instance zdo:bE:=LD
def rdL:PV:=.ip [.sl 1 [.str ⟨#[97]⟩,.int .i64 4,.bool false],.sl 2 [.str ⟨#[112]⟩,.int .i64 1,.bool false,.int .i64 0,.str ⟨#[113]⟩,.int .i64 1,.bool false,.int .i64 0],.sl 2 [.sl 1 [.int .i64 100],.sl 1 [.int .i64 150]],.sl 0 [],.sl 2 [.sl 1 [.bool true],.sl 1 [.bool true]]] 0
theorem Qn:bX Tz.prog 95 [rdL,.sl 0 []] (.sl 0 []) true/\bX Tz.prog 95 [rdL,.sl 1 [.int .i64 0]] (.sl 1 [.int .i64 0]) true/\bX Tz.prog 95 [rdL,.sl 1 [.int .i64 1]] (.sl 1 [.int .i64 0]) true/\bX Tz.prog 95 [rdL,.sl 2 [.int .i64 0,.int .i64 1]] (.sl 1 [.int .i64 0]) true:=by
 have f:∀i:Int,(i=0\/i=1)->bX Tz.prog 125 [.int .i64 i,.ip [rdL] 0,.ip [.int .i64 0] 0] (.bool true) true:=λi h=>by
  unfold rdL
  rcases h with rfl|rfl
  all_goals
   refine rcK Tz.func125 ?_;simp only[Tryz.results125,Tryz.ntmps125]
   repeat' first|(with_reducible first|apply bI|apply bV|apply bH|refine dD (id:=1) 11 mixed ai ?_|intro _)|simp[*]
 have f0:=f 0 (.inl rfl);have f1:=f 1 (.inr rfl);clear f;unfold rdL at *
 have a:∀l:List PV,(l=[]\/l=[.int .i64 0]\/l=[.int .i64 1]\/l=[.int .i64 0,.int .i64 1])->bX Tz.prog 93 [.sl l.length l,.fn 125 [.ip [.ip [.sl 1 [.str ⟨#[97]⟩,.int .i64 4,.bool false],.sl 2 [.str ⟨#[112]⟩,.int .i64 1,.bool false,.int .i64 0,.str ⟨#[113]⟩,.int .i64 1,.bool false,.int .i64 0],.sl 2 [.sl 1 [.int .i64 100],.sl 1 [.int .i64 150]],.sl 0 [],.sl 2 [.sl 1 [.bool true],.sl 1 [.bool true]]] 0] 0,.ip [.int .i64 0] 0]] (.bool (decide (0<l.length))) true:=λl h=>by
  have b:bX Tz.prog 124 [.sl l.length l,.fn 125 [.ip [.ip [.sl 1 [.str ⟨#[97]⟩,.int .i64 4,.bool false],.sl 2 [.str ⟨#[112]⟩,.int .i64 1,.bool false,.int .i64 0,.str ⟨#[113]⟩,.int .i64 1,.bool false,.int .i64 0],.sl 2 [.sl 1 [.int .i64 100],.sl 1 [.int .i64 150]],.sl 0 [],.sl 2 [.sl 1 [.bool true],.sl 1 [.bool true]]] 0] 0,.ip [.int .i64 0] 0]] (.int .i64 (if 0<l.length then 0 else -1)) true:=by
   rcases h with rfl|rfl|rfl|rfl
   all_goals
    simp only[fS,kE,dJ,Nat.reduceAdd,Dj,decide_false,Nat.zero_lt_succ,decide_true,cz,cP];refine rcK Tz.func124 ?_;simp only[Tryz.results124,Tryz.ntmps124]
    repeat' first|(with_reducible first|refine jB 40 ?_|apply jO|apply gw|apply bI|apply cg|apply bV|apply dg|apply bH|apply bP|refine And.intro ?_ ?_|intro _)|simp[*]|(refine bJ (f0) ?_ ?_;· simp[*];done)|(refine bJ (f1) ?_ ?_;· simp[*];done)
   all_goals first|exact fR af|(simp[touch];done)
  rcases h with rfl|rfl|rfl|rfl
  all_goals
   simp only[fS,kE,dJ,Nat.reduceAdd,Dj,decide_false,Nat.zero_lt_succ,decide_true,cz,cP] at b ⊢;clear f0 f1;refine rcK Tz.func93 ?_;simp only[Tryz.results93,Tryz.ntmps93]
   repeat' first|(with_reducible first|apply bI|apply bV|apply bH|refine And.intro ?_ ?_|intro _)|simp[*]|(refine bJ (b) ?_ ?_;· simp[*];done)
 have a0:=a _ (.inl rfl);have a1:=a _ (.inr (.inl rfl));have a2:=a _ (.inr (.inr (.inl rfl)));have a3:=a _ (.inr (.inr (.inr rfl)));clear a f0 f1;refine⟨?_,?_,?_,?_⟩
 all_goals
  refine rcK Tz.func95 ?_;simp only[Tryz.results95,Tryz.ntmps95]
  repeat' first|(with_reducible first|refine jB 40 ?_|apply jO|apply gw|apply bI|apply cg|apply bV|apply dg|apply bH|apply bP|refine And.intro ?_ ?_|intro _)|simp[*]|(refine bJ (a0) ?_ ?_;· simp[*];done)|(refine bJ (a1) ?_ ?_;· simp[*];done)|(refine bJ (a2) ?_ ?_;· simp[*];done)|(refine bJ (a3) ?_ ?_;· simp[*];done)
 all_goals first|exact fR af|(simp[touch];done)
noncomputable instance zdq:bE:=LD
def CP:Tw.RND where
 bD:=[(⟨#[97]⟩,4,false)]
 os:=[(⟨#[112]⟩,1,false,0),(⟨#[113]⟩,1,false,0)]
 wt:=[[100],[150]]
 zs:=[]
 fj:=by
  refine⟨?_,?_,?_,af,af,af,af⟩
  .intro c hc;simp only[dU,mQ,or_false] at hc
   rcases hc with rfl|rfl<;>decide
  .intro c hc;simp only[dU,mQ,or_false] at hc
   rcases hc with rfl|rfl<;>decide
  .intro c hc;simp only[dU,mQ,or_false] at hc
   rcases hc with rfl|rfl<;>decide
theorem Qo:ceR CP=0:=aj
theorem Qp:bX Tz.prog 69 [pK] (.tup [rdL,.int .i64 0]) false:=by
 have c:=qI CP;rw[xc CP Qo] at c;exact c
@[simp]theorem zdr:fu Tz.prog 160=some [.w false false .undef]:=aj
theorem Qq:bX Tz.prog 50 [pK] (.tup [.sl 2 [.int .i64 0,.int .i64 1],.int .i64 0]) false:=by
 have c1:=Qp;obtain⟨a0,a1,a2,a3⟩:=Qn
 have c2:∀s:Int,bX Tz.prog 96 [.int .i64 2,.int .i64 s] (.fn 126 [.ip [.int .i64 s] 0,.ip [.int .i64 2] 0]) true:=λs=>by
  refine rcK Tz.func96 ?_;simp only[Tryz.results96,Tryz.ntmps96]
  repeat' first|(with_reducible first|apply bI|apply bV|apply bH|intro _)|simp[*]
 have c3:bX Tz.prog 97 [.sl 2 [.int .i64 0,.int .i64 1]] (.sl 2 [.int .i64 0,.int .i64 1]) true:=Pd [0,1] af;unfold rdL pK at *;refine Bl Tz.func50 aj rfl (ij aj) ?_;simp only[Tryz.results50,Tryz.ntmps50]
 repeat' first|((with_reducible refine HF (o:=false) (f:=false) ?_ ?_);(· rfl))|((with_reducible refine HG (o:=false) (f:=false) ?_ ?_);(· rfl))|((with_reducible refine Qj (o:=false) (f:=false) ?_ ?_);(· rfl))|((with_reducible refine Qk (o:=false) (f:=false) ?_ ?_);(· rfl))|(with_reducible first|apply Bi|apply Bj|refine HC 40 ?_|apply HD|refine GN (gf:=126) rfl Tz.func126 aj rfl (ij aj) (λl=>?_)|apply P7|apply P8|refine Qh 40 ?_|apply Qi|refine Qd (id:=3) 1 127 Tz.func127 aj rfl af rfl ?_|refine Qf (id:=6) 12 127 mixed ai ai Tz.func127 aj rfl rfl ?_|refine Qc _ rfl (ij aj) ae rfl ?_|refine Qb (id:=2) 2 af rfl rfl ae ?_|refine Qa _ _ rfl rfl ae ?_|apply PS|apply PT|apply Bh|apply GM|apply gw|apply bI|apply cg|apply bV|apply dg|apply bH|refine dD (id:=7) 8 mixed ai ?_|refine dD (id:=9) 6 mixed ai ?_|apply bP|refine And.intro ?_ ?_|refine cw (c2 _) ?_|intro _)|simp[*,gq,jg,pD,oneOf]|(refine bJ (c1) ?_ ?_;· simp[*];done)|(refine bJ (a0) ?_ ?_;· simp[*];done)|(refine bJ (a1) ?_ ?_;· simp[*];done)|(refine bJ (a2) ?_ ?_;· simp[*];done)|(refine bJ (a3) ?_ ?_;· simp[*];done)|(refine bJ (c2 _) ?_ ?_;· simp[*];done)|(refine bJ (c3) ?_ ?_;· simp[*];done)
 all_goals first|exact fR af|decide|(simp[touch];done)
noncomputable instance zdt:bE:=LD
theorem Qr:bX Tz.prog 15 [] (.bool true) true:=by
 have c9:=Tq;have c8:=PZ;have c10:=P4;have c11:=P5;have c12:=Ql;have c13:=Qm;have c14:=Qq;have c15:bX Tz.prog 52 [.sl 2 [.int .i64 0,.int .i64 1],.sl 2 [.int .i64 0,.int .i64 1]] (.bool true) true:=G0 [0,1] [0,1] af;rw[qo] at *;unfold pK at *;refine rcK Tz.func15 ?_;simp only[Tryz.results15,Tryz.ntmps15]
 repeat' first|(with_reducible first|apply bI|apply bV|apply bH|refine And.intro ?_ ?_|intro _)|simp[*]|(refine bJ (c9) ?_ ?_;· simp[*];done)|(refine bJ (c8) ?_ ?_;· simp[*];done)|(refine bJ (c10) ?_ ?_;· simp[*];done)|(refine bJ (c11) ?_ ?_;· simp[*];done)|(refine bJ (c12) ?_ ?_;· simp[*];done)|(refine bJ (c13) ?_ ?_;· simp[*];done)|(refine bJ (c14) ?_ ?_;· simp[*];done)|(refine bJ (c15) ?_ ?_;· simp[*];done)
end Go.Proofs.YthpkmilhiganjaaGreat
namespace Go.Proofs.YthpkmilhiganjaaGreat
open Go Go.Fi
variable[bE]
def iH{α:Type}(p:α->Bool)(l:List α)(k:Nat):Bool:=(l.drop k).all p
theorem Bw{α:Type}[Inhabited α]{p:α->Bool}{l:List α}{k:Nat}(h:k<l.length):iH p l k=(p (nth l k)&&iH p l (k+1)):=by
 unfold iH;rw[gb l k h];rfl
theorem Bx{α:Type}(p:α->Bool)(l:List α):iH p l l.length=true:=by
 unfold iH;rw[kI];rfl
def Jh(c o w z:Nat):Bool:=decide (¬(((4<c/\c<=8)\/10<c)\/((4<o/\o<=8)\/10<o)\/12<w\/66<z))
def sE(bD:List Car)(os:List Ord)(wt:List (List Int))(zs:List Par):Bool:=
 Jh bD.length os.length wt.length zs.length&&(bD.all (λx:Car=>decide (x.1.size<=20))&&(os.all (λx:Ord=>decide (x.1.size<=20))&&wt.all (λw:List Int=>decide (w.length<=10))))
theorem TC(bD:List Car)(os:List Ord)(wt:List (List Int))(zs:List Par):bX Tz.prog 16 [.agg [.sl bD.length (di bD),.sl os.length (dh os),.sl wt.length (dH wt),.sl zs.length (dc zs)]] (.bool (sE bD os wt zs)) true:=by
 unfold sE;have hA0:bD.all (λx:Car=>decide (x.1.size<=20))=iH (λx:Car=>decide (x.1.size<=20)) bD 0:=rfl;have hA2:os.all (λx:Ord=>decide (x.1.size<=20))=iH (λx:Ord=>decide (x.1.size<=20)) os 0:=rfl;have hA4:wt.all (λw:List Int=>decide (w.length<=10))=iH (λw:List Int=>decide (w.length<=10)) wt 0:=rfl;rw[hA0,hA2,hA4];clear hA0 hA2 hA4;generalize hA0:iH (λx:Car=>decide (x.1.size<=20)) bD 0=A0;generalize hA2:iH (λx:Ord=>decide (x.1.size<=20)) os 0=A2;generalize hA4:iH (λw:List Int=>decide (w.length<=10)) wt 0=A4;have kA0:=keep hA0;have kA2:=keep hA2;have kA4:=keep hA4;clear hA0 hA2 hA4
 cases hS:Jh bD.length os.length wt.length zs.length with
 |false=>
  have hS:=of_decide_eq_false hS;have kS:=keep hS;clear hS;simp only[jb];refine rcK Tz.func16 ?_;simp only[Tryz.results16,Tryz.ntmps16]
  repeat' first|(with_reducible first|apply bI|apply cg|apply bV|apply bH|apply bP|refine Oj ?_ ?_|refine Oi ?_ ?_|refine j0 ?_ ?_|intro _)|simp[*]
  all_goals (exfalso;have hS:=kS;unfold dp at hS;omega)
 |true=>
  have hS:=of_decide_eq_true hS
  have l1:bD.length<=10:=ab
  have l2:os.length<=10:=ab
  have l3:wt.length<=12:=ab
  have kS:=keep hS;clear hS;simp only[fY]
  have w5:¬(66:Int)<zs.length:=by have hS:=kS;unfold dp at hS;omega
  have w6:¬(12:Int)<wt.length:=ab
  have w7:¬(10:Int)<bD.length:=ab
  have w8:¬(10:Int)<os.length:=ab
  have key:((¬(4:Int)<bD.length)\/((4:Int)<bD.length/\¬(bD.length:Int)<=8)):=by have hS:=kS;unfold dp at hS;omega
  have key2:((¬(4:Int)<os.length)\/((4:Int)<os.length/\¬(os.length:Int)<=8)):=by have hS:=kS;unfold dp at hS;omega
  clear kS hS
  rcases key with g1|⟨g1,g2⟩<;>rcases key2 with g3|⟨g3,g4⟩
  all_goals
   refine rcK Tz.func16 ?_;simp only[Tryz.results16,Tryz.ntmps16]
   repeat' first|(with_reducible first|apply bI|apply cg|apply bH|apply bP|intro _)|simp[*]
   have kk:=keep (And.intro w5 (And.intro w6 (And.intro w7 w8)));clear w5 w6 w7 w8;refine fH (λ(k:Nat)=>k<=bD.length/\iH (λx:Car=>decide (x.1.size<=20)) bD k=A0) [1] (λ(k:Nat)=>[(3,.w false false (.int .i64 k))]) [0] (λ(k:Nat)=>[]) (λ(k:Nat)=>bD.length-k) (λ(_u:Unit)=>A0=true) [1] (λ(_u:Unit)=>[]) [0] (λ(_u:Unit)=>[]) (0) ⟨cG _,kA0⟩ ae ae (λk hk=>?_) (λ_u hf=>?_)
   .obtain⟨hk,hj⟩:=hk;by_cases h8:k<bD.length
    .rw[Bw h8] at hj;by_cases hr:20<((nth bD k).1.size:Int)
     .have hA:A0=false:=by rw[<-hj];simp;omega
      clear hj kA0;subst hA
      repeat' first|(with_reducible first|apply bI|apply dk|apply cg|apply bV|apply bH|apply bP|intro _)|simp[*,h8,hr]
      all_goals first|exact db ab ab|omega|(simp;done)
     .have kj:dp (iH (λx:Car=>decide (x.1.size<=20)) bD (k+1)=A0):=keep (by rw[<-hj,decide_eq_true (show (nth bD k).1.size<=20 by omega),fY]);clear hj
      repeat' first|(with_reducible first|apply bI|apply dk|apply cg|apply bH|apply bP|refine And.intro ?_ ?_|intro _)|simp[*,h8,hr]
      all_goals first
       |exact db ab ab
       |omega
       |(refine nx (k+1) ?_ ?_;(· exact⟨ab,kj⟩);(refine cY ?_ ?_<;>first|trivial|(simp[*];done)))
    .have h9:k=bD.length:=ab
     subst h9;rw[Bx] at hj;have kj:=keep hj.symm;clear hj kA0
     repeat' first|(with_reducible first|apply bI|apply dg|apply bH|apply bP|intro _)|simp[*]
     all_goals (refine dQ () ?_ ?_;(· exact kj);(refine cY ?_ ?_<;>first|trivial|(simp[*];done)))
   .subst hf;clear kA0;simp only[fY]
    repeat' first|(with_reducible first|apply bI|apply bH|intro _)|simp[*]
    refine fH (λ(k:Nat)=>k<=os.length/\iH (λx:Ord=>decide (x.1.size<=20)) os k=A2) [1] (λ(k:Nat)=>[(4,.w false false (.int .i64 k))]) [0] (λ(k:Nat)=>[]) (λ(k:Nat)=>os.length-k) (λ(_u:Unit)=>A2=true) [1] (λ(_u:Unit)=>[]) [0] (λ(_u:Unit)=>[]) (0) ⟨cG _,kA2⟩ ae ae (λk hk=>?_) (λ_u hf=>?_)
    .obtain⟨hk,hj⟩:=hk;by_cases h8:k<os.length
     .rw[Bw h8] at hj;by_cases hr:20<((nth os k).1.size:Int)
      .have hA:A2=false:=by rw[<-hj];simp;omega
       clear hj kA2;subst hA
       repeat' first|(with_reducible first|apply bI|apply dk|apply cg|apply bV|apply bH|apply bP|intro _)|simp[*,h8,hr]
       all_goals first|exact db ab ab|omega|(simp;done)
      .have kj:dp (iH (λx:Ord=>decide (x.1.size<=20)) os (k+1)=A2):=keep (by rw[<-hj,decide_eq_true (show (nth os k).1.size<=20 by omega),fY]);clear hj
       repeat' first|(with_reducible first|apply bI|apply dk|apply cg|apply bH|apply bP|refine And.intro ?_ ?_|intro _)|simp[*,h8,hr]
       all_goals first
        |exact db ab ab
        |omega
        |(refine nx (k+1) ?_ ?_;(· exact⟨ab,kj⟩);(refine cY ?_ ?_<;>first|trivial|(simp[*];done)))
     .have h9:k=os.length:=ab
      subst h9;rw[Bx] at hj;have kj:=keep hj.symm;clear hj kA2
      repeat' first|(with_reducible first|apply bI|apply dg|apply bH|apply bP|intro _)|simp[*]
      all_goals (refine dQ () ?_ ?_;(· exact kj);(refine cY ?_ ?_<;>first|trivial|(simp[*];done)))
    .subst hf;clear kA2;simp only[fY]
     repeat' first|(with_reducible first|apply bI|apply bH|intro _)|simp[*]
     refine fH (λ(k:Nat)=>k<=wt.length/\iH (λw:List Int=>decide (w.length<=10)) wt k=A4) [1] (λ(k:Nat)=>[(5,.w false false (.int .i64 k))]) [0] (λ(k:Nat)=>[]) (λ(k:Nat)=>wt.length-k) (λ(_u:Unit)=>A4=true) [] (λ(_u:Unit)=>[]) [0] (λ(_u:Unit)=>[]) (0) ⟨cG _,kA4⟩ ae ae (λk hk=>?_) (λ_u hf=>?_)
     .obtain⟨hk,hj⟩:=hk;by_cases h8:k<wt.length
      .rw[Bw h8] at hj;by_cases hr:10<((nth wt k).length:Int)
       .have hA:A4=false:=by rw[<-hj];simp;omega
        clear hj kA4;subst hA
        repeat' first|(with_reducible first|apply bI|apply dk|apply cg|apply bV|apply bH|apply bP|intro _)|simp[*,h8,hr]
        all_goals first|exact db ab ab|omega|(simp;done)
       .have kj:dp (iH (λw:List Int=>decide (w.length<=10)) wt (k+1)=A4):=keep (by rw[<-hj,decide_eq_true (show (nth wt k).length<=10 by omega),fY]);clear hj
        repeat' first|(with_reducible first|apply bI|apply dk|apply cg|apply bH|apply bP|refine And.intro ?_ ?_|intro _)|simp[*,h8,hr]
        all_goals first
         |exact db ab ab
         |omega
         |(refine nx (k+1) ?_ ?_;(· exact⟨ab,kj⟩);(refine cY ?_ ?_<;>first|trivial|(simp[*];done)))
      .have h9:k=wt.length:=ab
       subst h9;rw[Bx] at hj;have kj:=keep hj.symm;clear hj kA4
       repeat' first|(with_reducible first|apply bI|apply dg|apply bH|apply bP|intro _)|simp[*]
       all_goals (refine dQ () ?_ ?_;(· exact kj);(refine cY ?_ ?_<;>first|trivial|(simp[*];done)))
     .subst hf
      repeat' first|(with_reducible first|apply bI|apply bV|apply bH|intro _)|simp[*]
theorem HH{bD:List Car}{os:List Ord}{wt:List (List Int)}{zs:List Par}(h:sE bD os wt zs=true):(bD.length<=10/\(8<bD.length\/bD.length<=4))/\(os.length<=10/\(8<os.length\/os.length<=4))/\wt.length<=12/\zs.length<=66/\(∀c∈bD,c.1.size<=20)/\(∀o∈os,o.1.size<=20)/\∀w∈wt,w.length<=10:=by
 unfold sE at h;simp only[fe,gm,decide_eq_true_eq] at h;obtain⟨h1,h2,h3,h4⟩:=h;have h1:=of_decide_eq_true h1;exact⟨⟨ab,ab⟩,⟨ab,ab⟩,ab,ab,h2,h3,h4⟩
def Ji(bD:List Car)(os:List Ord)(wt:List (List Int))(zs:List Par)(h:sE bD os wt zs=true):Tw.RND:=⟨bD,os,wt,zs,by
 obtain⟨⟨h1,_⟩,⟨h2,_⟩,h3,h4,h5,h6,h7⟩:=HH h
 exact⟨λc hc=>by have:=h5 c hc;omega,λc hc=>by have:=h6 c hc;omega,λc hc=>by have:=h7 c hc;omega,ab,ab,ab,ab⟩⟩
end Go.Proofs.YthpkmilhiganjaaGreat
