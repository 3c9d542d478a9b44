/- Lemmas. -/
import Derived.Test.YthpkmilhiganjaaGreatPEa
import Derived.Test.YthpkmilhiganjaaGreatPDb
import Derived.Test.YthpkmilhiganjaaGreatPDc
set_option linter.unusedSimpArgs false
set_option linter.unusedVariables false
set_option linter.unusedSectionVars false
set_option maxHeartbeats 32000000
set_option maxRecDepth 100000
namespace Go.Proofs.YthpkmilhiganjaaGreat
open Go Go.Fi
variable[ar]
theorem eO(l:List Int)(hl:l.length<100000)(g:FuncId)(aE:List PV)(p:Int→Bool)(h:∀k,k<l.length→aA Tz.prog g (.int .i64 (nth l k)::aE) (.bool (p (nth l k))) true):aA Tz.prog 124 [.sl l.length (ints l),.fn g aE] (.int .i64 (idxOf p l)) true:=by
 generalize hR:idxOf p l=R;have kR:aI (dJ p l 0=R):=keep hR;clear hR;refine rcK Tz.func124 ?_;simp only[Tryz.results124,Tryz.ntmps124]
 repeat' (first|(with_reducible first|refine af ?_|refine ae ?_|intro _)|(simp[*]))
 refine bF (fun(k:Nat)=>k≤l.length∧dJ p (l.drop k) k=R) [0,1,7] (fun(k:Nat)=>[(8,.w false false (.int .i64 k))]) [] (fun(k:Nat)=>[]) (fun(k:Nat)=>l.length-k) (fun(_u:Unit)=>R=-1) [] (fun(_u:Unit)=>[]) [] (fun(_u:Unit)=>[]) (0) ⟨Nat.zero_le _,kR⟩ (by simp) (by simp) (fun k hk=>?_) (fun _u hf=>?_)
 ·obtain⟨hk,hj⟩:=hk;by_cases hlt:k<l.length
  ·have c1:=h k hlt;have hj':=hj;rw[b8 l k hlt] at hj';unfold dJ at hj';have kj:=keep hj';clear hj hj' h
   repeat' (first|(with_reducible first|refine af ?_|refine aD ?_|refine av ?_|refine az ?_|refine ae ?_|refine ak ?_|refine And.intro ?_ ?_|refine lI ?_ ?_|refine cw (c1) ?_|intro _)|(simp[*,hlt])|(refine ai (c1) ?_ ?_;(· (simp[*];done))))
   all_goals first
    |exact aF (by omega) (by omega)
    |omega
    |(rename_i hp;rw[if_pos hp] at kj;exact kj)
    |(rename_i hp;rw[if_neg (by rw[hp];decide)] at kj;(refine nx (k+1) ?_ ?_;(· exact⟨by omega,kj⟩);(refine aB ?_ ?_<;>first|trivial|(simp[*];done))))
    |skip
  ·have hke:k=l.length:=by omega
   subst hke
   repeat' (first|(with_reducible first|refine af ?_|refine aJ ?_|refine ae ?_|refine ak ?_|intro _)|(simp[*]))
   all_goals (refine aT () ?_ ?_;(· rw[←hj,List.drop_length];rfl);(refine aB ?_ ?_<;>first|trivial|(simp[*];done)))
 ·subst hf
  repeat' (first|(with_reducible first|refine af ?_|refine az ?_|refine ae ?_|intro _)|(simp[*]))
theorem eP(l:List Int)(hl:l.length<100000)(g:FuncId)(aE:List PV)(p:Int→Bool)(h:∀k,k<l.length→aA Tz.prog g (.int .i64 (nth l k)::aE) (.bool (p (nth l k))) true):aA Tz.prog 93 [.sl l.length (ints l),.fn g aE] (.bool (l.any p)) true:=by
 have c1:=eO l hl g aE p h;have h:=oB p l;generalize idxOf p l=i at *;rw[←h];clear h;refine rcK Tz.func93 ?_;simp only[Tryz.results93,Tryz.ntmps93]
 repeat' (first|(with_reducible first|refine af ?_|refine az ?_|refine ae ?_|refine And.intro ?_ ?_|refine cw (c1) ?_|intro _)|(simp[*])|(refine ai (c1) ?_ ?_;(· (simp[*];done))))
theorem eR(x:Rd)(ok:b9 x)(i k:Nat)(hi:i<x.os.length)(hk:k<x.ab.length):aA Tz.prog 125 [.int .i64 i,.ip [x.pv] 0,.ip [.int .i64 k] 0] (.bool (nth (nth x.fit i) k)) true:=by
 have hif:i<x.fit.length:=by have:=ok.lf;omega
 have hkf:k<(nth x.fit i).length:=by have:=ok.fr i hi;omega
 clear ok hk hi;unfold Rd.pv;refine rcK Tz.func125 ?_;simp only[Tryz.results125,Tryz.ntmps125]
 repeat' (first|(with_reducible first|refine af ?_|refine az ?_|refine ae ?_|refine aK (id:=1) 11 mixed (by decide +kernel) ?_|intro _)|(simp[*,hif,hkf]))
def bC(x:Rd)(os:List Int)(k:Nat):Bool:=os.any fun i=>nth (nth x.fit i.toNat) k
def bl(x:Rd)(os:List Int)(n:Nat):List Int:=((List.range n).filter (bC x os)).map fun k=>((k:Nat):Int)
def bK(x:Rd)(os:List Int):List Int:=bl x os x.ab.length
theorem eW(x:Rd)(os:List Int)(n:Nat):bl x os (n+1)=if bC x os n then bl x os n++[(n:Int)] else bl x os n:=by
 unfold bl;rw[List.range_succ,List.filter_append,List.map_append]
 cases h:bC x os n<;>simp[h]
theorem fb(x:Rd)(os:List Int)(n:Nat):(bl x os n).length≤n:=by
 unfold bl;rw[List.length_map];exact Nat.le_trans (List.length_filter_le _ _) (by simp)
theorem fh(x:Rd)(ok:b9 x)(os:List Int)(hl:os.length<100000)(ho:∀i,i<os.length→0≤nth os i∧nth os i<(x.os.length:Int)):aA Tz.prog 95 [x.pv,.sl os.length (ints os)] (.sl (bK x os).length (ints (bK x os))) true:=by
 have c1:∀k,k<x.ab.length→aA Tz.prog 93 [.sl os.length (ints os),.fn 125 [.ip [x.pv] 0,.ip [.int .i64 k] 0]] (.bool (bC x os k)) true:=fun k hk=>
  eP os hl 125 _ (fun i=>nth (nth x.fit i.toNat) k) (fun j hj=>by
   have:=ho j hj;have c:=eR x ok (nth os j).toNat k (by omega) hk;rw[show (((nth os j).toNat:Nat):Int)=nth os j by omega] at c
   exact c)
 have hlc:=ok.lc;have eS:bK x os=bl x os x.ab.length:=rfl;have e0:bl x os 0=[]:=rfl;have eK:=eW x os;have hK:=fb x os;rw[eS];generalize bl x os=K at *;generalize bC x os=F at *;have kk:=keep (And.intro c1 (And.intro hlc (And.intro eK hK)))
 have e1:(K 0).length=0:=by rw[e0];rfl
 have e2:iA (K 0)=[]:=by rw[e0];rfl
 clear c1 hlc eK hK eS e0 ok ho;unfold Rd.pv;refine rcK Tz.func95 ?_;simp only[Tryz.results95,Tryz.ntmps95]
 repeat' (first|(with_reducible first|refine af ?_|refine ae ?_|intro _)|(simp[*]))
 refine cC 2 (fun(k:Nat)=>k≤x.ab.length) [1,2,12] (fun(k:Nat)=>[(5,.msl 1 (K k).length 1 0 (K k).length),(13,.w false false (.int .i64 k))]) [0] (fun(k:Nat)=>[(1,iA (K k))]) (fun(k:Nat)=>x.ab.length-k) (fun(_u:Unit)=>True) [] (fun(_u:Unit)=>[(5,.msl 1 (K x.ab.length).length 1 0 (K x.ab.length).length)]) [] (fun(_u:Unit)=>[(1,iA (K x.ab.length))]) (0) (Nat.zero_le _) (aO [] (by simp[e1,e2]) (by simp[e1,e2])) (fun k hk=>?_) (fun _u hf=>?_)
 ·clear e1 e2;by_cases hlt:k<x.ab.length
  ·obtain⟨c1,hlc,eK,hK⟩:=kk;have c:=c1 k hlt;have e:=eK k;have hi1:inI .i64 ((k:Int)+1):=aF (by omega) (by omega)
   have hz:k+1≤x.ab.length:=by omega
   have hb:=hK k
   have hb9:(K k).length+1≤1000000000:=by omega
   unfold Rd.pv at c;clear c1 hlc eK hK
   cases hf:F k with
   |true=>
    rw[hf] at c e;rw[if_pos rfl] at e
    have e3:iA (K (k+1))=iA (K k)++[.w false false (.int .i64 k)]:=by rw[e,←cr];rfl
    have e4:(K (k+1)).length=(K k).length+1:=by rw[e];simp
    clear e hf
    repeat' (first|(with_reducible first|refine af ?_|refine aD ?_|refine av ?_|refine ae ?_|refine ak ?_|refine And.intro ?_ ?_|refine cw (c) ?_|intro _)|(simp[*,hlt,hi1])|(refine ai (c) ?_ ?_;(· (simp[*];done))))
    all_goals first
     |omega
     |assumption
     |(refine nx (k+1) ?_ ?_;(· exact hz);(refine aO [] ?_ ?_<;>first|trivial|(simp[*,e3,e4];done)))
   |false=>
    rw[hf] at c e;rw[if_neg (by decide)] at e;clear hf
    repeat' (first|(with_reducible first|refine af ?_|refine aD ?_|refine av ?_|refine ae ?_|refine ak ?_|refine And.intro ?_ ?_|refine cw (c) ?_|intro _)|(simp[*,hlt,hi1])|(refine ai (c) ?_ ?_;(· (simp[*];done))))
    all_goals first
     |omega
     |assumption
     |(refine nx (k+1) ?_ ?_;(· exact hz);(refine aO [] ?_ ?_<;>first|trivial|(simp[*,e];done)))
  ·have hke:k=x.ab.length:=by omega
   subst hke;clear kk
   repeat' (first|(with_reducible first|refine af ?_|refine aJ ?_|refine ae ?_|refine ak ?_|intro _)|(simp[*,hlt]))
   all_goals first
    |omega
    |(refine aT () ?_ ?_;(· trivial);(refine aB ?_ ?_<;>first|trivial|(simp[*];done)))
 ·clear kk e1 e2
  repeat' (first|(with_reducible first|refine af ?_|refine az ?_|refine ae ?_|intro _)|(simp[*]))
end Go.Proofs.YthpkmilhiganjaaGreat
namespace Go.Proofs.YthpkmilhiganjaaGreat
open Go Go.Fi
theorem bO[ar](x:Rd)(h:x.os.length<100000)(n:Int):aA Tz.prog 90 [x.pv,.int .i64 n] (.int .i64 (aU (aL n 0 ((x.os.length:Int)-1)) 6)) true:=by
 obtain⟨ab,os,wt,zs,fit⟩:=x;unfold Rd.pv;simp only[] at h ⊢;refine rcK Tz.func90 ?_;simp only[Tryz.results90,Tryz.ntmps90]
 repeat' (first|(with_reducible first|refine af ?_|refine az ?_|refine ae ?_|refine And.intro ?_ ?_|refine cw (dL _ _ _) ?_|refine cw (cH _ _) ?_|intro _)|(simp[*])|(refine ai (dL _ _ _) ?_ ?_;(· (simp[*];done)))|(refine ai (cH _ _) ?_ ?_;(· (simp[*];done))))
 all_goals first
  |exact aF (by omega) (by omega)
  |omega
noncomputable instance lu:ar:=LD
theorem hH(r:Tw.RND)(h:ceR r≠0)(i k:Int):aA Tz.prog 56 [Tw.aR r,.int .i64 i,.int .i64 k] (.tup [.bool false,.int .i64 (ceR r)]) true:=by
 have c1:=cQ r;rw[jo r h] at c1;generalize ceR r=e at *;unfold Tw.aR at *;generalize r.bS=p1 at *;generalize r.osP=p2 at *;generalize r.bU=p3 at *;generalize r.zsP=p4 at *;refine rcK Tz.func56 ?_;simp only[Tryz.results56,Tryz.ntmps56]
 repeat' (first|(with_reducible first|refine af ?_|refine av ?_|refine az ?_|refine ae ?_|refine ak ?_|refine And.intro ?_ ?_|refine cw (c1) ?_|intro _)|(simp[*,h])|(refine ai (c1) ?_ ?_;(· (simp[*];done))))
 all_goals first|omega
theorem ej(r:Tw.RND)(h:ceR r=0)(i k:Int)(hm:(aL i 0 ((r.os.length:Int)-1)&&aL k 0 ((r.ab.length:Int)-1))=false):aA Tz.prog 56 [Tw.aR r,.int .i64 i,.int .i64 k] (.tup [.bool false,.int .i64 6]) true:=by
 have ok:=bR r h;have c1:=cQ r;rw[fe r h] at c1;have c2:=bO (al r) (by have:=ok.lo;omega) i;have c3:=qm (al r) (by have:=ok.lc;omega) k;have c4:=hZ (aU (aL i 0 ((r.os.length:Int)-1)) 6) (aU (aL k 0 ((r.ab.length:Int)-1)) 6)
 have e:bL [aU (aL i 0 ((r.os.length:Int)-1)) 6,aU (aL k 0 ((r.ab.length:Int)-1)) 6]=6:=by
  cases h1:aL i 0 ((r.os.length:Int)-1) with
  |false=>rfl
  |true=>rw[h1] at hm;rw[show aL k 0 ((r.ab.length:Int)-1)=false from hm];rfl
 rw[e] at c4;have e1:(al r).os.length=r.os.length:=rfl;have e2:(al r).ab.length=r.ab.length:=rfl;rw[e1] at c2;rw[e2] at c3;clear e hm h ok e1 e2;generalize aU (aL i 0 ((r.os.length:Int)-1)) 6=b1 at *;generalize aU (aL k 0 ((r.ab.length:Int)-1)) 6=b2 at *;unfold Rd.pv at *;generalize al r=x at *;unfold Tw.aR at *;generalize r.bS=p1 at *;generalize r.osP=p2 at *;generalize r.bU=p3 at *;generalize r.zsP=p4 at *;refine rcK Tz.func56 ?_;simp only[Tryz.results56,Tryz.ntmps56]
 repeat' (first|(with_reducible first|refine af ?_|refine az ?_|refine ae ?_|refine ak ?_|refine And.intro ?_ ?_|refine cw (c1) ?_|refine cw (c2) ?_|refine cw (c3) ?_|refine cw (c4) ?_|intro _)|(simp[*])|(refine ai (c1) ?_ ?_;(· (simp[*];done)))|(refine ai (c2) ?_ ?_;(· (simp[*];done)))|(refine ai (c3) ?_ ?_;(· (simp[*];done)))|(refine ai (c4) ?_ ?_;(· (simp[*];done))))
 all_goals first|omega
theorem ic(r:Tw.RND)(h:ceR r=0)(i k:Nat)(hi:i<r.os.length)(hk:k<r.ab.length):aA Tz.prog 56 [Tw.aR r,.int .i64 i,.int .i64 k] (.tup [.bool (bB r.ab r.os r.zs i k),.int .i64 0]) true:=by
 have ok:=bR r h;have c1:=cQ r;rw[fe r h] at c1;have c2:=bO (al r) (by have:=ok.lo;omega) i;have c3:=qm (al r) (by have:=ok.lc;omega) k
 have e1:aL (i:Int) 0 (((al r).os.length:Int)-1)=true:=by
  have:(al r).os.length=r.os.length:=rfl;simp[aL];omega
 have e2:aL (k:Int) 0 (((al r).ab.length:Int)-1)=true:=by
  have:(al r).ab.length=r.ab.length:=rfl;simp[aL];omega
 rw[e1] at c2;rw[e2] at c3;have c4:=hZ 0 0;rw[show bL [0,0]=0 from rfl] at c4;have c2:aA Tz.prog 90 [(al r).pv,.int .i64 i] (.int .i64 0) true:=c2;have c3:aA Tz.prog 91 [(al r).pv,.int .i64 k] (.int .i64 0) true:=c3
 have hf:i<(al r).fit.length:=by rw[ok.lf];exact hi
 have hr:k<(nth (al r).fit i).length:=by rw[ok.fr i hi];exact hk
 rw[←eA r i k hi hk];clear e1 e2 ok h hi hk;unfold Rd.pv at *;generalize al r=x at *;unfold Tw.aR at *;generalize r.bS=p1 at *;generalize r.osP=p2 at *;generalize r.bU=p3 at *;generalize r.zsP=p4 at *;refine rcK Tz.func56 ?_;simp only[Tryz.results56,Tryz.ntmps56]
 repeat' (first|(with_reducible first|refine af ?_|refine av ?_|refine az ?_|refine ae ?_|refine ak ?_|refine And.intro ?_ ?_|refine cw (c1) ?_|refine cw (c2) ?_|refine cw (c3) ?_|refine cw (c4) ?_|intro _)|(simp[*,hf,hr])|(refine ai (c1) ?_ ?_;(· (simp[*];done)))|(refine ai (c2) ?_ ?_;(· (simp[*];done)))|(refine ai (c3) ?_ ?_;(· (simp[*];done)))|(refine ai (c4) ?_ ?_;(· (simp[*];done))))
 all_goals first|omega
theorem kg(r:Tw.RND)(h:ceR r≠0)(i:Int):aA Tz.prog 57 [Tw.aR r,.int .i64 i] (.tup [.sl 0 [],.int .i64 (ceR r)]) true:=by
 have c1:=cQ r;rw[jo r h] at c1;generalize ceR r=e at *;unfold Tw.aR at *;generalize r.bS=p1 at *;generalize r.osP=p2 at *;generalize r.bU=p3 at *;generalize r.zsP=p4 at *;refine rcK Tz.func57 ?_;simp only[Tryz.results57,Tryz.ntmps57]
 repeat' (first|(with_reducible first|refine af ?_|refine av ?_|refine az ?_|refine ae ?_|refine ak ?_|refine And.intro ?_ ?_|refine cw (c1) ?_|intro _)|(simp[*,h])|(refine ai (c1) ?_ ?_;(· (simp[*];done))))
 all_goals first|omega
theorem km(r:Tw.RND)(h:ceR r=0)(i:Int)(hm:aL i 0 ((r.os.length:Int)-1)=false):aA Tz.prog 57 [Tw.aR r,.int .i64 i] (.tup [.sl 0 [],.int .i64 6]) true:=by
 have ok:=bR r h;have c1:=cQ r;rw[fe r h] at c1;have c2:=bO (al r) (by have:=ok.lo;omega) i;have e1:(al r).os.length=r.os.length:=rfl;rw[e1,hm] at c2;have c2:aA Tz.prog 90 [(al r).pv,.int .i64 i] (.int .i64 6) true:=c2;clear hm h ok e1;unfold Rd.pv at *;generalize al r=x at *;unfold Tw.aR at *;generalize r.bS=p1 at *;generalize r.osP=p2 at *;generalize r.bU=p3 at *;generalize r.zsP=p4 at *;refine rcK Tz.func57 ?_;simp only[Tryz.results57,Tryz.ntmps57]
 repeat' (first|(with_reducible first|refine af ?_|refine az ?_|refine ae ?_|refine ak ?_|refine And.intro ?_ ?_|refine cw (c1) ?_|refine cw (c2) ?_|intro _)|(simp[*])|(refine ai (c1) ?_ ?_;(· (simp[*];done)))|(refine ai (c2) ?_ ?_;(· (simp[*];done))))
 all_goals first|omega
theorem ku(r:Tw.RND)(h:ceR r=0)(i:Nat)(hi:i<r.os.length):aA Tz.prog 57 [Tw.aR r,.int .i64 i] (.tup [.sl (ah r.ab r.os r.zs i r.ab.length).length (ints (ah r.ab r.os r.zs i r.ab.length)),.int .i64 0]) true:=by
 have ok:=bR r h;have c1:=cQ r;rw[fe r h] at c1;have c2:=bO (al r) (by have:=ok.lo;omega) i;have e0:(al r).os.length=r.os.length:=rfl
 have e1:aL (i:Int) 0 (((al r).os.length:Int)-1)=true:=by simp[aL];omega
 rw[e1] at c2;have c2:aA Tz.prog 90 [(al r).pv,.int .i64 i] (.int .i64 0) true:=c2
 have c3:=fh (al r) ok [(i:Int)] (by simp) (fun j hj=>by
  have:j=0:=by simp at hj;omega
  subst this;show 0≤(i:Int)∧(i:Int)<_
  omega)
 have e3:bK (al r) [(i:Int)]=ah r.ab r.os r.zs i r.ab.length:=by
  unfold bK bl ah;have:(al r).ab.length=r.ab.length:=rfl;rw[this];congr 1
  refine List.filter_congr fun k hk=>?_
  have hk:k<r.ab.length:=List.mem_range.1 hk;rw[←eA r i k hi hk];simp[bC]
 rw[e3] at c3;generalize ah r.ab r.os r.zs i r.ab.length=L at *;have c3:aA Tz.prog 95 [(al r).pv,.sl 1 [.int .i64 i]] (.sl L.length (ints L)) true:=c3;clear e0 e1 e3 ok h hi;unfold Rd.pv at *;generalize al r=x at *;unfold Tw.aR at *;generalize r.bS=p1 at *;generalize r.osP=p2 at *;generalize r.bU=p3 at *;generalize r.zsP=p4 at *;refine rcK Tz.func57 ?_;simp only[Tryz.results57,Tryz.ntmps57]
 repeat' (first|(with_reducible first|refine af ?_|refine av ?_|refine az ?_|refine ae ?_|refine ak ?_|refine And.intro ?_ ?_|refine cw (c1) ?_|refine cw (c2) ?_|refine cw (c3) ?_|intro _)|(simp[*])|(refine ai (c1) ?_ ?_;(· (simp[*];done)))|(refine ai (c2) ?_ ?_;(· (simp[*];done)))|(refine ai (c3) ?_ ?_;(· (simp[*];done))))
 all_goals first|omega
noncomputable instance lV:ar:=LD
theorem kx(ab:List Car)(os:List Ord)(wt:List (List Int))(zs:List Par)(i k:Int):nH Tz.prog Tryz.f11 (Tryz.f11.body.getD .skip) [.agg [.sl ab.length (aQ ab),.sl os.length (aP os),.sl wt.length (aZ wt),.sl zs.length (aS zs)],.int .i64 i,.int .i64 k] (.bool true) true:=by
 have ca:=qv;have cf:=qU ab os wt zs;refine oo (Nat.le_of_ble_eq_true (by kernel_rfl)) ?_;have hb:Tryz.f11.body=some _:=rfl;rw[hb];clear hb;simp only[Option.getD_some,Tryz.ntmps11,Tryz.results11]
 cases hw:jK ab os wt zs with
 |false=>
  rw[hw] at cf;clear hw
  repeat' (first|(with_reducible first|refine af ?_|refine av ?_|refine az ?_|refine ae ?_|refine ak ?_|refine And.intro ?_ ?_|refine cw (ca) ?_|refine cw (cf) ?_|intro _)|(simp[*])|(refine ai (ca) ?_ ?_;(· (simp[*];done)))|(refine ai (cf) ?_ ?_;(· (simp[*];done))))
  all_goals first|omega
 |true=>
  rw[hw] at cf;obtain⟨⟨l1,_⟩,⟨l2,_⟩,l3,l4,l5,l6,l7⟩:=qp hw;have cc:aA Tz.prog 18 [.agg [.sl ab.length (aQ ab),.sl os.length (aP os),.sl wt.length (aZ wt),.sl zs.length (aS zs)]] (.agg [.sl ab.length (aQ ab),.sl os.length (aP os),.sl wt.length (aZ wt),.sl zs.length (aS zs)]) true:=qn (bM ab os wt zs hw);have c1:aA Tz.prog 55 [.agg [.sl ab.length (aQ ab),.sl os.length (aP os),.sl wt.length (aZ wt),.sl zs.length (aS zs)]] (.tup [.int .i64 (ciR (bM ab os wt zs hw)),.int .i64 (ceR (bM ab os wt zs hw))]) true:=chk (bM ab os wt zs hw)
  have c2:aA Tz.prog 58 [.agg [.sl ab.length (aQ ab),.sl os.length (aP os),.sl wt.length (aZ wt),.sl zs.length (aS zs)]] (.tup [.int .i64 (ciR (bM ab os wt zs hw)),.int .i64 (ceR (bM ab os wt zs hw))]) true:=
   eE ab os wt zs (by omega) (by omega) (by omega) (by omega) (fun x hx=>by have:=l5 x hx;omega) (fun x hx=>by have:=l6 x hx;omega) (fun x hx=>by have:=l7 x hx;omega)
  have h1:=cn ab os wt zs (by omega) i;have h2:=cp ab os wt zs (by omega) k;by_cases he:ceR (bM ab os wt zs hw)=0
  ·rw[he] at c1 c2
   cases ho:aL i 0 ((os.length:Int)-1) with
   |false=>
    rw[ho] at h1
    have c3:aA Tz.prog 56 [.agg [.sl ab.length (aQ ab),.sl os.length (aP os),.sl wt.length (aZ wt),.sl zs.length (aS zs)],.int .i64 i,.int .i64 k] (.tup [.bool false,.int .i64 6]) true:=ej (bM ab os wt zs hw) he i k (by
     show (aL i 0 ((os.length:Int)-1)&&_)=false
     rw[ho];rfl)
    have c4:aA Tz.prog 57 [.agg [.sl ab.length (aQ ab),.sl os.length (aP os),.sl wt.length (aZ wt),.sl zs.length (aS zs)],.int .i64 i] (.tup [.sl 0 [],.int .i64 6]) true:=km (bM ab os wt zs hw) he i ho;generalize ciR (bM ab os wt zs hw)=n at *;clear ho he hw l5 l6 l7 h2
    repeat' (first|(with_reducible first|refine af ?_|refine av ?_|refine az ?_|refine ae ?_|refine ak ?_|refine And.intro ?_ ?_|refine cw (ca) ?_|refine cw (cf) ?_|refine cw (cc) ?_|refine cw (c1) ?_|refine cw (c2) ?_|refine cw (c3) ?_|refine cw (c4) ?_|refine cw (h1) ?_|intro _)|(simp[*])|(refine ai (ca) ?_ ?_;(· (simp[*];done)))|(refine ai (cf) ?_ ?_;(· (simp[*];done)))|(refine ai (cc) ?_ ?_;(· (simp[*];done)))|(refine ai (c1) ?_ ?_;(· (simp[*];done)))|(refine ai (c2) ?_ ?_;(· (simp[*];done)))|(refine ai (c3) ?_ ?_;(· (simp[*];done)))|(refine ai (c4) ?_ ?_;(· (simp[*];done)))|(refine ai (h1) ?_ ?_;(· (simp[*];done))))
    all_goals first|omega
   |true=>
    rw[ho] at h1;obtain⟨i,rfl⟩:∃n:Nat,i=n:=⟨i.toNat,by have:=bA.1 ho;omega⟩
    have hi:i<os.length:=by have:=bA.1 ho;omega
    have c4:aA Tz.prog 57 [.agg [.sl ab.length (aQ ab),.sl os.length (aP os),.sl wt.length (aZ wt),.sl zs.length (aS zs)],.int .i64 i] (.tup [.sl (ah ab os zs i ab.length).length (ints (ah ab os zs i ab.length)),.int .i64 0]) true:=ku (bM ab os wt zs hw) he i hi;have c5:=eN ab os wt zs i hi (by omega) (by omega);have c6:=lM (ah ab os zs i ab.length) (ah ab os zs i ab.length) (by have:=eb ab os zs i ab.length;omega);rw[jY,decide_eq_true rfl] at c6
    cases hk:aL k 0 ((ab.length:Int)-1) with
    |false=>
     rw[hk] at h2
     have c3:aA Tz.prog 56 [.agg [.sl ab.length (aQ ab),.sl os.length (aP os),.sl wt.length (aZ wt),.sl zs.length (aS zs)],.int .i64 i,.int .i64 k] (.tup [.bool false,.int .i64 6]) true:=ej (bM ab os wt zs hw) he i k (by
      show (_&&aL k 0 ((ab.length:Int)-1))=false
      rw[hk];exact Bool.and_false _)
     generalize ciR (bM ab os wt zs hw)=n at *;generalize ah ab os zs i ab.length=L at *;clear ho hk he hw l5 l6 l7
     repeat' (first|(with_reducible first|refine af ?_|refine av ?_|refine az ?_|refine ae ?_|refine ak ?_|refine And.intro ?_ ?_|refine cw (ca) ?_|refine cw (cf) ?_|refine cw (cc) ?_|refine cw (c1) ?_|refine cw (c2) ?_|refine cw (c3) ?_|refine cw (c4) ?_|refine cw (c5) ?_|refine cw (c6) ?_|refine cw (h1) ?_|refine cw (h2) ?_|intro _)|(simp[*])|(refine ai (ca) ?_ ?_;(· (simp[*];done)))|(refine ai (cf) ?_ ?_;(· (simp[*];done)))|(refine ai (cc) ?_ ?_;(· (simp[*];done)))|(refine ai (c1) ?_ ?_;(· (simp[*];done)))|(refine ai (c2) ?_ ?_;(· (simp[*];done)))|(refine ai (c3) ?_ ?_;(· (simp[*];done)))|(refine ai (c4) ?_ ?_;(· (simp[*];done)))|(refine ai (c5) ?_ ?_;(· (simp[*];done)))|(refine ai (c6) ?_ ?_;(· (simp[*];done)))|(refine ai (h1) ?_ ?_;(· (simp[*];done)))|(refine ai (h2) ?_ ?_;(· (simp[*];done))))
     all_goals first|omega
    |true=>
     rw[hk] at h2;obtain⟨k,rfl⟩:∃n:Nat,k=n:=⟨k.toNat,by have:=bA.1 hk;omega⟩
     have hkc:k<ab.length:=by have:=bA.1 hk;omega
     have c3:aA Tz.prog 56 [.agg [.sl ab.length (aQ ab),.sl os.length (aP os),.sl wt.length (aZ wt),.sl zs.length (aS zs)],.int .i64 i,.int .i64 k] (.tup [.bool (bB ab os zs i k),.int .i64 0]) true:=ic (bM ab os wt zs hw) he i k hi hkc;have c7:=dn ab os wt zs i k hi hkc (by omega);generalize ciR (bM ab os wt zs hw)=n at *;generalize ah ab os zs i ab.length=L at *;generalize bB ab os zs i k=b at *;clear ho hk he hw l5 l6 l7
     repeat' (first|(with_reducible first|refine af ?_|refine av ?_|refine az ?_|refine ae ?_|refine ak ?_|refine And.intro ?_ ?_|refine cw (ca) ?_|refine cw (cf) ?_|refine cw (cc) ?_|refine cw (c1) ?_|refine cw (c2) ?_|refine cw (c3) ?_|refine cw (c4) ?_|refine cw (c5) ?_|refine cw (c6) ?_|refine cw (c7) ?_|refine cw (h1) ?_|refine cw (h2) ?_|intro _)|(simp[*])|(refine ai (ca) ?_ ?_;(· (simp[*];done)))|(refine ai (cf) ?_ ?_;(· (simp[*];done)))|(refine ai (cc) ?_ ?_;(· (simp[*];done)))|(refine ai (c1) ?_ ?_;(· (simp[*];done)))|(refine ai (c2) ?_ ?_;(· (simp[*];done)))|(refine ai (c3) ?_ ?_;(· (simp[*];done)))|(refine ai (c4) ?_ ?_;(· (simp[*];done)))|(refine ai (c5) ?_ ?_;(· (simp[*];done)))|(refine ai (c6) ?_ ?_;(· (simp[*];done)))|(refine ai (c7) ?_ ?_;(· (simp[*];done)))|(refine ai (h1) ?_ ?_;(· (simp[*];done)))|(refine ai (h2) ?_ ?_;(· (simp[*];done))))
     all_goals first|omega
  ·have c3:aA Tz.prog 56 [.agg [.sl ab.length (aQ ab),.sl os.length (aP os),.sl wt.length (aZ wt),.sl zs.length (aS zs)],.int .i64 i,.int .i64 k] (.tup [.bool false,.int .i64 (ceR (bM ab os wt zs hw))]) true:=hH (bM ab os wt zs hw) he i k;have c4:aA Tz.prog 57 [.agg [.sl ab.length (aQ ab),.sl os.length (aP os),.sl wt.length (aZ wt),.sl zs.length (aS zs)],.int .i64 i] (.tup [.sl 0 [],.int .i64 (ceR (bM ab os wt zs hw))]) true:=kg (bM ab os wt zs hw) he i;generalize ciR (bM ab os wt zs hw)=n at *;generalize ceR (bM ab os wt zs hw)=e at *;clear hw l5 l6 l7 h1 h2
   repeat' (first|(with_reducible first|refine af ?_|refine av ?_|refine az ?_|refine ae ?_|refine ak ?_|refine And.intro ?_ ?_|refine cw (ca) ?_|refine cw (cf) ?_|refine cw (cc) ?_|refine cw (c1) ?_|refine cw (c2) ?_|refine cw (c3) ?_|refine cw (c4) ?_|intro _)|(simp[*,he])|(refine ai (ca) ?_ ?_;(· (simp[*];done)))|(refine ai (cf) ?_ ?_;(· (simp[*];done)))|(refine ai (cc) ?_ ?_;(· (simp[*];done)))|(refine ai (c1) ?_ ?_;(· (simp[*];done)))|(refine ai (c2) ?_ ?_;(· (simp[*];done)))|(refine ai (c3) ?_ ?_;(· (simp[*];done)))|(refine ai (c4) ?_ ?_;(· (simp[*];done))))
   all_goals first|omega
end Go.Proofs.YthpkmilhiganjaaGreat
