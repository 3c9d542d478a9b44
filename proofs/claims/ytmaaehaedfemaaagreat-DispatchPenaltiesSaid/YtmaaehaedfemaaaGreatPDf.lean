/- Lemmas. -/
import Derived.Test.YtmaaehaedfemaaaGreatPDd
import Derived.Test.YtmaaehaedfemaaaGreatPLf
import Derived.Test.YtmaaehaedfemaaaGreatPDc
import Derived.Test.YtmaaehaedfemaaaGreatPDb
import Derived.Test.YtmaaehaedfemaaaGreatPLg
set_option linter.unusedSimpArgs false
set_option linter.unusedVariables false
set_option linter.unusedSectionVars false
set_option maxHeartbeats 32000000
set_option maxRecDepth 100000
namespace Go.Proofs.YtmaaehaedfemaaaGreat
open Go Go.Fi
variable[ak]
theorem Lb(l:List Int)(hl:l.length<100000)(g:FuncId)(ar:List PV)(p:Int→Bool)(h:∀k,k<l.length→aF Tz.prog g (.int .i64 (nth l k)::ar) (.bool (p (nth l k))) true):aF Tz.prog 95 [.sl l.length (ints l),.fn g ar] (.int .i64 (idxOf p l)) true:=by
 generalize hR:idxOf p l=R;have kR:aR (dh p l 0=R):=keep hR;clear hR;refine rcK Tz.func95 ?_;simp only[Tryz.results95,Tryz.ntmps95]
 repeat' (first|(with_reducible first|refine aj ?_|refine af ?_|intro _)|(simp[*]))
 refine du (fun(k:Nat)=>k≤l.length∧dh p (l.drop k) k=R) [0,1,7] (fun(k:Nat)=>[(8,.w false false (.int .i64 k))]) [] (fun(k:Nat)=>[]) (fun(k:Nat)=>l.length-k) (fun(_u:Unit)=>R=-1) [] (fun(_u:Unit)=>[]) [] (fun(_u:Unit)=>[]) (0) ⟨Nat.zero_le _,kR⟩ (by simp) (by simp) (fun k hk=>?_) (fun _u hf=>?_)
 ·obtain⟨hk,hj⟩:=hk;by_cases hlt:k<l.length
  ·have c1:=h k hlt;have hj':=hj;rw[dG l k hlt] at hj';unfold dh at hj';have kj:=keep hj';clear hj hj' h
   repeat' (first|(with_reducible first|refine aj ?_|refine aL ?_|refine aB ?_|refine aD ?_|refine af ?_|refine al ?_|refine And.intro ?_ ?_|refine nW ?_ ?_|refine cw (c1) ?_|intro _)|(simp[*,hlt])|(refine az (c1) ?_ ?_;(· (simp[*];done))))
   all_goals first
    |exact aH (by omega) (by omega)
    |omega
    |(rename_i hp;rw[if_pos hp] at kj;exact kj)
    |(rename_i hp;rw[if_neg (by rw[hp];decide)] at kj;(refine nx (k+1) ?_ ?_;(· exact⟨by omega,kj⟩);(refine aG ?_ ?_<;>first|trivial|(simp[*];done))))
    |skip
  ·have hke:k=l.length:=by omega
   subst hke
   repeat' (first|(with_reducible first|refine aj ?_|refine aY ?_|refine af ?_|refine al ?_|intro _)|(simp[*]))
   all_goals (refine bl () ?_ ?_;(· rw[←hj,List.drop_length];rfl);(refine aG ?_ ?_<;>first|trivial|(simp[*];done)))
 ·subst hf
  repeat' (first|(with_reducible first|refine aj ?_|refine aD ?_|refine af ?_|intro _)|(simp[*]))
theorem Lc(l:List Int)(hl:l.length<100000)(g:FuncId)(ar:List PV)(p:Int→Bool)(h:∀k,k<l.length→aF Tz.prog g (.int .i64 (nth l k)::ar) (.bool (p (nth l k))) true):aF Tz.prog 52 [.sl l.length (ints l),.fn g ar] (.bool (l.any p)) true:=by
 have c1:=Lb l hl g ar p h;have h:=oc p l;generalize idxOf p l=i at *;rw[←h];clear h;refine rcK Tz.func52 ?_;simp only[Tryz.results52,Tryz.ntmps52]
 repeat' (first|(with_reducible first|refine aj ?_|refine aD ?_|refine af ?_|refine And.intro ?_ ?_|refine cw (c1) ?_|intro _)|(simp[*])|(refine az (c1) ?_ ?_;(· (simp[*];done))))
theorem Ld(x:Rd)(ok:eJ x)(i k:Nat)(hi:i<x.os.length)(hk:k<x.ae.length):aF Tz.prog 53 [.int .i64 i,.ip [x.pv] 0,.ip [.int .i64 k] 0] (.bool (nth (nth x.fit i) k)) true:=by
 have hif:i<x.fit.length:=by have:=ok.lf;omega
 have hkf:k<(nth x.fit i).length:=by have:=ok.fr i hi;omega
 clear ok hk hi;unfold Rd.pv;refine rcK Tz.func53 ?_;simp only[Tryz.results53,Tryz.ntmps53]
 repeat' (first|(with_reducible first|refine aj ?_|refine aD ?_|refine af ?_|refine bF (id:=1) 11 mixed (by decide +kernel) ?_|intro _)|(simp[*,hif,hkf]))
def qL(x:Rd)(os:List Int)(k:Nat):Bool:=os.any fun i=>nth (nth x.fit i.toNat) k
def jD(x:Rd)(os:List Int)(n:Nat):List Int:=((List.range n).filter (qL x os)).map fun k=>((k:Nat):Int)
def nJ(x:Rd)(os:List Int):List Int:=jD x os x.ae.length
theorem Le(x:Rd)(os:List Int)(n:Nat):jD x os (n+1)=if qL x os n then jD x os n++[(n:Int)] else jD x os n:=by
 unfold jD;rw[List.range_succ,List.filter_append,List.map_append]
 cases h:qL x os n<;>simp[h]
theorem Lf(x:Rd)(os:List Int)(n:Nat):(jD x os n).length≤n:=by
 unfold jD;rw[List.length_map];exact Nat.le_trans (List.length_filter_le _ _) (by simp)
theorem Lg(x:Rd)(ok:eJ x)(os:List Int)(hl:os.length<100000)(ho:∀i,i<os.length→0≤nth os i∧nth os i<(x.os.length:Int)):aF Tz.prog 34 [x.pv,.sl os.length (ints os)] (.sl (nJ x os).length (ints (nJ x os))) true:=by
 have c1:∀k,k<x.ae.length→aF Tz.prog 52 [.sl os.length (ints os),.fn 53 [.ip [x.pv] 0,.ip [.int .i64 k] 0]] (.bool (qL x os k)) true:=fun k hk=>
  Lc os hl 53 _ (fun i=>nth (nth x.fit i.toNat) k) (fun j hj=>by
   have:=ho j hj;have c:=Ld x ok (nth os j).toNat k (by omega) hk;rw[show (((nth os j).toNat:Nat):Int)=nth os j by omega] at c
   exact c)
 have hlc:=ok.lc;have eS:nJ x os=jD x os x.ae.length:=rfl;have e0:jD x os 0=[]:=rfl;have eK:=Le x os;have hK:=Lf x os;rw[eS];generalize jD x os=K at *;generalize qL x os=F at *;have kk:=keep (And.intro c1 (And.intro hlc (And.intro eK hK)))
 have e1:(K 0).length=0:=by rw[e0];rfl
 have e2:iA (K 0)=[]:=by rw[e0];rfl
 clear c1 hlc eK hK eS e0 ok ho;unfold Rd.pv;refine rcK Tz.func34 ?_;simp only[Tryz.results34,Tryz.ntmps34]
 repeat' (first|(with_reducible first|refine aj ?_|refine af ?_|intro _)|(simp[*]))
 refine cM 2 (fun(k:Nat)=>k≤x.ae.length) [1,2,12] (fun(k:Nat)=>[(5,.msl 1 (K k).length 1 0 (K k).length),(13,.w false false (.int .i64 k))]) [0] (fun(k:Nat)=>[(1,iA (K k))]) (fun(k:Nat)=>x.ae.length-k) (fun(_u:Unit)=>True) [] (fun(_u:Unit)=>[(5,.msl 1 (K x.ae.length).length 1 0 (K x.ae.length).length)]) [] (fun(_u:Unit)=>[(1,iA (K x.ae.length))]) (0) (Nat.zero_le _) (aN [] (by simp[e1,e2]) (by simp[e1,e2])) (fun k hk=>?_) (fun _u hf=>?_)
 ·clear e1 e2;by_cases hlt:k<x.ae.length
  ·obtain⟨c1,hlc,eK,hK⟩:=kk;have c:=c1 k hlt;have e:=eK k;have hi1:inI .i64 ((k:Int)+1):=aH (by omega) (by omega)
   have hz:k+1≤x.ae.length:=by omega
   have hb:=hK k
   have hb9:(K k).length+1≤1000000000:=by omega
   unfold Rd.pv at c;clear c1 hlc eK hK
   cases hf:F k with
   |true=>
    rw[hf] at c e;rw[if_pos rfl] at e
    have e3:iA (K (k+1))=iA (K k)++[.w false false (.int .i64 k)]:=by rw[e,←qe];rfl
    have e4:(K (k+1)).length=(K k).length+1:=by rw[e];simp
    clear e hf
    repeat' (first|(with_reducible first|refine aj ?_|refine aL ?_|refine aB ?_|refine af ?_|refine al ?_|refine And.intro ?_ ?_|refine cw (c) ?_|intro _)|(simp[*,hlt,hi1])|(refine az (c) ?_ ?_;(· (simp[*];done))))
    all_goals first
     |omega
     |assumption
     |(refine nx (k+1) ?_ ?_;(· exact hz);(refine aN [] ?_ ?_<;>first|trivial|(simp[*,e3,e4];done)))
   |false=>
    rw[hf] at c e;rw[if_neg (by decide)] at e;clear hf
    repeat' (first|(with_reducible first|refine aj ?_|refine aL ?_|refine aB ?_|refine af ?_|refine al ?_|refine And.intro ?_ ?_|refine cw (c) ?_|intro _)|(simp[*,hlt,hi1])|(refine az (c) ?_ ?_;(· (simp[*];done))))
    all_goals first
     |omega
     |assumption
     |(refine nx (k+1) ?_ ?_;(· exact hz);(refine aN [] ?_ ?_<;>first|trivial|(simp[*,e];done)))
  ·have hke:k=x.ae.length:=by omega
   subst hke;clear kk
   repeat' (first|(with_reducible first|refine aj ?_|refine aY ?_|refine af ?_|refine al ?_|intro _)|(simp[*,hlt]))
   all_goals first
    |omega
    |(refine bl () ?_ ?_;(· trivial);(refine aG ?_ ?_<;>first|trivial|(simp[*];done)))
 ·clear kk e1 e2
  repeat' (first|(with_reducible first|refine aj ?_|refine aD ?_|refine af ?_|intro _)|(simp[*]))
def pI(M:List (Int×Int)):List (PV×PV):=M.map fun p=>(.int .i64 p.1,.int .i64 p.2)
def mI(M:List (Int×Int)):List AV:=[dw (pI M)]
def di:List (Int×Int)→Int→Option Int
 |[],_=>none
 |p::r,k=>if k=p.1 then some p.2 else di r k
def mg:List (Int×Int)→Int→Int→List (Int×Int)
 |[],k,v=>[(k,v)]
 |p::r,k,v=>if k=p.1 then (k,v)::r else p::mg r k v
theorem Lv:[dw []]=mI []:=rfl
@[simp] theorem WV(M:List (Int×Int)):(mI M).length=1:=rfl
@[simp] theorem Yh(M:List (Int×Int))(n:Nat):AV.lt.ltL n (mI M)=true:=rfl
@[simp] theorem WW{D:List Nat}{h:ab}{n n':Nat}(M:List (Int×Int)):fp D h n n' (mI M) (mI M)=True:=eq_true ⟨Lu _ _ _,trivial⟩
theorem DU(M:List (Int×Int)):bV (mI M)=some (pI M):=zW _
theorem FE(M:List (Int×Int))(k:Int):okM (.int .i64) (.int .i64 k) (pI M)=true:=by
 simp[okM,okK,isLit,pI,List.all_eq_true]
theorem Lw(M:List (Int×Int))(k:Int):iI (pI M) (.int .i64 k)=(di M k).map (PV.int .i64):=by
 induction M with
 |nil=>rfl
 |cons p r ih=>
  have e:eqK (.int .i64 k) (.int .i64 p.1)=decide (k=p.1):=by simp[eqK]
  show (if eqK (.int .i64 k) (.int .i64 p.1)=true then some (PV.int .i64 p.2) else iI (pI r) (.int .i64 k))=_;rw[e];simp only[di,decide_eq_true_eq];split
  ·rfl
  ·exact ih
theorem Lx(M:List (Int×Int))(k:Int)(v:Int):fz (pI M) (.int .i64 k) (.int .i64 v)=pI (mg M k v):=by
 induction M with
 |nil=>rfl
 |cons p r ih=>
  have e:eqK (.int .i64 k) (.int .i64 p.1)=decide (k=p.1):=by simp[eqK]
  show (if eqK (.int .i64 k) (.int .i64 p.1)=true then (PV.int .i64 k,PV.int .i64 v)::pI r else (PV.int .i64 p.1,PV.int .i64 p.2)::fz (pI r) (.int .i64 k) (.int .i64 v))=_;rw[e];simp only[mg,decide_eq_true_eq];split
  ·rfl
  ·rw[ih];rfl
theorem jE{P:Program}{t:TypeId}(hm:iJ P t=some (.int .i64,.int .i64 0))(M:List (Int×Int))(o f:Bool)(k:Int)(c:Bool):lkV P t (some (mI M)) (.w o f (.int .i64 k)) c=some (True,zA c (di M k),[]):=by
 unfold lkV;simp only[Option.bind_some,DU,hm,FE,Lw]
 cases c<;>cases di M k<;>rfl
@[simp] theorem WX(h:ab)(id:Nat)(M:List (Int×Int))(z:PV)(o f o' f':Bool)(k:Int)(v:Int):qO h id (some (mI M)) (some (.int .i64,z)) (.w o f (.int .i64 k)) (.w o' f' (.int .i64 v))=some (True,aU h id (mI (mg M k v))):=by
 unfold qO;simp only[Option.bind_some,DU,FE,isLit,and_self,Lx];rfl
theorem Pj:iJ Tz.prog 107=some (.int .i64,.int .i64 0):=by kernel_rfl
def bY(ex:List Int)(k:Nat):Bool:=!(ex.any fun y=>decide ((k:Int)=y))
def fY(ex:List Int)(n:Nat):List Nat:=(List.range n).filter (bY ex)
def gD(ex:List Int)(k:Nat):Nat:=(fY ex k).length
def fq(ex:List Int)(n:Nat):List (Int×Int):=(fY ex n).map fun k:Nat=>((k:Int),(gD ex k:Int))
theorem qi(ex:List Int)(n:Nat):fY ex (n+1)=if bY ex n then fY ex n++[n] else fY ex n:=by
 unfold fY;rw[List.range_succ,List.filter_append]
 cases h:bY ex n<;>simp[h]
theorem x9(ex:List Int)(n k:Nat)(h:k∈fY ex n):k<n:=by
 unfold fY at h;simpa using (List.mem_filter.1 h).1
theorem mV(ex:List Int)(n:Nat):(fY ex n).length≤n:=by
 unfold fY;exact Nat.le_trans (List.length_filter_le _ _) (by simp)
theorem DV:∀(M:List (Int×Int))(k v:Int),(∀p∈M,p.1≠k)→mg M k v=M++[(k,v)]
 |[],_,_,_=>rfl
 |p::r,k,v,h=>by
  unfold mg;rw[if_neg (fun e=>h p List.mem_cons_self e.symm),DV r k v fun q hq=>h q (List.mem_cons_of_mem _ hq)];rfl
theorem DW(ex:List Int)(n:Nat):mg (fq ex n) (n:Int) (gD ex n:Int)=fq ex n++[((n:Int),(gD ex n:Int))]:=by
 refine DV _ _ _ fun p hp=>?_
 obtain⟨k,hk,rfl⟩:=List.mem_map.1 hp;have:=x9 ex n k hk;simp only[ne_eq];omega
theorem ya(ex:List Int)(n:Nat):fq ex (n+1)=if bY ex n then mg (fq ex n) (n:Int) (gD ex n:Int) else fq ex n:=by
 rw[DW];unfold fq;rw[qi]
 cases bY ex n<;>simp
theorem DX:∀(M N:List (Int×Int))(k:Int),di (M++N) k=(di M k).or (di N k)
 |[],N,k=>by simp[di]
 |p::r,N,k=>by
  simp only[List.cons_append,di];split
  ·rfl
  ·exact DX r N k
theorem DY(ex:List Int)(v:Int):∀n,di (fq ex n) v=if 0≤v∧v<(n:Int)∧bY ex v.toNat=true then some (gD ex v.toNat:Int) else none
 |0=>by
  rw[if_neg (by omega)];rfl
 |n+1=>by
  have ih:=DY ex v n;rw[ya]
  cases hk:bY ex n with
  |false=>
   simp only[Bool.false_eq_true,if_false];rw[ih];by_cases h:0≤v∧v<(n:Int)∧bY ex v.toNat=true
   ·rw[if_pos h,if_pos ⟨h.1,by omega,h.2.2⟩]
   ·rw[if_neg h,if_neg]
    rintro⟨h1,h2,h3⟩
    by_cases hn:v=(n:Int)
    ·subst hn;rw[Int.toNat_natCast,hk] at h3;cases h3
    ·exact h ⟨h1,by omega,h3⟩
  |true=>
   simp only[if_true];rw[DW,DX,ih];by_cases hn:v=(n:Int)
   ·subst hn;rw[if_neg (by omega),if_pos ⟨by omega,by omega,by rw[Int.toNat_natCast];exact hk⟩];simp[di]
   ·have e:di [((n:Int),(gD ex n:Int))] v=none:=by simp[di,hn]
    rw[e];by_cases h:0≤v∧v<(n:Int)∧bY ex v.toNat=true
    ·rw[if_pos h,if_pos ⟨h.1,by omega,h.2.2⟩];rfl
    ·rw[if_neg h,if_neg]
     ·rfl
     rintro⟨h1,h2,h3⟩
     exact h ⟨h1,by omega,h3⟩
def ft(x:Rd)(cs:List Int)(k:Nat):List Car:=(fY cs k).map fun j=>nth x.ae j
def dU(x:Rd)(os:List Int)(k:Nat):List Ord:=(fY os k).map fun j=>nth x.os j
def im(x:Rd)(cs:List Int)(i k:Nat):List Int:=(fY cs k).map fun j=>nth (nth x.wt i) j
def fF(x:Rd)(os cs:List Int)(k:Nat):List (List Int):=(fY os k).map fun i=>im x cs i x.ae.length
def jF(os cs:List Int)(n c:Nat)(p:Par):List Par:=
 match di (fq os n) p.1,di (fq cs c) p.2 with
 |some a,some b=>[(a,b)]
 |_,_=>[]
def fZ(x:Rd)(os cs:List Int)(k:Nat):List Par:=(x.zs.take k).flatMap (jF os cs x.os.length x.ae.length)
def cA(l:List PV):List AV:=l.map (AV.w false false)
@[simp] theorem yb(l:List PV):(cA l).length=l.length:=by simp[cA]
@[simp] theorem Yi(l:List PV)(n:Nat):AV.lt.ltL n (cA l)=true:=qb n false false l
@[simp] theorem WY{D:List Nat}{h:ab}{n n':Nat}(l:List PV):fp D h n n' (cA l) (cA l)=True:=eq_true (mR false false _)
@[simp high] theorem WZ(h:ab)(d:Nat)(l:List PV):(cA l).mapM (frz h d)=some l:=te h d false false l
theorem yc(a b:List PV):cA (a++b)=cA a++cA b:=by simp[cA]
theorem Ly(l:List Car)(c:Car):cA (bN (l++[c]))=cA (bN l)++[.w false false (.str c.1),.w false false (.int .i64 c.2.1),.w false false (.bool c.2.2)]:=by
 unfold bN;rw[List.flatMap_append,yc];rfl
theorem Lz(l:List Ord)(c:Ord):cA (bL (l++[c]))=cA (bL l)++[.w false false (.str c.1),.w false false (.int .i64 c.2.1),.w false false (.bool c.2.2.1),.w false false (.int .i64 c.2.2.2)]:=by
 unfold bL;rw[List.flatMap_append,yc];rfl
theorem LA(l:List Par)(c:Par):cA (bQ (l++[c]))=cA (bQ l)++[.w false false (.int .i64 c.1),.w false false (.int .i64 c.2)]:=by
 unfold bQ;rw[List.flatMap_append,yc];rfl
theorem DZ(l:List Car):(cA (bN l)).length=l.length*3:=by rw[yb];exact Tw.qC (f:=Tw.cC) (s:=3) (fun _=>rfl) l
theorem D3(l:List Ord):(cA (bL l)).length=l.length*4:=by rw[yb];exact Tw.qC (f:=Tw.bS) (s:=4) (fun _=>rfl) l
theorem D4(l:List Par):(cA (bQ l)).length=l.length*2:=by rw[yb];exact Tw.qC (f:=Tw.cP) (s:=2) (fun _=>rfl) l
theorem D5:∀l:List Car,de (bN l)=true
 |[]=>rfl
 |x::r=>by have:=D5 r;simpa[bN,Tw.cC,de,flat] using this
theorem D6:∀l:List Ord,de (bL l)=true
 |[]=>rfl
 |x::r=>by have:=D6 r;simpa[bL,Tw.bS,de,flat] using this
theorem D7:∀l:List Par,de (bQ l)=true
 |[]=>rfl
 |x::r=>by have:=D7 r;simpa[bQ,Tw.cP,de,flat] using this
@[simp high] theorem W0(h:ab)(d:Nat)(l:List Car):(cA (bN l)).all (cp h d)=true:=p9 h d false false _ (D5 l)
@[simp high] theorem W1(h:ab)(d:Nat)(l:List Ord):(cA (bL l)).all (cp h d)=true:=p9 h d false false _ (D6 l)
@[simp high] theorem W3(h:ab)(d:Nat)(l:List Par):(cA (bQ l)).all (cp h d)=true:=p9 h d false false _ (D7 l)
theorem LF(l:List (List Int))(r:List Int):cK (l++[r])=cK l++[.w true false (.sl r.length (ints r))]:=by simp[cK]
theorem LG(l:List (List Int)):gB l=ig l:=rfl
def pd(x:Rd)(os cs:List Int):PV:=
 .agg [.sl (ft x cs x.ae.length).length (bN (ft x cs x.ae.length)),.sl (dU x os x.os.length).length (bL (dU x os x.os.length)),
  .sl (fF x os cs x.os.length).length (ig (fF x os cs x.os.length)),.sl (fZ x os cs x.zs.length).length (bQ (fZ x os cs x.zs.length))]
theorem LH(x:Rd)(ok:eJ x)(os cs:List Int)(ho:os.length<100000)(hc:cs.length<100000):aF Tz.prog 32 [x.pv,.sl os.length (ints os),.sl cs.length (ints cs)] (pd x os cs) true:=by
 have kc:∀k:Nat,aF Tz.prog 49 [.sl cs.length (ints cs),.int .i64 k] (.bool (!(bY cs k))) true:=fun k=>by
  have:=xO cs hc k;unfold bY;rw[Bool.not_not];exact this
 have ko:∀k:Nat,aF Tz.prog 49 [.sl os.length (ints os),.int .i64 k] (.bool (!(bY os k))) true:=fun k=>by
  have:=xO os ho k;unfold bY;rw[Bool.not_not];exact this
 have lc:=ok.lc;have lo:=ok.lo;have lw:=ok.lw;have lz:=ok.lz;have wr:=ok.wr
 have ic:∀k,gD cs k=(ft x cs k).length:=fun k=>by simp[ft,gD]
 have io:∀k,gD os k=(dU x os k).length:=fun k=>by simp[dU,gD]
 have sC:∀k,ft x cs (k+1)=if bY cs k then ft x cs k++[nth x.ae k] else ft x cs k:=fun k=>by
  unfold ft;rw[qi];cases bY cs k<;>simp
 have sO:∀k,dU x os (k+1)=if bY os k then dU x os k++[nth x.os k] else dU x os k:=fun k=>by
  unfold dU;rw[qi];cases bY os k<;>simp
 have sR:∀i k,im x cs i (k+1)=if bY cs k then im x cs i k++[nth (nth x.wt i) k] else im x cs i k:=fun i k=>by
  unfold im;rw[qi];cases bY cs k<;>simp
 have sW:∀k,fF x os cs (k+1)=if bY os k then fF x os cs k++[im x cs k x.ae.length] else fF x os cs k:=fun k=>by
  unfold fF;rw[qi];cases bY os k<;>simp
 have sZ:∀k,k<x.zs.length→fZ x os cs (k+1)=fZ x os cs k++jF os cs x.os.length x.ae.length (nth x.zs k):=fun k hk=>by
  unfold fZ;rw[List.take_succ_eq_append_getElem hk,List.flatMap_append]
  have:x.zs[k]=nth x.zs k:=by simp[nth,List.getD_eq_getElem?_getD,hk]
  rw[this];simp
 have lwL:∀k,(fF x os cs k).length=(dU x os k).length:=fun k=>by simp[fF,dU]
 have lkc:∀k,k<x.ae.length→di (fq cs x.ae.length) k=if bY cs k then some (gD cs k:Int) else none:=fun k hk=>by
  rw[DY];rw[Int.toNat_natCast]
  cases bY cs k with
  |true=>rw[if_pos ⟨by omega,by omega,rfl⟩];rfl
  |false=>rw[if_neg (by rintro⟨_,_,h⟩;cases h)];rfl
 have mC:=ya cs;have mO:=ya os;have z1:fq cs 0=[]:=rfl;have z2:fq os 0=[]:=rfl;have z3:ft x cs 0=[]:=rfl;have z4:dU x os 0=[]:=rfl;have z5:fF x os cs 0=[]:=rfl;have z6:fZ x os cs 0=[]:=rfl
 have z7:∀i,im x cs i 0=[]:=fun i=>rfl
 have bC:∀k,(ft x cs k).length≤k:=fun k=>by rw[←ic];exact mV cs k
 have bO:∀k,(dU x os k).length≤k:=fun k=>by rw[←io];exact mV os k
 have bR:∀i k,(im x cs i k).length≤k:=fun i k=>by simp[im];exact mV cs k
 have bZ:∀k,(fZ x os cs k).length≤k:=fun k=>by
  unfold fZ
  have key:∀l:List Par,(l.flatMap (jF os cs x.os.length x.ae.length)).length≤l.length:=fun l=>by
   induction l with
   |nil=>simp
   |cons p l ih=>
    rw[List.flatMap_cons,List.length_append,List.length_cons]
    have:(jF os cs x.os.length x.ae.length p).length≤1:=by
     unfold jF;split<;>simp
    omega
  exact Nat.le_trans (key _) (by simp;omega)
 have eP:∀p,jF os cs x.os.length x.ae.length p=match di (fq os x.os.length) p.1,di (fq cs x.ae.length) p.2 with
  |some a,some b=>[(a,b)]
  |_,_=>[]:=fun _=>rfl
 unfold pd;rw[←LG];generalize ft x cs=LC at *;generalize dU x os=LO at *;generalize im x cs=LR at *;generalize fF x os cs=LW at *;generalize fZ x os cs=LZ at *;generalize jF os cs x.os.length x.ae.length=LP at *;generalize fq cs=MC at *;generalize fq os=MO at *;generalize gD cs=IC at *;generalize gD os=IO at *;have q1:=keep (And.intro kc (And.intro ic (And.intro sC (And.intro mC bC))));have q2:=keep (And.intro ko (And.intro io (And.intro sO (And.intro mO bO))));have q3:=keep (And.intro sR (And.intro sW (And.intro bR (And.intro lkc (And.intro wr (And.intro lw lwL))))));have q4:=keep (And.intro sZ (And.intro eP bZ));have q5:=keep (And.intro lc (And.intro lo lz));have k1:=keep z1;have k2:=keep z2;have k3:=keep z3;have k4:=keep z4;have k5:=keep z5;have k6:=keep z6;have k7:=keep z7;clear kc ic sC mC ko io sO mO sR sW lkc wr lw lwL sZ eP lc lo lz z1 z2 z3 z4 z5 z6 z7 ok bC bO bR bZ;unfold Rd.pv;have mt:=Pj;refine rcK Tz.func32 ?_;simp only[Tryz.results32,Tryz.ntmps32]
 repeat' (first|(with_reducible first|refine aj ?_|refine af ?_|intro _)|(simp[*,Lv,mt]))
 have e0:cA (bN [])=[]:=rfl;refine cM 5 (fun(k:Nat)=>k≤x.ae.length) [0,1,2,6,7,8,9,31,32] (fun(k:Nat)=>[(33,.w false false (.int .i64 k))]) [0,2] (fun(k:Nat)=>[(3,mI (MC k)),(4,cA (bN (LC k))),(1,[.msl 4 ((LC k).length*3) 3 0 (LC k).length,.w true true (.sl 0 []),.w true true (.sl 0 []),.w true true (.sl 0 [])])]) (fun(k:Nat)=>x.ae.length-k) (fun(_u:Unit)=>True) [0,1,6,7,8,9] (fun(_u:Unit)=>[]) [0,2] (fun(_u:Unit)=>[(3,mI (MC x.ae.length)),(4,cA (bN (LC x.ae.length))),(1,[.msl 4 ((LC x.ae.length).length*3) 3 0 (LC x.ae.length).length,.w true true (.sl 0 []),.w true true (.sl 0 []),.w true true (.sl 0 [])])]) (0) (Nat.zero_le _) (aN [] (by simp[show MC 0=[] from k1,show LC 0=[] from k3,e0]) (by simp[show MC 0=[] from k1,show LC 0=[] from k3,e0])) (fun k hk=>?_) (fun _u hf=>?_)
 ·clear e0;by_cases hlt:k<x.ae.length
  ·obtain⟨kc,ic,sC,mC,bC⟩:=q1;have h8:x.ae.length≤8:=q5.1;have c:=kc k;have e1:=ic k;have e2:=sC k;have e3:=mC k;have b:=bC k;have hi1:inI .i64 ((k:Int)+1):=aH (by omega) (by omega)
   have hz:k+1≤x.ae.length:=by omega
   have hl9:(LC k).length+1≤1000000000:=by omega
   have hcl:=DZ (LC k);clear kc ic sC mC bC q2 q3 q4 q5 k1 k2 k3 k4 k5 k6 k7 h8
   cases hf:bY cs k with
   |true=>
    rw[hf] at c e2 e3;simp only[Bool.not_true,if_true] at c e2 e3;rw[e1] at e3;have e4:=Ly (LC k) (nth x.ae k);rw[←e2] at e4
    have e5:(LC (k+1)).length=(LC k).length+1:=by rw[e2];simp
    clear e1 e2 hf
    repeat' (first|(with_reducible first|refine aj ?_|refine aL ?_|refine aB ?_|refine af ?_|refine al ?_|refine And.intro ?_ ?_|refine cw (c) ?_|intro _)|(simp[*,hlt,hi1,jE mt,mt,Tw.cC,hcl])|(refine az (c) ?_ ?_;(· (simp[*];done))))
    all_goals first
     |omega
     |assumption
     |(refine nx (k+1) ?_ ?_;(· exact hz);(refine aN [] ?_ ?_<;>first|trivial|(simp[*,e3,e4,e5,Nat.add_mul];done)))
   |false=>
    rw[hf] at c e2 e3;simp only[Bool.not_false,Bool.false_eq_true,if_false] at c e2 e3;clear e1 hf
    repeat' (first|(with_reducible first|refine aj ?_|refine aL ?_|refine aB ?_|refine af ?_|refine al ?_|refine And.intro ?_ ?_|refine cw (c) ?_|intro _)|(simp[*,hlt,hi1,jE mt,mt,Tw.cC,hcl])|(refine az (c) ?_ ?_;(· (simp[*];done))))
    all_goals first
     |omega
     |assumption
     |(refine nx (k+1) ?_ ?_;(· exact hz);(refine aN [] ?_ ?_<;>first|trivial|(simp[*,e3,e2];done)))
  ·have hke:k=x.ae.length:=by omega
   subst hke;clear q1 q2 q3 q4 q5 k1 k2 k3 k4 k5 k6 k7
   repeat' (first|(with_reducible first|refine aj ?_|refine aY ?_|refine af ?_|refine al ?_|intro _)|(simp[*,hlt]))
   all_goals first
    |omega
    |(refine bl () ?_ ?_;(· trivial);(refine aG ?_ ?_<;>first|trivial|(simp[*];done)))
 ·clear e0 k1 k3 q1
  repeat' (first|(with_reducible first|refine aj ?_|refine af ?_|intro _)|(simp[*,mt]))
  have e0:cA (bL [])=[]:=rfl;have e00:cK []=[]:=rfl;refine cM 7 (fun(k:Nat)=>k≤x.os.length) [0,1,6,7,8,9,58,59] (fun(k:Nat)=>[(60,.w false false (.int .i64 k))]) [0,3,4] (fun(k:Nat)=>[(2,mI (MO k)),(5,cA (bL (LO k))),(6,cK (LW k)),(1,[.msl 4 ((LC x.ae.length).length*3) 3 0 (LC x.ae.length).length,.msl 5 ((LO k).length*4) 4 0 (LO k).length,.msl 6 (LW k).length 1 0 (LW k).length,.w true true (.sl 0 [])])]) (fun(k:Nat)=>x.os.length-k) (fun(_u:Unit)=>True) [0,6,7,8,9] (fun(_u:Unit)=>[]) [0,3,4] (fun(_u:Unit)=>[(2,mI (MO x.os.length)),(5,cA (bL (LO x.os.length))),(6,cK (LW x.os.length)),(1,[.msl 4 ((LC x.ae.length).length*3) 3 0 (LC x.ae.length).length,.msl 5 ((LO x.os.length).length*4) 4 0 (LO x.os.length).length,.msl 6 (LW x.os.length).length 1 0 (LW x.os.length).length,.w true true (.sl 0 [])])]) (0) (Nat.zero_le _) (aN [] (by simp[show MO 0=[] from k2,show LO 0=[] from k4,show LW 0=[] from k5,e0,e00]) (by simp[show MO 0=[] from k2,show LO 0=[] from k4,show LW 0=[] from k5,e0,e00])) (fun k hk=>?_) (fun _u hf=>?_)
  ·clear e0 e00;by_cases hlt:k<x.os.length
   ·obtain⟨kc,ic,sC,mC,bC⟩:=q2;obtain⟨sR,sW,bR,lkc,wr,lw,lwL⟩:=q3;have h8:x.os.length≤8:=q5.2.1;have hc8:x.ae.length≤8:=q5.1;have c:=kc k;have e1:=ic k;have e2:=sC k;have e3:=mC k;have b:=bC k;have w2:=sW k;have hi1:inI .i64 ((k:Int)+1):=aH (by omega) (by omega)
    have hz:k+1≤x.os.length:=by omega
    have hl9:(LO k).length+1≤1000000000:=by omega
    have hl9w:(LW k).length+1≤1000000000:=by rw[lwL];exact hl9
    have hcl:=D3 (LO k)
    have hkw:k<x.wt.length:=by omega
    have hwr:=wr k hlt
    cases hf:bY os k with
    |true=>
     rw[hf] at c e2 e3 w2;simp only[Bool.not_true,if_true] at c e2 e3 w2;rw[e1] at e3;have e4:=Lz (LO k) (nth x.os k);rw[←e2] at e4
     have e5:(LO (k+1)).length=(LO k).length+1:=by rw[e2];simp
     have e6:=LF (LW k) (LR k x.ae.length);rw[←w2] at e6
     have e7:(LW (k+1)).length=(LW k).length+1:=by rw[w2];simp
     have q6:=keep (And.intro sR (And.intro bR (And.intro lkc hwr)));have z7:LR k 0=[]:=k7 k;clear e1 e2 w2 hf kc ic sC mC bC sR sW bR lkc wr lw lwL hwr q4 q5 k2 k4 k5 k6 k7 h8
     repeat' (first|(with_reducible first|refine aj ?_|refine aL ?_|refine aB ?_|refine af ?_|refine al ?_|refine And.intro ?_ ?_|refine cw (c) ?_|intro _)|(simp[*,hlt,hi1,jE mt,mt,Tw.bS,hcl,hkw])|(refine az (c) ?_ ?_;(· (simp[*];done))))
     all_goals try first|omega|assumption
     have e00:iA []=[]:=rfl;refine cM 10 (fun(j:Nat)=>j≤x.ae.length) [0,1,6,7,8,9,58,59,60,86,87] (fun(j:Nat)=>[(14,.msl 9 (LR k j).length 1 0 (LR k j).length),(88,.w false false (.int .i64 j))]) [0,1,2,3,4,5,6] (fun(j:Nat)=>[(9,iA (LR k j))]) (fun(j:Nat)=>x.ae.length-j) (fun(_u:Unit)=>True) [0,1,6,7,8,9,58,59,60] (fun(_u:Unit)=>[(14,.msl 9 (LR k x.ae.length).length 1 0 (LR k x.ae.length).length)]) [0,1,2,3,4,5,6] (fun(_u:Unit)=>[(9,iA (LR k x.ae.length))]) (0) (Nat.zero_le _) (aN [] (by simp[z7,e00]) (by simp[z7,e00])) (fun j hk=>?_) (fun _u hf=>?_)
     ·clear z7 e00 e3 e4 e5 e6 e7 c;obtain⟨sR,bR,lkc,hwr⟩:=q6;by_cases hjt:j<x.ae.length
      ·have hjw:j<(nth x.wt k).length:=by omega
       have s1:=sR k j;have b1:=bR k j;have l1:=lkc j hjt;have hij:inI .i64 ((j:Int)+1):=aH (by omega) (by omega)
       have hzj:j+1≤x.ae.length:=by omega
       have hr9:(LR k j).length+1≤1000000000:=by omega
       clear sR bR lkc hwr hcl hl9 hl9w
       cases hg:bY cs j with
       |true=>
        rw[hg] at s1 l1;simp only[if_true] at s1 l1
        have s2:iA (LR k (j+1))=iA (LR k j)++[.w false false (.int .i64 (nth (nth x.wt k) j))]:=by rw[s1,←qe];rfl
        have s3:(LR k (j+1)).length=(LR k j).length+1:=by rw[s1];simp
        clear s1 hg
        repeat' (first|(with_reducible first|refine aj ?_|refine aL ?_|refine aB ?_|refine af ?_|refine al ?_|intro _)|(simp[*,hjt,hij,jE mt,mt,hkw,hjw,l1]))
        all_goals first
         |omega
         |assumption
         |(refine nx (j+1) ?_ ?_;(· exact hzj);(refine aN [] ?_ ?_<;>first|trivial|(simp[*,s2,s3];done)))
       |false=>
        rw[hg] at s1 l1;simp only[Bool.false_eq_true,if_false] at s1 l1;clear hg
        repeat' (first|(with_reducible first|refine aj ?_|refine aL ?_|refine aB ?_|refine af ?_|refine al ?_|intro _)|(simp[*,hjt,hij,jE mt,mt,hkw,hjw,l1]))
        all_goals first
         |omega
         |assumption
         |(refine nx (j+1) ?_ ?_;(· exact hzj);(refine aN [] ?_ ?_<;>first|trivial|(simp[*,s1];done)))
      ·have hke:j=x.ae.length:=by omega
       subst hke
       have hjw:¬x.ae.length<(nth x.wt k).length:=by omega
       clear sR bR lkc hwr
       repeat' (first|(with_reducible first|refine aj ?_|refine aY ?_|refine af ?_|refine al ?_|intro _)|(simp[*,hjt,hjw]))
       all_goals first
        |omega
        |(refine bl () ?_ ?_;(· trivial);(refine aN [] ?_ ?_<;>first|trivial|(simp[*];done)))
     ·clear z7 e00 q6 c
      repeat' (first|(with_reducible first|refine af ?_|intro _)|(simp[*,hi1,mt]))
      all_goals first
       |omega
       |assumption
       |(refine nx (k+1) ?_ ?_;(· exact hz);(refine aN [9] ?_ ?_<;>first|trivial|(simp[*,e3,e4,e5,e6,e7,Nat.add_mul];done)))
    |false=>
     rw[hf] at c e2 e3 w2;simp only[Bool.not_false,Bool.false_eq_true,if_false] at c e2 e3 w2;clear e1 hf kc ic sC mC bC sR sW bR lkc wr lw lwL hwr q4 q5 k2 k4 k5 k6 k7 h8 hc8
     repeat' (first|(with_reducible first|refine aj ?_|refine aL ?_|refine aB ?_|refine aY ?_|refine af ?_|refine al ?_|refine And.intro ?_ ?_|refine cw (c) ?_|intro _)|(simp[*,hlt,hi1,jE mt,mt,Tw.bS,hcl])|(refine az (c) ?_ ?_;(· (simp[*];done))))
     all_goals first
      |omega
      |assumption
      |(refine nx (k+1) ?_ ?_;(· exact hz);(refine aN [] ?_ ?_<;>first|trivial|(simp[*,e3,e2,w2];done)))
   ·have hke:k=x.os.length:=by omega
    subst hke;clear q2 q3 q4 q5 k2 k4 k5 k6 k7
    repeat' (first|(with_reducible first|refine aj ?_|refine aY ?_|refine af ?_|refine al ?_|intro _)|(simp[*,hlt]))
    all_goals first
     |omega
     |(refine bl () ?_ ?_;(· trivial);(refine aG ?_ ?_<;>first|trivial|(simp[*];done)))
  ·clear e0 e00 q2 q3 k2 k4 k5 k7
   repeat' (first|(with_reducible first|refine aj ?_|refine af ?_|intro _)|(simp[*,mt]))
   have e0:cA (bQ [])=[]:=rfl;refine cM 8 (fun(k:Nat)=>k≤x.zs.length) [6,7,8,9,116,117] (fun(k:Nat)=>[(118,.w false false (.int .i64 k))]) [0,2,3,4,5,6] (fun(k:Nat)=>[(7,cA (bQ (LZ k))),(1,[.msl 4 ((LC x.ae.length).length*3) 3 0 (LC x.ae.length).length,.msl 5 ((LO x.os.length).length*4) 4 0 (LO x.os.length).length,.msl 6 (LW x.os.length).length 1 0 (LW x.os.length).length,.msl 7 ((LZ k).length*2) 2 0 (LZ k).length])]) (fun(k:Nat)=>x.zs.length-k) (fun(_u:Unit)=>True) [6,7] (fun(_u:Unit)=>[]) [0,4,5,6] (fun(_u:Unit)=>[(7,cA (bQ (LZ x.zs.length))),(1,[.msl 4 ((LC x.ae.length).length*3) 3 0 (LC x.ae.length).length,.msl 5 ((LO x.os.length).length*4) 4 0 (LO x.os.length).length,.msl 6 (LW x.os.length).length 1 0 (LW x.os.length).length,.msl 7 ((LZ x.zs.length).length*2) 2 0 (LZ x.zs.length).length])]) (0) (Nat.zero_le _) (aN [] (by simp[show LZ 0=[] from k6,e0]) (by simp[show LZ 0=[] from k6,e0])) (fun k hk=>?_) (fun _u hf=>?_)
   ·clear e0 k6;by_cases hlt:k<x.zs.length
    ·obtain⟨sZ,eP,bZ⟩:=q4;have h64:x.zs.length≤64:=q5.2.2;have s1:=sZ k hlt;rw[eP] at s1;have b:=bZ k;have hi1:inI .i64 ((k:Int)+1):=aH (by omega) (by omega)
     have hz:k+1≤x.zs.length:=by omega
     have hl9:(LZ k).length+1≤1000000000:=by omega
     have hcl:=D4 (LZ k);clear sZ eP bZ h64 q5
     cases ha:di (MO x.os.length) (nth x.zs k).1 with
     |none=>
      rw[ha] at s1;simp only[List.append_nil] at s1
      cases hb:di (MC x.ae.length) (nth x.zs k).2 with
      |none=>
       repeat' (first|(with_reducible first|refine aj ?_|refine aL ?_|refine aB ?_|refine af ?_|refine al ?_|refine And.intro ?_ ?_|intro _)|(simp[*,hlt,hi1,jE mt,mt,ha,hb,hcl,Tw.cP]))
       all_goals first
        |omega
        |assumption
        |(refine nx (k+1) ?_ ?_;(· exact hz);(refine aN [] ?_ ?_<;>first|trivial|(simp[*,s1];done)))
      |some b'=>
       repeat' (first|(with_reducible first|refine aj ?_|refine aL ?_|refine aB ?_|refine af ?_|refine al ?_|refine And.intro ?_ ?_|intro _)|(simp[*,hlt,hi1,jE mt,mt,ha,hb,hcl,Tw.cP]))
       all_goals first
        |omega
        |assumption
        |(refine nx (k+1) ?_ ?_;(· exact hz);(refine aN [] ?_ ?_<;>first|trivial|(simp[*,s1];done)))
     |some a'=>
      rw[ha] at s1
      cases hb:di (MC x.ae.length) (nth x.zs k).2 with
      |none=>
       rw[hb] at s1;simp only[List.append_nil] at s1
       repeat' (first|(with_reducible first|refine aj ?_|refine aL ?_|refine aB ?_|refine af ?_|refine al ?_|refine And.intro ?_ ?_|intro _)|(simp[*,hlt,hi1,jE mt,mt,ha,hb,hcl,Tw.cP]))
       all_goals first
        |omega
        |assumption
        |(refine nx (k+1) ?_ ?_;(· exact hz);(refine aN [] ?_ ?_<;>first|trivial|(simp[*,s1];done)))
      |some b'=>
       rw[hb] at s1;simp only[] at s1;have s2:=LA (LZ k) (a',b');rw[←s1] at s2
       have s3:(LZ (k+1)).length=(LZ k).length+1:=by rw[s1];simp
       clear s1
       repeat' (first|(with_reducible first|refine aj ?_|refine aL ?_|refine aB ?_|refine af ?_|refine al ?_|refine And.intro ?_ ?_|intro _)|(simp[*,hlt,hi1,jE mt,mt,ha,hb,hcl,Tw.cP]))
       all_goals first
        |omega
        |assumption
        |(refine nx (k+1) ?_ ?_;(· exact hz);(refine aN [] ?_ ?_<;>first|trivial|(simp[*,s2,s3,Nat.add_mul];done)))
    ·have hke:k=x.zs.length:=by omega
     subst hke;clear q4 q5
     repeat' (first|(with_reducible first|refine aj ?_|refine aY ?_|refine af ?_|refine al ?_|intro _)|(simp[*,hlt]))
     all_goals first
      |omega
      |(refine bl () ?_ ?_;(· trivial);(refine aG ?_ ?_<;>first|trivial|(simp[*];done)))
   ·clear e0 k6 q4 q5;have h1:=DZ (LC x.ae.length);have h2:=D3 (LO x.os.length);have h3:=D4 (LZ x.zs.length)
    repeat' (first|(with_reducible first|refine aj ?_|refine aD ?_|refine af ?_|intro _)|(simp[*,h1,h2,h3]))
end Go.Proofs.YtmaaehaedfemaaaGreat
namespace Go.Proofs.YtmaaehaedfemaaaGreat
open Go Go.Fi
noncomputable instance Yl:ak:=LD
theorem D8{α:Type}[Inhabited α]{l:List α}{k:Nat}(h:k<l.length):nth l k∈l:=by
 have:nth l k=l[k]:=by simp[nth,List.getD_eq_getElem?_getD,h]
 rw[this];exact List.getElem_mem h
noncomputable def zC(r:Tw.RND)(h:ceR r=0)(os cs:List Int):Tw.RND where
 ae:=ft (aA r) cs (aA r).ae.length
 os:=dU (aA r) os (aA r).os.length
 wt:=fF (aA r) os cs (aA r).os.length
 zs:=fZ (aA r) os cs (aA r).zs.length
 dp:=by
  have ok:=nE r h;have f:=r.dp
  have bC:(ft (aA r) cs (aA r).ae.length).length≤(aA r).ae.length:=by simpa[ft] using mV cs (aA r).ae.length
  have bO:(dU (aA r) os (aA r).os.length).length≤(aA r).os.length:=by simpa[dU] using mV os (aA r).os.length
  have bW:(fF (aA r) os cs (aA r).os.length).length≤(aA r).os.length:=by simpa[fF] using mV os (aA r).os.length
  have bZ:(fZ (aA r) os cs (aA r).zs.length).length≤(aA r).zs.length:=by
   unfold fZ
   have key:∀l:List Par,(l.flatMap (jF os cs (aA r).os.length (aA r).ae.length)).length≤l.length:=fun l=>by
    induction l with
    |nil=>simp
    |cons p l ih=>
     rw[List.flatMap_cons,List.length_append,List.length_cons]
     have:(jF os cs (aA r).os.length (aA r).ae.length p).length≤1:=by
      unfold jF;split<;>simp
     omega
   exact Nat.le_trans (key _) (by simp)
  have lc:=ok.lc;have lo:=ok.lo;have lz:=ok.lz;refine⟨fun c hc=>?_,fun o ho=>?_,fun w hw=>?_,by omega,by omega,by omega,by omega⟩
  ·obtain⟨k,hk,rfl⟩:=List.mem_map.1 hc;exact f.1 _ (D8 (x9 _ _ _ hk))
  ·obtain⟨k,hk,rfl⟩:=List.mem_map.1 ho;exact f.2.1 _ (D8 (x9 _ _ _ hk))
  ·obtain⟨k,hk,rfl⟩:=List.mem_map.1 hw
   have:(im (aA r) cs k (aA r).ae.length).length≤(aA r).ae.length:=by simpa[im] using mV cs (aA r).ae.length
   omega
theorem LL(r:Tw.RND)(h:ceR r=0)(os cs:List Int):Tw.bM (zC r h os cs)=pd (aA r) os cs:=rfl
theorem LM(r:Tw.RND)(h:ceR r=0)(car:Int)(hc:bn car 0 ((r.ae.length:Int)-1)=true):aF Tz.prog 13 [Tw.bM r,.int .i64 car] (.tup [pd (aA r) [] [car],.int .i64 0]) false:=by
 have c1:=kB r;rw[od r h] at c1;have ok:=nE r h;have c2:=Dj (aA r) (by have:=ok.lc;omega) car;have e:(aA r).ae.length=r.ae.length:=rfl;rw[e,hc,show a8 true 6=0 from rfl] at c2;have c3:=LH (aA r) ok [] [car] (by simp) (by simp);have c3:aF Tz.prog 32 [(aA r).pv,.sl 0 [],.sl 1 [.int .i64 car]] (pd (aA r) [] [car]) true:=c3;unfold pd at *;clear e hc ok h;generalize hcc:bN (ft (aA r) [car] (aA r).ae.length)=q1 at *;generalize (ft (aA r) [car] (aA r).ae.length).length=n1 at *;generalize hcc:bL (dU (aA r) [] (aA r).os.length)=q2 at *;generalize (dU (aA r) [] (aA r).os.length).length=n2 at *;generalize hcc:ig (fF (aA r) [] [car] (aA r).os.length)=q3 at *;generalize (fF (aA r) [] [car] (aA r).os.length).length=n3 at *;generalize hcc:bQ (fZ (aA r) [] [car] (aA r).zs.length)=q4 at *;generalize (fZ (aA r) [] [car] (aA r).zs.length).length=n4 at *;generalize aA r=x at *;clear hcc;unfold Rd.pv at *;unfold Tw.bM at *;generalize r.dK=p1 at *;generalize r.osP=p2 at *;generalize r.eF=p3 at *;generalize r.zsP=p4 at *;refine rcK Tz.func13 ?_;simp only[Tryz.results13,Tryz.ntmps13]
 repeat' (first|(with_reducible first|refine aj ?_|refine aB ?_|refine aD ?_|refine af ?_|refine al ?_|refine And.intro ?_ ?_|refine cw (c1) ?_|refine cw (c2) ?_|refine cw (c3) ?_|intro _)|(simp[*])|(refine az (c1) ?_ ?_;(· (simp[*];done)))|(refine az (c2) ?_ ?_;(· (simp[*];done)))|(refine az (c3) ?_ ?_;(· (simp[*];done))))
end Go.Proofs.YtmaaehaedfemaaaGreat
namespace Go.Proofs.YtmaaehaedfemaaaGreat
open Go Go.Fi
variable[ak]
theorem Lq(n s:Int):aF Tz.prog 33 [.int .i64 n,.int .i64 s] (.fn 50 [.ip [.int .i64 s] 0,.ip [.int .i64 n] 0]) true:=by
 refine rcK Tz.func33 ?_;simp only[Tryz.results33,Tryz.ntmps33]
 repeat' (first|(with_reducible first|refine aj ?_|refine aD ?_|refine af ?_|intro _)|(simp[*]))
def fX(bad:List Int→Bool)(n:Nat):Nat→Nat→List Int→Option (List Int)
 |0,_,l=>if bad l then some l else none
 |r+1,a,l=>(List.range' a (n-a)).findSome? fun i=>fX bad n r (i+1) (l++[(i:Int)])
theorem Lr(bad:List Int→Bool)(n r:Nat)(l:List Int):((List.range' n (n-n)).findSome? fun i=>fX bad n r (i+1) (l++[(i:Int)]))=none:=by simp
theorem xZ(f:Nat→Option (List Int))(n a:Nat)(h:a<n):(List.range' a (n-a)).findSome? f=match f a with|some l=>some l|none=>(List.range' (a+1) (n-(a+1))).findSome? f:=by
 rw[show n-a=(n-(a+1))+1 by omega,List.range'_succ,List.findSome?_cons]
 cases f a<;>rfl
@[simp] theorem WB:cf Tz.prog 111=some [.w false false .undef]:=by kernel_rfl
def dD(s n:Int):List AV:=[.w false false (.ip [.int .i64 s] 0),.ptr 5 1 0,.w false false (.ip [.int .i64 n] 0),.ptr 6 1 0]
def chH(x:Rd)(lp:Nat)(s n:Int)(p1 p2:PV):ab:=
 [(6,[.fn 51 (dD s n)]),(5,[.w false false (.yl lp)]),(4,[.w false false (.int .i64 s)]),(3,[.w false false x.pv]),(2,[.w false false p2]),(1,[.w false false p1])]
section
variable(x:Rd)(lp:Nat)(s n:Int)(p1 p2:PV)
@[simp] theorem Yd:aI (chH x lp s n p1 p2) 6=some [.fn 51 (dD s n)]:=rfl
@[simp] theorem Ye:aI (chH x lp s n p1 p2) 5=some [.w false false (.yl lp)]:=rfl
end
theorem Ls(l m:List Int){j:Nat}(h:j<l.length):nth (l++m) j=nth l j:=by
 simp[nth,List.getD_eq_getElem?_getD,List.getElem?_append_left h]
theorem Lt(l:List Int)(i:Int):nth (l++[i]) l.length=i:=by
 simp[nth,List.getD_eq_getElem?_getD]
theorem DT(x:Rd)(bad:List Int→Bool)(N s:Nat)(hN:N<1000)(hs:s<1000)(p1 p2:PV)(ri:Go.Fi.RI)(hy:∀(l:List Int)(o f:Bool)(m:Nat)(K Kl:ab→Nat→Prop),7≤m→l.length=s→(∀j,j<l.length→0≤nth l j∧nth l j<(N:Int))→(bad l=false→K (chH x ri.l s N p1 p2) m)→(bad l=true→Kl (chH x ri.l s N (.sl l.length (ints l)) (.int .i64 0)) m)→zv Tz.prog ri [.w o f (.sl l.length (ints l))] (chH x ri.l s N p1 p2) m K Kl):∀(r a:Nat)(l:List Int)(o f:Bool)(m:Nat)(K Kd:AV→ab→Nat→Prop),7≤m→l.length+r=s→a≤N→(∀j,j<l.length→0≤nth l j∧nth l j<(N:Int))→(fX bad N r a l=none→K (.w false false (.bool true)) (chH x ri.l s N p1 p2) m)→(∀q,fX bad N r a l=some q→∀m',m≤m'→Kd (.w false false (.bool false)) (chH x ri.l s N (.sl q.length (ints q)) (.int .i64 0)) m')→cS m ri Tz.prog (Tryz.f51.body.getD .skip) ⟨bP 0 ([.w false false (.int .i64 a),.w o f (.sl l.length (ints l))]++dD s N),chH x ri.l s N p1 p2,m,Tryz.f51.ntmps⟩ (cH Tz.prog Tryz.f51.results.toList K) (cH Tz.prog Tryz.f51.results.toList Kd)
 |0,a,l,o,f,m,K,Kd,hm,hl,ha,hr,hK,hKd=>by
  have h1:=fun K Kl=>hy l o f m K Kl hm (by omega) hr
  have hK2:bad l=false→K (.w false false (.bool true)) (chH x ri.l s N p1 p2) m:=fun e=>hK (by simp[fX,e])
  have hKd2:bad l=true→Kd (.w false false (.bool false)) (chH x ri.l s N (.sl l.length (ints l)) (.int .i64 0)) m:=fun e=>hKd l (by simp[fX,e]) m (Nat.le_refl _)
  have hls:(l.length:Int)=(s:Int):=by omega
  have kk:=keep (And.intro h1 (And.intro hK2 hKd2));clear hK hKd hy h1 hK2 hKd2 hr ha;have hb:Tryz.f51.body=some _:=rfl;rw[hb];clear hb;simp only[Option.getD_some,Tryz.ntmps51,Tryz.results51];refine eZ (dY ?_);unfold dD
  repeat' (first|(with_reducible first|refine af ?_|intro _)|(simp[*]))
  refine eZ (eZ (dY ?_))
  repeat' (first|(with_reducible first|refine af ?_|intro _)|(simp[*,hls]))
  refine qh (o:=false) (f:=false) (b:=true) rfl ?_;simp only[cond_true];refine eZ (Lm (id:=2) 2 (by decide) rfl rfl (by simp) ?_);simp;refine⟨⟨_,_,rfl⟩,?_⟩;refine kk.1 _ _ (fun e=>?_) (fun e=>?_)
  ·have h:=keep (kk.2.1 e);clear kk
   repeat' (first|(with_reducible first|intro _)|(simp[*]))
   refine dY ?_
   repeat' (first|(with_reducible first|refine aD ?_|intro _)|(simp[*]))
   simp[cj,dB,fj,oneOf];exact h
  ·have h:=keep (kk.2.2 e);clear kk
   repeat' (first|(with_reducible first|refine aD ?_|intro _)|(simp[*]))
   simp[cj,dB,fj,oneOf];exact h
 |r+1,a,l,o,f,m,K,Kd,hm,hl,ha,hr,hK,hKd=>by
  have ih:=fun(i:Nat)(hi:i<N)(o' f':Bool)(m':Nat)(K' Kd':AV→ab→Nat→Prop)(hm':7≤m')=>
   DT x bad N s hN hs p1 p2 ri hy r (i+1) (l++[(i:Int)]) o' f' m' K' Kd' hm' (by simp;omega) (by omega) (fun j hj=>by
    rcases Nat.lt_or_ge j l.length with h|h
    ·rw[Ls _ _ h];exact hr j h
    ·have:j=l.length:=by simp at hj;omega
     subst this
     rw[Lt];omega)
  rw[show fX bad N (r+1) a l=(List.range' a (N-a)).findSome? fun i=>fX bad N r (i+1) (l++[(i:Int)]) from rfl] at hK hKd;have hend:=Lr bad N r l;generalize hF:(fun i=>fX bad N r (i+1) (l++[(i:Int)]))=F at *
  have hih:∀(i:Nat)(hi:i<N)(o' f':Bool)(m':Nat)(K' Kd':AV→ab→Nat→Prop)(hm':7≤m'),(F i=none→K' (.w false false (.bool true)) (chH x ri.l s N p1 p2) m')→(∀q,F i=some q→∀m2,m'≤m2→Kd' (.w false false (.bool false)) (chH x ri.l s N (.sl q.length (ints q)) (.int .i64 0)) m2) →
   cS m' ri Tz.prog (Tryz.f51.body.getD .skip) ⟨bP 0 ([.w false false (.int .i64 ((i:Int)+1)),.w o' f' (.sl (l.length+1) (ints l++[.int .i64 i]))]++dD s N),chH x ri.l s N p1 p2,m',Tryz.f51.ntmps⟩ (cH Tz.prog Tryz.f51.results.toList K') (cH Tz.prog Tryz.f51.results.toList Kd'):=by
   intro i hi o' f' m' K' Kd' hm' h1 h2;have h:=ih i hi o' f' m' K' Kd' hm' (by rw[←hF] at h1;exact h1) (by rw[←hF] at h2;exact h2);rw[show ((i+1:Nat):Int)=(i:Int)+1 by omega,show (l++[(i:Int)]).length=l.length+1 by simp,show ints (l++[(i:Int)])=ints l++[.int .i64 i] by simp[ints]] at h;exact h
  clear ih hF
  have hnx:=fun i=>xZ F N i
  generalize hR:(List.range' a (N-a)).findSome? F=R at hK hKd
  have hls:¬(l.length:Int)=(s:Int):=by omega
  have hlb:l.length<1000:=by omega
  have m0:0<m:=by omega
  have m1:1<m:=by omega
  have m2:2<m:=by omega
  have m3:3<m:=by omega
  have m4:4<m:=by omega
  have m5:5<m:=by omega
  have m6:6<m:=by omega
  have kk:=keep (And.intro hih (And.intro hend (And.intro hnx (And.intro hK (And.intro hKd hR)))));clear hih hend hnx hK hKd hR hy hr;have hb:Tryz.f51.body=some _:=rfl;rw[hb];clear hb;simp only[Option.getD_some,Tryz.ntmps51,Tryz.results51];refine eZ (dY ?_);unfold dD
  repeat' (first|(with_reducible first|refine af ?_|intro _)|(simp[*]))
  refine eZ (eZ (dY ?_))
  repeat' (first|(with_reducible first|refine af ?_|intro _)|(simp[*,hls]))
  refine qh (o:=false) (f:=false) (b:=false) rfl ?_;simp only[cond_false];refine dY ?_
  repeat' (first|(with_reducible first|refine aB ?_|intro _)|(simp[*]))
  refine eZ (eZ (dY ?_))
  repeat' (first|(with_reducible first|refine af ?_|intro _)|(simp[*]))
  refine DO (Ll (fun i:Nat=>a≤i∧i≤N∧aR ((List.range' i (N-i)).findSome? F=R)) (fun i=>⟨[(9,.w false false (.int .i64 i)),(1,.w o f (.sl l.length (ints l))),(2,.w false false (.ip [.int .i64 s] 0)),(3,.ptr 5 1 0),(4,.w false false (.ip [.int .i64 N] 0)),(5,.ptr 6 1 0)],chH x ri.l s N p1 p2,m,37⟩) (fun i=>N-i) a ?_ ?_ (fun i hi=>?_))
  ·exact⟨Nat.le_refl _,ha,kk.2.2.2.2.2⟩
  ·clear kk;unfold chH dD Rd.pv
   refine aN [] ?_ ?_<;>first|trivial|(simp[m0,m1,m2,m3,m4,m5,m6];done)
  obtain⟨h1,h2,h3⟩:=hi;refine eZ (eZ (dY ?_));by_cases hlt:i<N
  ·have hltI:(i:Int)<(N:Int):=by omega
   have hi1:inI .i64 ((i:Int)+1):=aH (by omega) (by omega)
   repeat' (first|(with_reducible first|refine af ?_|intro _)|(simp[*,hltI]))
   refine qh (o:=false) (f:=false) (b:=true) rfl ?_;simp only[cond_true];refine dY ?_
   repeat' (first|(with_reducible first|refine aB ?_|intro _)|(simp[*]))
   refine eZ (DO (eZ (Lp (id:=6) 12 51 mixed (by decide +kernel) (by decide +kernel) Tz.func51 (by kernel_rfl) (show Tryz.f51.body=some (Tryz.f51.body.getD .skip) from rfl) rfl ?_)))
   repeat' (first|(with_reducible first|refine And.intro ?_ ?_|intro _)|(simp[*,hi1]))
   all_goals try first|exact hlb|omega
   refine DR (dD s N) rfl (Nat.le_of_ble_eq_true (by kernel_rfl)) (by simp) rfl ?_;refine DN (st':=⟨bP 0 ([.w false false (.int .i64 ((i:Int)+1)),.w false false (.sl (l.length+1) (ints l++[.int .i64 i]))]++dD s N),chH x ri.l s N p1 p2,m+1,Tryz.f51.ntmps⟩) ?_ ?_
   ·clear kk
    have n0:¬m=0:=by omega
    have q0:0<m+1:=by omega
    have n1:¬m=1:=by omega
    have q1:1<m+1:=by omega
    have n2:¬m=2:=by omega
    have q2:2<m+1:=by omega
    have n3:¬m=3:=by omega
    have q3:3<m+1:=by omega
    have n4:¬m=4:=by omega
    have q4:4<m+1:=by omega
    have n5:¬m=5:=by omega
    have q5:5<m+1:=by omega
    have n6:¬m=6:=by omega
    have q6:6<m+1:=by omega
    unfold chH dD Rd.pv
    refine aN [] ?_ ?_<;>first|trivial|(simp[n0,q0,n1,q1,n2,q2,n3,q3,n4,q4,n5,q5,n6,q6];done)
   refine kk.1 i hlt _ _ (m+1) _ _ (by omega) (fun e=>?_) (fun q e m2 hm2=>?_)
   ·have hj:=keep ((kk.2.2.1 i hlt).symm.trans h3);rw[e] at hj;have hj:aR (List.findSome? F (List.range' (i+1) (N-(i+1)))=R):=hj;clear kk
    repeat' (first|(with_reducible first|intro _)|(simp[*]))
    refine qh (o:=false) (f:=false) (b:=false) rfl ?_;simp only[cond_false];refine dY ?_
    repeat' (first|(with_reducible first|refine aB ?_|intro _)|(simp[*]))
    refine dY ?_
    repeat' (first|(with_reducible first|refine af ?_|intro _)|(simp[*]))
    refine pR _ _ _ _ _ (i+1) _ ⟨by omega,by omega,hj⟩ (by omega) ?_
    have n0:¬m=0:=by omega
    have q0:0<m+1:=by omega
    have n1:¬m=1:=by omega
    have q1:1<m+1:=by omega
    have n2:¬m=2:=by omega
    have q2:2<m+1:=by omega
    have n3:¬m=3:=by omega
    have q3:3<m+1:=by omega
    have n4:¬m=4:=by omega
    have q4:4<m+1:=by omega
    have n5:¬m=5:=by omega
    have q5:5<m+1:=by omega
    have n6:¬m=6:=by omega
    have q6:6<m+1:=by omega
    unfold chH dD Rd.pv
    refine aN [] ?_ ?_<;>first|trivial|(simp[m0,n0,q0,m1,n1,q1,m2,n2,q2,m3,n3,q3,m4,n4,q4,m5,n5,q5,m6,n6,q6];done)
   ·have hj:some q=R:=by have:=(kk.2.2.1 i hlt).symm.trans h3;rw[e] at this;exact this
    have h:=keep (kk.2.2.2.2.1 q hj.symm m2 (by omega));clear kk
    repeat' (first|(with_reducible first|refine aj ?_|refine aD ?_|refine af ?_|refine al ?_|intro _)|(simp[*]))
    simp[cj,dB,fj,oneOf];exact h
  ·have hie:i=N:=by omega
   subst hie
   have hltI:¬(i:Int)<(i:Int):=by omega
   repeat' (first|(with_reducible first|refine af ?_|intro _)|(simp[*,hltI]))
   have hj:none=R:=kk.2.1.symm.trans h3;have h:=keep (kk.2.2.2.1 hj.symm);clear kk;refine qh (o:=false) (f:=false) (b:=false) rfl ?_;simp only[cond_false];refine dY ?_
   repeat' (first|(with_reducible first|refine aY ?_|intro _)|(simp[*]))
   refine dY ?_
   repeat' (first|(with_reducible first|refine aj ?_|refine aD ?_|refine af ?_|intro _)|(simp[*]))
   simp[cj,dB,fj,oneOf];exact h
end Go.Proofs.YtmaaehaedfemaaaGreat
