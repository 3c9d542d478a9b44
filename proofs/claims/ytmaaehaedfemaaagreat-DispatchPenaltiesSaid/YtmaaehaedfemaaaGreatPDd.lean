/- Lemmas. -/
import Derived.Test.YtmaaehaedfemaaaGreatPDc
set_option linter.unusedSimpArgs false
set_option linter.unusedVariables false
set_option linter.unusedSectionVars false
set_option maxHeartbeats 32000000
set_option maxRecDepth 100000
namespace Go.Proofs.YtmaaehaedfemaaaGreat
open Go Go.Fi
variable[ak]
@[simp] theorem Wl:cf Tz.prog 105=some [.w false false .undef]:=by kernel_rfl
theorem La(x:Rd)(ok:eJ x)(most:Int):aF Tz.prog 28 [x.pv,.int .i64 most] (.tup [.sl x.os.length (ints (dM x most).1),.int .i64 (dM x most).2]) true:=by
 have hm:=xV x most
 have hw:=fun i (hi:i<x.os.length) (s:FS)=>DJ x ok most (x.ae.length+1) i s
 have eM:∀i,cD x most (i+1)=((dt x most (x.ae.length+1) i ((cD x most i).1,List.replicate x.ae.length false)).2.1,
  if (dt x most (x.ae.length+1) i ((cD x most i).1,List.replicate x.ae.length false)).1 then (cD x most i).2+1 else (cD x most i).2):=fun _=>rfl
 have e0:cD x most 0=(List.replicate x.ae.length (-1),0):=rfl;have eP:dM x most=(cL (cD x most x.os.length).1 x.os.length x.ae.length,(cD x most x.os.length).2):=rfl;rw[eP];generalize cD x most=M at *
 have e1:iA (M 0).1=iA (List.replicate x.ae.length (-1)):=by rw[e0]
 have e2:(M 0).2=0:=by rw[e0]
 have e3:(M 0).1=List.replicate x.ae.length (-1):=by rw[e0]
 have hlc:=ok.lc;have hlo:=ok.lo;have r1:=mU (-1) x.ae.length (by omega);have r2:=mU (-1) x.os.length (by omega);have kk:=keep (And.intro hm (And.intro hw (And.intro eM (And.intro hlc hlo))));clear hm hw eM e0 eP hlc hlo ok e1;unfold Rd.pv;refine rcK Tz.func28 ?_;simp only[Tryz.results28,Tryz.ntmps28]
 repeat' (first|(with_reducible first|refine aj ?_|refine af ?_|refine cwM (r1) ?_|intro _)|(simp[*]))
 clear r1;refine cM 6 (fun(i:Nat)=>i≤x.os.length) [2,6,7,27] (fun(i:Nat)=>[(28,.w false false (.int .i64 i)),(8,.w false false (.int .i64 (M i).2))]) [0,1,4,5] (fun(i:Nat)=>[(3,iA (M i).1)]) (fun(i:Nat)=>x.os.length-i) (fun(_u:Unit)=>True) [2,6] (fun(_u:Unit)=>[(8,.w false false (.int .i64 (M x.os.length).2))]) [0,4] (fun(_u:Unit)=>[(3,iA (M x.os.length).1)]) (0) (Nat.zero_le _) (aN [] (by simp[e2,e3]) (by simp[e2,e3])) (fun i hk=>?_) (fun _u hf=>?_)
 ·clear e2 e3 r2;by_cases hlt:i<x.os.length
  ·obtain⟨hm,hw,eM,hlc,hlo⟩:=kk;obtain⟨m1,m2,m3⟩:=hm i hk;have hs:=hw i hlt ((M i).1,List.replicate x.ae.length false);have eMi:=eM i
   have hun:bo (List.replicate x.ae.length false)<x.ae.length+1:=by rw[tB];omega
   have hih:=fun K=>hs K hlt m1 hun
   generalize dt x most (x.ae.length+1) i ((M i).1,List.replicate x.ae.length false)=RR at eMi hih;obtain⟨b,tk2,sn2⟩:=RR;dsimp only at eMi hih
   have a1:(M (i+1)).1=tk2:=by rw[eMi]
   have a2:(M (i+1)).2=if b=true then (M i).2+1 else (M i).2:=by rw[eMi]
   have hi1:inI .i64 ((i:Int)+1):=aH (by omega) (by omega);have hi2:inI .i64 ((M i).2+1):=aH (by omega) (by omega)
   have hz:i+1≤x.os.length:=by omega
   have hc9:(x.ae.length:Int)≤1000000000:=by omega
   have hci:inI .i64 (x.ae.length:Int):=aH (by omega) (by omega);unfold mH Rd.pv at hih;dsimp only at hih;rw[xW] at hih;have kih:=keep hih;clear hm hw eM hlc hlo m1 m2 m3 hs eMi hun hih
   repeat' (first|(with_reducible first|refine DI (id:=8) 9 47 mixed (by decide +kernel) (by decide +kernel) Tz.func47 (by kernel_rfl) (show Tryz.f47.body=some (Tryz.f47.body.getD .skip) from rfl) rfl ?_|refine aj ?_|refine aL ?_|refine aB ?_|refine af ?_|refine al ?_|intro _)|(simp[*,hlt,hc9,hci,hi1]))
   all_goals try first|omega|assumption
   refine DH iV rfl (Nat.le_of_ble_eq_true (by kernel_rfl)) (by simp) rfl ?_;refine kih _ ?_;clear kih
   cases b with
   |true=>
    simp only[if_true] at a2
    repeat' (first|(with_reducible first|refine af ?_|refine al ?_|intro _)|(simp[*,hi1,hi2]))
    all_goals first
     |omega
     |assumption
     |(refine nx (i+1) ?_ ?_;(· exact hz);(refine aN [] ?_ ?_<;>first|trivial|(simp[*,a1,a2,iV];done)))
   |false=>
    simp only[Bool.false_eq_true,if_false] at a2
    repeat' (first|(with_reducible first|refine aB ?_|refine af ?_|refine al ?_|intro _)|(simp[*,hi1,hi2]))
    all_goals first
     |omega
     |assumption
     |(refine nx (i+1) ?_ ?_;(· exact hz);(refine aN [] ?_ ?_<;>first|trivial|(simp[*,a1,a2,iV];done)))
  ·have hke:i=x.os.length:=by omega
   subst hke;clear kk
   repeat' (first|(with_reducible first|refine aj ?_|refine aY ?_|refine af ?_|refine al ?_|intro _)|(simp[*,hlt]))
   all_goals first
    |omega
    |(refine bl () ?_ ?_;(· trivial);(refine aG ?_ ?_<;>first|trivial|(simp[*];done)))
 ·clear e2 e3;obtain⟨hm,hw,eM,hlc,hlo⟩:=kk;obtain⟨m1,m2,m3⟩:=hm x.os.length (Nat.le_refl _);have hl1:(M x.os.length).1.length=x.ae.length:=m1.l1;have hrg:=m1.rg;have hci:inI .i64 (x.ae.length:Int):=aH (by omega) (by omega);clear hm hw eM m1 m2 m3;generalize M x.os.length=T at *;obtain⟨tk,cnt⟩:=T;dsimp only at hl1 hrg ⊢;have krg:=keep hrg;have ebd:=keep hlc;clear hrg hlo hlc;have eb:cL tk x.os.length 0=List.replicate x.os.length (-1):=rfl
  repeat' (first|(with_reducible first|refine aj ?_|refine af ?_|refine cwM (r2) ?_|intro _)|(simp[*,hl1]))
  clear r2;refine cM 8 (fun(k:Nat)=>k≤x.ae.length) [8,10,52,53] (fun(k:Nat)=>[(54,.w false false (.int .i64 k))]) [3] (fun(k:Nat)=>[(7,iA (cL tk x.os.length k))]) (fun(k:Nat)=>x.ae.length-k) (fun(_u:Unit)=>True) [8,10] (fun(_u:Unit)=>[]) [] (fun(_u:Unit)=>[(7,iA (cL tk x.os.length x.ae.length))]) (0) (Nat.zero_le _) (aN [] (by simp[eb]) (by simp[eb])) (fun k hk=>?_) (fun _u hf=>?_)
  ·clear eb;by_cases hlt:k<x.ae.length
   ·have hr:nth tk k=-1∨(0≤nth tk k∧nth tk k<(x.os.length:Int)):=krg k hlt
    have hkt:k<tk.length:=by omega
    have eS:cL tk x.os.length (k+1)=if 0≤nth tk k then (cL tk x.os.length k).set (nth tk k).toNat k else cL tk x.os.length k:=rfl
    have hpl:=iE tk x.os.length k;have hi1:inI .i64 ((k:Int)+1):=aH (by have:=ebd;unfold aR at this;omega) (by have:=ebd;unfold aR at this;omega)
    have hz:k+1≤x.ae.length:=by omega
    clear krg ebd
    rcases hr with hr|⟨hr1,hr2⟩
    ·rw[if_neg (by omega)] at eS
     repeat' (first|(with_reducible first|refine aj ?_|refine aL ?_|refine aB ?_|refine af ?_|refine al ?_|intro _)|(simp[*,hlt,hkt,hr,hl1,hi1]))
     all_goals first
      |omega
      |assumption
      |(refine nx (k+1) ?_ ?_;(· exact hz);(refine aG ?_ ?_<;>first|trivial|(simp[*,eS];done)))
    ·obtain⟨j,hj⟩:∃j:Nat,nth tk k=j:=⟨(nth tk k).toNat,by omega⟩;rw[if_pos hr1,hj] at eS;simp only[Int.toNat_natCast] at eS
     have hjo:j<x.os.length:=by omega
     have hj0:(0:Int)≤j:=by omega
     clear hr1 hr2
     repeat' (first|(with_reducible first|refine aj ?_|refine aL ?_|refine aB ?_|refine af ?_|refine al ?_|refine And.intro ?_ ?_|intro _)|(simp[*,hlt,hkt,hj,hl1,hi1,hjo,hpl,hj0]))
     all_goals first
      |omega
      |assumption
      |(refine nx (k+1) ?_ ?_;(· exact hz);(refine aG ?_ ?_<;>first|trivial|(simp[*,eS];done)))
   ·have hke:k=x.ae.length:=by omega
    have hkt:¬k<tk.length:=by omega
    subst hke
    repeat' (first|(with_reducible first|refine aj ?_|refine aY ?_|refine af ?_|refine al ?_|intro _)|(simp[*,hlt,hkt,hl1]))
    all_goals first
     |omega
     |(refine bl () ?_ ?_;(· trivial);(refine aG ?_ ?_<;>first|trivial|(simp[*];done)))
  ·clear eb;have hpl:=iE tk x.os.length x.ae.length
   repeat' (first|(with_reducible first|refine aj ?_|refine aD ?_|refine af ?_|intro _)|(simp[*,hpl]))
end Go.Proofs.YtmaaehaedfemaaaGreat
namespace Go.Proofs.YtmaaehaedfemaaaGreat
open Go Go.Fi
structure ScS where
 sl:List Int
 ah:List Int
 least:Int
 next:Int
def nvS(C:Nat→Nat→Int)(u v:List Int)(i j:Nat):Int:=C i j-nth u i-nth v j
def aT(C:Nat→Nat→Int)(u v:List Int)(sn:List Bool)(i:Nat)(at_:Int)(sl ah:List Int):Nat→ScS
 |0=>⟨sl,ah,10000000000000000,-1⟩
 |k+1=>
  let s:=aT C u v sn i at_ sl ah k
  if nth sn k then s
  else
   let s1:ScS:=if nvS C u v i k<nth s.sl k then ⟨s.sl.set k (nvS C u v i k),s.ah.set k at_,s.least,s.next⟩ else s
   if nth s1.sl k<s1.least then ⟨s1.sl,s1.ah,nth s1.sl k,k⟩ else s1
def b7(sn:List Bool)(ow:List Int)(d:Int)(u v sl:List Int):Nat→List Int×List Int×List Int
 |0=>(u,v,sl)
 |k+1=>
  let s:=b7 sn ow d u v sl k
  if nth sn k then (s.1.set (nth ow k).toNat (nth s.1 (nth ow k).toNat+d),s.2.1.set k (nth s.2.1 k-d),s.2.2)
  else (s.1,s.2.1,s.2.2.set k (nth s.2.2 k-d))
structure Ws where
 u:List Int
 v:List Int
 sl:List Int
 ah:List Int
 sn:List Bool
 at_:Int
 i:Nat
def aS(C:Nat→Nat→Int)(m:Nat)(w:Ws):ScS:=aT C w.u w.v w.sn w.i w.at_ w.sl w.ah m
def gG(C:Nat→Nat→Int)(m:Nat)(ow:List Int)(row:Nat)(w:Ws):List Int×List Int×List Int:=
 b7 w.sn ow (aS C m w).least (w.u.set row (nth w.u row+(aS C m w).least)) w.v (aS C m w).sl m
def cn(C:Nat→Nat→Int)(m:Nat)(ow:List Int)(row:Nat)(w:Ws):Ws:=
 ⟨(gG C m ow row w).1,(gG C m ow row w).2.1,(gG C m ow row w).2.2,(aS C m w).ah,w.sn.set (aS C m w).next.toNat true,(aS C m w).next,(nth ow (aS C m w).next.toNat).toNat⟩
def iW(C:Nat→Nat→Int)(m:Nat)(ow:List Int)(row:Nat):Nat→Ws→Ws
 |0,w=>w
 |f+1,w=>if nth ow (aS C m w).next.toNat<0 then cn C m ow row w else iW C m ow row f (cn C m ow row w)
def dN(ah:List Int)(row:Nat):Nat→Int→List Int→List Int
 |0,_,ow=>ow
 |f+1,at_,ow=>if at_<0 then ow else dN ah row f (nth ah at_.toNat) (ow.set at_.toNat (if nth ah at_.toNat<0 then (row:Int) else nth ow (nth ah at_.toNat).toNat))
structure Hs where
 u:List Int
 v:List Int
 ow:List Int
def ws0(m:Nat)(s:Hs)(row:Nat):Ws:=⟨s.u,s.v,List.replicate m 10000000000000000,List.replicate m (-1),List.replicate m false,-1,row⟩
def iq(C:Nat→Nat→Int)(m:Nat)(s:Hs)(row:Nat):Ws:=iW C m s.ow row (m+1) (ws0 m s row)
def jH(C:Nat→Nat→Int)(m:Nat)(s:Hs)(row:Nat):Hs:=
 ⟨(iq C m s row).u,(iq C m s row).v,dN (iq C m s row).ah row (m+1) (iq C m s row).at_ s.ow⟩
def ir(C:Nat→Nat→Int)(n m:Nat):Nat→Hs
 |0=>⟨List.replicate n 0,List.replicate m 0,List.replicate m (-1)⟩
 |r+1=>jH C m (ir C n m r) r
structure cO(C:Nat→Nat→Int)(u v:List Int)(sn:List Bool)(i:Nat)(at_:Int)(sl ah:List Int)(k:Nat)(s:ScS):Prop where
 l1:s.sl.length=sl.length
 l2:s.ah.length=ah.length
 esl:∀j,nth s.sl j=if j<k∧nth sn j=false∧nvS C u v i j<nth sl j then nvS C u v i j else nth sl j
 eah:∀j,nth s.ah j=if j<k∧nth sn j=false∧nvS C u v i j<nth sl j then at_ else nth ah j
 lo:∀j,j<k→nth sn j=false→s.least≤nth s.sl j
 nx:(s.next=-1∧s.least=10000000000000000)∨(0≤s.next∧s.next<(k:Int)∧nth sn s.next.toNat=false∧s.least=nth s.sl s.next.toNat)
theorem ye(C:Nat→Nat→Int)(u v:List Int)(sn:List Bool)(i:Nat)(at_:Int)(sl ah:List Int)(hl:ah.length=sl.length):∀k,k≤sl.length→cO C u v sn i at_ sl ah k (aT C u v sn i at_ sl ah k)
 |0,_=>⟨rfl,rfl,fun j=>by rw[if_neg (by omega)];rfl,fun j=>by rw[if_neg (by omega)];rfl,fun j h=>absurd h (by omega),.inl ⟨rfl,rfl⟩⟩
 |k+1,hk=>by
  have ih:=ye C u v sn i at_ sl ah hl k (by omega);unfold aT;generalize aT C u v sn i at_ sl ah k=s at ih ⊢;dsimp only
  have hsk:nth s.sl k=nth sl k:=by rw[ih.esl,if_neg (by omega)]
  cases hsn:nth sn k with
  |true=>
   simp only[if_true]
   have e:∀(j:Nat)(p:Prop),(j<k+1∧nth sn j=false∧p)↔(j<k∧nth sn j=false∧p):=fun j p=>by
    constructor
    ·rintro⟨h1,h2,h3⟩
     refine⟨?_,h2,h3⟩
     rcases Nat.lt_succ_iff_lt_or_eq.1 h1 with h|rfl
     ·exact h
     ·rw[hsn] at h2;cases h2
    ·rintro⟨h1,h2,h3⟩;exact⟨by omega,h2,h3⟩
   refine⟨ih.l1,ih.l2,fun j=>?_,fun j=>?_,fun j hj hn=>?_,?_⟩
   ·rw[ih.esl];simp only[e]
   ·rw[ih.eah];simp only[e]
   ·refine ih.lo j ?_ hn
    rcases Nat.lt_succ_iff_lt_or_eq.1 hj with h|rfl
    ·exact h
    ·rw[hsn] at hn;cases hn
   ·rcases ih.nx with h|⟨h1,h2,h3⟩
    ·exact .inl h
    ·exact .inr ⟨h1,by omega,h3⟩
  |false=>
   simp only[Bool.false_eq_true,if_false]
   have hks:k<s.sl.length:=by rw[ih.l1];omega
   have hka:k<s.ah.length:=by rw[ih.l2];omega
   have key:∀s1:ScS,s1=(if nvS C u v i k<nth s.sl k then (⟨s.sl.set k (nvS C u v i k),s.ah.set k at_,s.least,s.next⟩:ScS) else s) →
    (s1.sl.length=sl.length∧s1.ah.length=ah.length∧(∀j,nth s1.sl j=if j<k+1∧nth sn j=false∧nvS C u v i j<nth sl j then nvS C u v i j else nth sl j) ∧
      (∀j,nth s1.ah j=if j<k+1∧nth sn j=false∧nvS C u v i j<nth sl j then at_ else nth ah j)∧s1.least=s.least∧s1.next=s.next∧(∀j,j≠k→nth s1.sl j=nth s.sl j)):=by
    intro s1 hs1
    have e:∀(j:Nat)(p:Prop),j≠k→((j<k+1∧nth sn j=false∧p)↔(j<k∧nth sn j=false∧p)):=fun j p hne=>by
     constructor
     ·rintro⟨h1,h2,h3⟩;exact⟨by omega,h2,h3⟩
     ·rintro⟨h1,h2,h3⟩;exact⟨by omega,h2,h3⟩
    by_cases hlt:nvS C u v i k<nth s.sl k
    ·rw[if_pos hlt] at hs1;subst hs1;refine⟨by simpa using ih.l1,by simpa using ih.l2,fun j=>?_,fun j=>?_,rfl,rfl,fun j hj=>?_⟩
     ·dsimp only;rw[dH _ _ _ _ hks];split
      ·rename_i hkj;subst hkj;rw[if_pos ⟨by omega,hsn,by rw[←hsk];exact hlt⟩]
      ·rename_i hkj;rw[ih.esl];simp only[e j _ (Ne.symm hkj)]
     ·dsimp only;rw[dH _ _ _ _ hka];split
      ·rename_i hkj;subst hkj;rw[if_pos ⟨by omega,hsn,by rw[←hsk];exact hlt⟩]
      ·rename_i hkj;rw[ih.eah];simp only[e j _ (Ne.symm hkj)]
     ·dsimp only;rw[dH _ _ _ _ hks,if_neg (Ne.symm hj)]
    ·rw[if_neg hlt] at hs1;subst hs1;refine⟨ih.l1,ih.l2,fun j=>?_,fun j=>?_,rfl,rfl,fun j _=>rfl⟩
     ·by_cases hkj:j=k
      ·subst hkj;rw[ih.esl,if_neg (by omega),if_neg]
       rintro⟨_,_,h3⟩;rw[hsk] at hlt;exact hlt h3
      ·rw[ih.esl];simp only[e j _ hkj]
     ·by_cases hkj:j=k
      ·subst hkj;rw[ih.eah,if_neg (by omega),if_neg]
       rintro⟨_,_,h3⟩;rw[hsk] at hlt;exact hlt h3
      ·rw[ih.eah];simp only[e j _ hkj]
   obtain⟨k1,k2,k3,k4,k5,k6,k7⟩:=key _ rfl;generalize (if nvS C u v i k<nth s.sl k then (⟨s.sl.set k (nvS C u v i k),s.ah.set k at_,s.least,s.next⟩:ScS) else s)=s1 at *;by_cases hl2:nth s1.sl k<s1.least
   ·rw[if_pos hl2];refine⟨k1,k2,k3,k4,fun j hj hn=>?_,.inr ⟨by dsimp only;omega,by dsimp only;omega,by simpa using hsn,by simp⟩⟩;dsimp only
    rcases Nat.lt_succ_iff_lt_or_eq.1 hj with h|rfl
    ·have:=ih.lo j h hn;rw[k7 j (by omega)];omega
    ·exact Int.le_refl _
   ·rw[if_neg hl2];refine⟨k1,k2,k3,k4,fun j hj hn=>?_,?_⟩
    ·rcases Nat.lt_succ_iff_lt_or_eq.1 hj with h|rfl
     ·rw[k7 j (by omega),k5];exact ih.lo j h hn
     ·omega
    ·rw[k5,k6]
     rcases ih.nx with h|⟨h1,h2,h3,h4⟩
     ·exact .inl h
     ·refine .inr ⟨h1,by omega,h3,?_⟩;rw[k7 _ (by omega)];exact h4
structure FH(sn:List Bool)(ow:List Int)(d:Int)(u v sl:List Int)(k:Nat)(t:List Int×List Int×List Int):Prop where
 l1:t.1.length=u.length
 l2:t.2.1.length=v.length
 l3:t.2.2.length=sl.length
 ut:∀l:Nat,(∃j,j<k∧nth sn j=true∧nth ow j=(l:Int))→nth t.1 l=nth u l+d
 uf:∀l:Nat,(¬∃j,j<k∧nth sn j=true∧nth ow j=(l:Int))→nth t.1 l=nth u l
 ev:∀j,nth t.2.1 j=if j<k∧nth sn j=true then nth v j-d else nth v j
 esl:∀j,nth t.2.2 j=if j<k∧nth sn j=false then nth sl j-d else nth sl j
theorem yf(sn:List Bool)(ow:List Int)(d:Int)(u v sl:List Int)(hlv:sl.length=v.length)(how:∀j,j<v.length→nth sn j=true→0≤nth ow j∧nth ow j<(u.length:Int))(cg:∀j k,j<v.length→k<v.length→0≤nth ow j→nth ow j=nth ow k→j=k):∀k,k≤v.length→FH sn ow d u v sl k (b7 sn ow d u v sl k)
 |0,_=>⟨rfl,rfl,rfl,fun l ⟨j,h,_⟩=>absurd h (by omega),fun l _=>rfl,fun j=>by rw[if_neg (by omega)];rfl,fun j=>by rw[if_neg (by omega)];rfl⟩
 |k+1,hk=>by
  have ih:=yf sn ow d u v sl hlv how cg k (by omega);unfold b7;generalize b7 sn ow d u v sl k=s at ih ⊢;dsimp only
  cases hsn:nth sn k with
  |true=>
   simp only[if_true];obtain⟨h1,h2⟩:=how k (by omega) hsn
   have hu:(nth ow k).toNat<s.1.length:=by rw[ih.l1];omega
   have hnot:¬∃j,j<k∧nth sn j=true∧nth ow j=((nth ow k).toNat:Int):=by
    rintro⟨j,hj,hs,he⟩
    have:nth ow j=nth ow k:=by omega
    have:=cg j k (by omega) (by omega) (how j (by omega) hs).1 this;omega
   refine⟨by simpa using ih.l1,by simpa using ih.l2,ih.l3,fun l hl=>?_,fun l hl=>?_,fun j=>?_,fun j=>?_⟩
   ·dsimp only;rw[dH _ _ _ _ hu];split
    ·rename_i e;subst e;rw[ih.uf _ hnot]
    ·rename_i e;refine ih.ut l ?_;obtain⟨j,hj,hs,he⟩:=hl
     rcases Nat.lt_succ_iff_lt_or_eq.1 hj with h|h
     ·exact⟨j,h,hs,he⟩
     ·subst h;exact absurd (show (nth ow j).toNat=l by omega) e
   ·dsimp only;rw[dH _ _ _ _ hu,if_neg]
    ·exact ih.uf l fun ⟨j,hj,hs,he⟩=>hl ⟨j,by omega,hs,he⟩
    ·intro e;exact hl ⟨k,by omega,hsn,by omega⟩
   ·dsimp only;rw[dH _ _ _ _ (by rw[ih.l2];omega)];by_cases e:k=j
    ·subst e;rw[if_pos rfl,ih.ev,if_neg (by omega),if_pos ⟨by omega,hsn⟩]
    ·rw[if_neg e,ih.ev j];by_cases hj:j<k∧nth sn j=true
     ·rw[if_pos hj,if_pos ⟨by omega,hj.2⟩]
     ·rw[if_neg hj,if_neg]
      rintro⟨a,b⟩;exact hj ⟨by omega,b⟩
   ·dsimp only;rw[ih.esl j];by_cases hj:j<k∧nth sn j=false
    ·rw[if_pos hj,if_pos ⟨by omega,hj.2⟩]
    ·rw[if_neg hj,if_neg]
     rintro⟨a,b⟩
     refine hj ⟨?_,b⟩
     rcases Nat.lt_succ_iff_lt_or_eq.1 a with h|rfl
     ·exact h
     ·rw[hsn] at b;cases b
  |false=>
   simp only[Bool.false_eq_true,if_false];refine⟨ih.l1,ih.l2,by simpa using ih.l3,fun l hl=>?_,fun l hl=>?_,fun j=>?_,fun j=>?_⟩
   ·refine ih.ut l ?_;obtain⟨j,hj,hs,he⟩:=hl
    rcases Nat.lt_succ_iff_lt_or_eq.1 hj with h|rfl
    ·exact⟨j,h,hs,he⟩
    ·rw[hsn] at hs;cases hs
   ·exact ih.uf l fun ⟨j,hj,hs,he⟩=>hl ⟨j,by omega,hs,he⟩
   ·dsimp only;rw[ih.ev j];by_cases hj:j<k∧nth sn j=true
    ·rw[if_pos hj,if_pos ⟨by omega,hj.2⟩]
    ·rw[if_neg hj,if_neg]
     rintro⟨a,b⟩
     refine hj ⟨?_,b⟩
     rcases Nat.lt_succ_iff_lt_or_eq.1 a with h|rfl
     ·exact h
     ·rw[hsn] at b;cases b
   ·dsimp only;rw[dH _ _ _ _ (by rw[ih.l3];omega)];by_cases e:k=j
    ·subst e;rw[if_pos rfl,ih.esl,if_neg (by omega),if_pos ⟨by omega,hsn⟩]
    ·rw[if_neg e,ih.esl j];by_cases hj:j<k∧nth sn j=false
     ·rw[if_pos hj,if_pos ⟨by omega,hj.2⟩]
     ·rw[if_neg hj,if_neg]
      rintro⟨a,b⟩;exact hj ⟨by omega,b⟩
structure Hp(C:Nat→Nat→Int)(n c:Nat):Prop where
 nn:n≤8
 cc:c≤8
 pr:∀i,i<n→0≤C i (c+i)∧C i (c+i)≤1000000000000
 ot:∀i l,i<n→l<n→l≠i→C i (c+l)=1000000000000000
 cr:∀i j,i<n→j<c→C i j=1000000000000000∨(0≤C i j∧C i j≤1000000000000)
theorem Hp.bd{C:Nat→Nat→Int}{n c:Nat}(h:Hp C n c){i j:Nat}(hi:i<n)(hj:j<c+n):0≤C i j∧C i j≤1000000000000000:=by
 by_cases hc:j<c
 ·rcases h.cr i j hi hc with h|h<;>omega
 ·obtain⟨l,rfl⟩:∃l,j=c+l:=⟨j-c,by omega⟩;by_cases hl:l=i
  ·subst hl;have:=h.pr l hi;omega
  ·rw[h.ot i l hi (by omega) hl];omega
theorem Hp.real{C:Nat→Nat→Int}{n c:Nat}(h:Hp C n c){i j:Nat}(hi:i<n)(hj:j<c+n)(hb:C i j<1000000000000000):j<c∨j=c+i:=by
 by_cases hc:j<c
 ·exact .inl hc
 ·obtain⟨l,rfl⟩:∃l,j=c+l:=⟨j-c,by omega⟩;by_cases hl:l=i
  ·exact .inr (by omega)
  ·rw[h.ot i l hi (by omega) hl] at hb;omega
structure MI(C:Nat→Nat→Int)(n c r:Nat)(u v ow:List Int):Prop where
 lu:u.length=n
 lv:v.length=c+n
 lo:ow.length=c+n
 hu:∀l,l<n→0≤nth u l
 hv:∀j,j<c+n→nth v j≤0
 hvz:∀j,j<c+n→nth ow j=-1→nth v j=0
 hvp:∀l,l<n→nth v (c+l)=0
 hf:∀l j,l<n→j<c+n→nth u l+nth v j≤C l j
 how:∀j,j<c+n→nth ow j=-1∨(0≤nth ow j∧nth ow j<(r:Int))
 cg:∀j k,j<c+n→k<c+n→0≤nth ow j→nth ow j=nth ow k→j=k
 ht:∀j,j<c+n→0≤nth ow j→nth u (nth ow j).toNat+nth v j=C (nth ow j).toNat j
 qP:∀l,l<r→∃j,j<c+n∧nth ow j=(l:Int)
section
variable{C:Nat→Nat→Int}{n c row:Nat}{u v ow:List Int}
theorem MI.ub(m:MI C n c row u v ow)(h:Hp C n c){l:Nat}(hl:l<n):nth u l≤1000000000000:=by
 have h1:=m.hf l (c+l) hl (by omega);have h2:=m.hvp l hl;have h3:=h.pr l hl;omega
theorem MI.vb(m:MI C n c row u v ow)(h:Hp C n c)(hr:row≤n){j:Nat}(hj:j<c+n):-1000000000000≤nth v j:=by
 rcases m.how j hj with h1|⟨h1,h2⟩
 ·rw[m.hvz j hj h1];omega
 ·have h3:=m.ht j hj h1;have h4:=m.ub h (l:=(nth ow j).toNat) (by omega);have h5:=(h.bd (i:=(nth ow j).toNat) (j:=j) (by omega) hj).1;omega
theorem MI.own(m:MI C n c row u v ow)(h:Hp C n c)(hr:row≤n){j:Nat}(hj:j<c+n)(ho:0≤nth ow j):j<c∨j=c+(nth ow j).toNat:=by
 rcases m.how j hj with h1|⟨_,h2⟩
 ·omega
 ·refine h.real (by omega) hj ?_;have h3:=m.ht j hj ho;have h4:=m.ub h (l:=(nth ow j).toNat) (by omega);have h5:=m.hv j hj;omega
end
def Tv(m row:Nat)(ow:List Int)(w:Ws)(l:Nat):Prop:=l=row∨∃j,j<m∧nth w.sn j=true∧nth ow j=(l:Int)
def Via(m row:Nat)(ow:List Int)(w:Ws)(j:Nat)(p:Nat→Prop):Prop:=
 (nth w.ah j=-1∧p row)∨(0≤nth w.ah j∧nth w.ah j<(m:Int)∧nth w.sn (nth w.ah j).toNat=true∧p (nth ow (nth w.ah j).toNat).toNat)
structure GI(C:Nat→Nat→Int)(n c row:Nat)(ow:List Int)(w:Ws):Prop where
 mi:MI C n c row w.u w.v ow
 ls:w.sl.length=c+n
 la:w.ah.length=c+n
 ln:w.sn.length=c+n
 hs:∀j,j<c+n→nth w.sn j=true→0≤nth ow j∧j<c
 hat:(w.at_=-1∧w.i=row∧∀j,j<c+n→nth w.sn j=false)∨(0≤w.at_∧w.at_<((c+n:Nat):Int)∧nth w.sn w.at_.toNat=true∧nth ow w.at_.toNat=(w.i:Int))
 h1:∀j,j<c+n→nth w.sn j=false→∀l,Tv (c+n) row ow w l→l≠w.i→nth w.sl j≤C l j-nth w.u l-nth w.v j
 h2:∀j,j<c+n→nth w.sn j=false→(nth w.sl j=10000000000000000∧w.at_=-1)∨Via (c+n) row ow w j fun l=>nth w.sl j=C l j-nth w.u l-nth w.v j
 pth:∀j,j<c+n→nth w.sn j=true→Via (c+n) row ow w j fun l=>nth w.u l+nth w.v j=C l j
 rk:∃rk:Nat→Nat,(∀j,j<c+n→nth w.sn j=true→rk j+bo w.sn<c+n)∧∀j,j<c+n→nth w.sn j=true→0≤nth w.ah j→rk (nth w.ah j).toNat<rk j
theorem GI.ib{C:Nat→Nat→Int}{n c row:Nat}{ow:List Int}{w:Ws}(g:GI C n c row ow w)(hr:row<n):w.i<n:=by
 rcases g.hat with ⟨_,h,_⟩|⟨h1,h2,h3,h4⟩
 ·omega
 ·rcases g.mi.how w.at_.toNat (by omega) with h|h<;>omega
theorem GI.tvi{C:Nat→Nat→Int}{n c row:Nat}{ow:List Int}{w:Ws}(g:GI C n c row ow w):Tv (c+n) row ow w w.i:=by
 rcases g.hat with ⟨_,h,_⟩|⟨h1,h2,h3,h4⟩
 ·exact .inl h
 ·exact .inr ⟨_,by omega,h3,h4⟩
theorem GI.tvn{C:Nat→Nat→Int}{n c row:Nat}{ow:List Int}{w:Ws}(g:GI C n c row ow w)(hr:row<n){l:Nat}(h:Tv (c+n) row ow w l):l<n:=by
 rcases h with rfl|⟨j,h1,h2,h3⟩
 ·exact hr
 ·rcases g.mi.how j h1 with h|h<;>omega
structure zF(C:Nat→Nat→Int)(n c row:Nat)(ow:List Int)(w:Ws)(s:ScS):Prop where
 ok:cO C w.u w.v w.sn w.i w.at_ w.sl w.ah (c+n) s
 nx0:0≤s.next
 nx1:s.next<((c+n:Nat):Int)
 nx2:nth w.sn s.next.toNat=false
 d0:0≤s.least
 d1:s.least≤1000000000000
 dn:s.least=nth s.sl s.next.toNat
 lo:∀j,j<c+n→nth w.sn j=false→∀l,Tv (c+n) row ow w l→nth s.sl j≤C l j-nth w.u l-nth w.v j
 via:∀j,j<c+n→nth w.sn j=false→(nth s.ah j=-1∧nth s.sl j=C row j-nth w.u row-nth w.v j)∨(0≤nth s.ah j∧nth s.ah j<((c+n:Nat):Int)∧nth w.sn (nth s.ah j).toNat=true∧nth s.sl j=C (nth ow (nth s.ah j).toNat).toNat j-nth w.u (nth ow (nth s.ah j).toNat).toNat-nth w.v j)
 old:∀j,nth w.sn j=true→nth s.ah j=nth w.ah j
 car:s.next.toNat<c∨nth ow s.next.toNat=-1
theorem qj{C:Nat→Nat→Int}{n c row:Nat}{ow:List Int}{w:Ws}(hp:Hp C n c)(hr:row<n)(g:GI C n c row ow w):zF C n c row ow w (aS C (c+n) w):=by
 have ok:=ye C w.u w.v w.sn w.i w.at_ w.sl w.ah (by rw[g.la,g.ls]) (c+n) (by rw[g.ls];omega);have hi:=g.ib hr;show zF C n c row ow w (aT C w.u w.v w.sn w.i w.at_ w.sl w.ah (c+n));generalize aT C w.u w.v w.sn w.i w.at_ w.sl w.ah (c+n)=s at ok ⊢
 have lo:∀j,j<c+n→nth w.sn j=false→∀l,Tv (c+n) row ow w l→nth s.sl j≤C l j-nth w.u l-nth w.v j:=fun j hj hn l hl=>by
  have e:=ok.esl j;by_cases hli:l=w.i
  ·subst hli;by_cases hlt:nvS C w.u w.v w.i j<nth w.sl j
   ·rw[if_pos ⟨hj,hn,hlt⟩] at e;unfold nvS at e;omega
   ·rw[if_neg (fun h=>hlt h.2.2)] at e;unfold nvS at hlt;omega
  ·have:=g.h1 j hj hn l hl hli;split at e
   ·rename_i h;have:=h.2.2;omega
   ·omega
 have nvb:∀j,j<c+n→nvS C w.u w.v w.i j<10000000000000000:=fun j hj=>by
  have h1:=(hp.bd hi hj).2;have h2:=g.mi.hu w.i hi;have h3:=g.mi.vb hp (by omega) hj;unfold nvS;omega
 have via:∀j,j<c+n→nth w.sn j=false→(nth s.ah j=-1∧nth s.sl j=C row j-nth w.u row-nth w.v j)∨(0≤nth s.ah j∧nth s.ah j<((c+n:Nat):Int)∧nth w.sn (nth s.ah j).toNat=true∧nth s.sl j=C (nth ow (nth s.ah j).toNat).toNat j-nth w.u (nth ow (nth s.ah j).toNat).toNat-nth w.v j):=fun j hj hn=>by
  have e1:=ok.esl j;have e2:=ok.eah j;by_cases hlt:nvS C w.u w.v w.i j<nth w.sl j
  ·rw[if_pos ⟨hj,hn,hlt⟩] at e1 e2;unfold nvS at e1;rw[e1,e2]
   rcases g.hat with ⟨h1,h2,_⟩|⟨h1,h2,h3,h4⟩
   ·left;rw[h1,h2];exact⟨rfl,rfl⟩
   ·right;refine⟨h1,h2,h3,?_⟩;rw[h4];rfl
  ·rw[if_neg (fun h=>hlt h.2.2)] at e1 e2;rw[e1,e2]
   rcases g.h2 j hj hn with ⟨h1,_⟩|h
   ·exact absurd (by rw[h1];exact nvb j hj) hlt
   ·exact h
 have own:nth w.sn (c+w.i)=false:=by
  cases h:nth w.sn (c+w.i) with
  |false=>rfl
  |true=>have:=(g.hs _ (by omega) h).2;omega
 have hown:nth s.sl (c+w.i)≤1000000000000:=by
  have h1:=lo (c+w.i) (by omega) own w.i g.tvi;have h2:=hp.pr w.i hi;have h3:=g.mi.hu w.i hi;have h4:=g.mi.hvp w.i hi;omega
 have hd1:s.least≤1000000000000:=Int.le_trans (ok.lo (c+w.i) (by omega) own) hown;obtain⟨n0,n1,n2,n3⟩:=ok.nx.resolve_left (fun h=>by have:=h.2;omega)
 have hlt:s.next.toNat<c+n:=by omega
 have hvi:=via _ hlt n2
 have hvl:∃l,Tv (c+n) row ow w l∧nth s.sl s.next.toNat=C l s.next.toNat-nth w.u l-nth w.v s.next.toNat:=by
  rcases hvi with ⟨_,h⟩|⟨h1,h2,h3,h4⟩
  ·exact⟨row,.inl rfl,h⟩
  ·have:=(g.hs _ (by omega) h3).1;exact⟨_,.inr ⟨(nth s.ah s.next.toNat).toNat,by omega,h3,by omega⟩,h4⟩
 obtain⟨l,hl,he⟩:=hvl;have hln:=g.tvn hr hl;have hfe:=g.mi.hf l _ hln hlt;have hub:=g.mi.ub hp hln;have hvn:=g.mi.hv _ hlt;refine⟨ok,n0,n1,n2,by omega,hd1,n3,lo,via,fun j hj=>?_,?_⟩
 ·rw[ok.eah,if_neg]
  rintro⟨_,h,_⟩;rw[hj] at h;cases h
 ·rcases hp.real hln hlt (by omega) with h|h
  ·exact .inl h
  ·right
   rcases g.mi.how _ hlt with h1|⟨h1,h2⟩
   ·exact h1
   ·exfalso
    rcases g.mi.own hp (by omega) hlt h1 with h3|h3
    ·omega
    ·have h4:(nth ow s.next.toNat).toNat=l:=by omega
     rcases hl with rfl|⟨j,hj1,hj2,hj3⟩
     ·omega
     ·have:=g.mi.cg _ _ hlt hj1 h1 (by omega);rw[this] at n2;rw[n2] at hj2;cases hj2
structure qQ(C:Nat→Nat→Int)(n c row:Nat)(ow:List Int)(w:Ws):Prop where
 mi:MI C n c row w.u w.v ow
 la:w.ah.length=c+n
 a0:0≤w.at_
 a1:w.at_<((c+n:Nat):Int)
 a2:nth ow w.at_.toNat=-1
 a3:nth w.sn w.at_.toNat=true
 hs:∀j,j<c+n→nth w.sn j=true→(j:Int)≠w.at_→0≤nth ow j
 pth:∀j,j<c+n→nth w.sn j=true→Via (c+n) row ow w j fun l=>nth w.u l+nth w.v j=C l j
 rk:∃rk:Nat→Nat,(∀j,j<c+n→nth w.sn j=true→rk j<c+n)∧(∀j,j<c+n→nth w.sn j=true→0≤nth w.ah j→rk (nth w.ah j).toNat<rk j)∧∀j,j<c+n→nth w.sn j=true→rk j≤rk w.at_.toNat
section
variable{C:Nat→Nat→Int}{n c row:Nat}{ow:List Int}{w:Ws}
structure Pn(C:Nat→Nat→Int)(n c row:Nat)(ow:List Int)(w:Ws)(s:ScS)(t:List Int×List Int×List Int):Prop where
 l1:t.1.length=n
 l2:t.2.1.length=c+n
 l3:t.2.2.length=c+n
 uT:∀l,Tv (c+n) row ow w l→nth t.1 l=nth w.u l+s.least
 uF:∀l,¬Tv (c+n) row ow w l→nth t.1 l=nth w.u l
 vT:∀j,j<c+n→nth w.sn j=true→nth t.2.1 j=nth w.v j-s.least
 vF:∀j,nth w.sn j=false→nth t.2.1 j=nth w.v j
 sF:∀j,j<c+n→nth w.sn j=false→nth t.2.2 j=nth s.sl j-s.least
theorem yg(hr:row<n)(g:GI C n c row ow w)(hs:zF C n c row ow w (aS C (c+n) w)):Pn C n c row ow w (aS C (c+n) w) (gG C (c+n) ow row w):=by
 unfold gG;generalize aS C (c+n) w=s at hs ⊢
 have hsl:s.sl.length=c+n:=by rw[hs.ok.l1,g.ls]
 have hru:row<w.u.length:=by rw[g.mi.lu];exact hr
 have ok:=yf w.sn ow s.least (w.u.set row (nth w.u row+s.least)) w.v s.sl (by rw[hsl,g.mi.lv]) (fun j hj hn=>by
  rw[g.mi.lv] at hj;have h1:=(g.hs j hj hn).1;rw[List.length_set,g.mi.lu]
  rcases g.mi.how j hj with h|h<;>omega) (fun j k hj hk h0 he=>g.mi.cg j k (by rw[←g.mi.lv];exact hj) (by rw[←g.mi.lv];exact hk) h0 he) (c+n) (by rw[g.mi.lv];omega)
 generalize b7 w.sn ow s.least (w.u.set row (nth w.u row+s.least)) w.v s.sl (c+n)=t at ok ⊢
 have hnr:¬∃j,j<c+n∧nth w.sn j=true∧nth ow j=(row:Int):=by
  rintro⟨j,hj,_,he⟩
  rcases g.mi.how j hj with h|h<;>omega
 refine⟨by rw[ok.l1,List.length_set,g.mi.lu],by rw[ok.l2,g.mi.lv],by rw[ok.l3,hsl],fun l hl=>?_,fun l hl=>?_,fun j hj hn=>?_,fun j hn=>?_,fun j hj hn=>?_⟩
 ·by_cases hlr:l=row
  ·subst hlr;rw[ok.uf _ hnr,dH _ _ _ _ hru,if_pos rfl]
  ·rw[ok.ut l (hl.resolve_left hlr),dH _ _ _ _ hru,if_neg (Ne.symm hlr)]
 ·have h1:l≠row:=fun e=>hl (.inl e)
  rw[ok.uf l (fun h=>hl (.inr h)),dH _ _ _ _ hru,if_neg (Ne.symm h1)]
 ·rw[ok.ev,if_pos ⟨hj,hn⟩]
 ·rw[ok.ev,if_neg]
  rintro⟨_,h⟩;rw[hn] at h;cases h
 ·rw[ok.esl,if_pos ⟨hj,hn⟩]
theorem Ea(hp:Hp C n c)(hr:row<n)(g:GI C n c row ow w):MI C n c row (cn C (c+n) ow row w).u (cn C (c+n) ow row w).v ow:=by
 have hs:=qj hp hr g;have ht:=yg hr g hs;show MI C n c row (gG C (c+n) ow row w).1 (gG C (c+n) ow row w).2.1 ow;generalize gG C (c+n) ow row w=t at ht ⊢;generalize aS C (c+n) w=s at hs ht;have hd:=hs.d0
 have hvp:∀l,l<n→nth t.2.1 (c+l)=0:=fun l hl=>by
  have:nth w.sn (c+l)=false:=by
   cases h:nth w.sn (c+l) with
   |false=>rfl
   |true=>have:=(g.hs _ (by omega) h).2;omega
  rw[ht.vF _ this,g.mi.hvp l hl]
 refine⟨ht.l1,ht.l2,g.mi.lo,fun l hl=>?_,fun j hj=>?_,fun j hj ho=>?_,hvp,fun l j hl hj=>?_,g.mi.how,g.mi.cg,fun j hj h0=>?_,g.mi.qP⟩
 ·have:=g.mi.hu l hl;by_cases h:Tv (c+n) row ow w l
  ·rw[ht.uT l h];omega
  ·rw[ht.uF l h];omega
 ·have:=g.mi.hv j hj
  cases h:nth w.sn j with
  |true=>rw[ht.vT j hj h];omega
  |false=>rw[ht.vF j h];omega
 ·cases h:nth w.sn j with
  |true=>have:=(g.hs j hj h).1;omega
  |false=>rw[ht.vF j h];exact g.mi.hvz j hj ho
 ·have hf:=g.mi.hf l j hl hj;by_cases h:Tv (c+n) row ow w l
  ·rw[ht.uT l h]
   cases hn:nth w.sn j with
   |true=>rw[ht.vT j hj hn];omega
   |false=>
    rw[ht.vF j hn];have h1:=hs.lo j hj hn l h;have h2:=hs.ok.lo j hj hn;omega
  ·rw[ht.uF l h]
   cases hn:nth w.sn j with
   |true=>rw[ht.vT j hj hn];omega
   |false=>rw[ht.vF j hn];omega
 ·have he:=g.mi.ht j hj h0
  cases hn:nth w.sn j with
  |true=>
   rw[ht.vT j hj hn,ht.uT _ (.inr ⟨j,hj,hn,by omega⟩)];omega
  |false=>
   have hnt:¬Tv (c+n) row ow w (nth ow j).toNat:=by
    rintro (h|⟨k,hk,hkn,hke⟩)
    ·rcases g.mi.how j hj with h1|h1<;>omega
    ·have:=g.mi.cg j k hj hk h0 (by omega);subst this;rw[hn] at hkn;cases hkn
   rw[ht.vF j hn,ht.uF _ hnt];exact he
structure Rnd(C:Nat→Nat→Int)(n c row:Nat)(ow:List Int)(w w':Ws):Prop where
 a0:0≤w'.at_
 a1:w'.at_<((c+n:Nat):Int)
 new:nth w.sn w'.at_.toNat=false
 sn:w'.sn=w.sn.set w'.at_.toNat true
 la:w'.ah.length=c+n
 pth:∀j,j<c+n→nth w'.sn j=true→Via (c+n) row ow w' j fun l=>nth w'.u l+nth w'.v j=C l j
 rk:∃rk:Nat→Nat,(∀j,j<c+n→nth w'.sn j=true→rk j+bo w'.sn<c+n)∧(∀j,j<c+n→nth w'.sn j=true→0≤nth w'.ah j→rk (nth w'.ah j).toNat<rk j)∧∀j,j<c+n→nth w'.sn j=true→rk j≤rk w'.at_.toNat
theorem LY(l:List Bool):bo l≤l.length:=by unfold bo;exact List.countP_le_length
theorem Eb(hp:Hp C n c)(hr:row<n)(g:GI C n c row ow w):Rnd C n c row ow w (cn C (c+n) ow row w):=by
 have hs:=qj hp hr g;have ht:=yg hr g hs;unfold cn;generalize gG C (c+n) ow row w=t at ht ⊢;generalize aS C (c+n) w=s at hs ht ⊢
 have hnx:s.next.toNat<w.sn.length:=by rw[g.ln];have:=hs.nx1;have:=hs.nx0;omega
 have hnl:s.next.toNat<c+n:=by rw[←g.ln];exact hnx
 have sn':∀j,nth (w.sn.set s.next.toNat true) j=if s.next.toNat=j then true else nth w.sn j:=fun j=>dH _ _ _ _ hnx
 have up:∀j,nth w.sn j=true→nth (w.sn.set s.next.toNat true) j=true:=fun j h=>by rw[sn'];split<;>simp[h]
 have hrow:Tv (c+n) row ow w row:=.inl rfl;refine⟨hs.nx0,hs.nx1,hs.nx2,rfl,by dsimp only;rw[hs.ok.l2,g.la],fun j hj hn=>?_,?_⟩
 ·dsimp only[Via] at hn ⊢;rw[sn'] at hn;by_cases he:s.next.toNat=j
  ·subst he;have hv:=ht.vF _ hs.nx2;rw[hv];have hdn:=hs.dn
   rcases hs.via _ hnl hs.nx2 with ⟨h1,h2⟩|⟨h1,h2,h3,h4⟩
   ·left;refine⟨h1,?_⟩;rw[ht.uT _ hrow];omega
   ·right;refine⟨h1,h2,up _ h3,?_⟩;have:=(g.hs _ (by omega) h3).1;rw[ht.uT _ (.inr ⟨_,by omega,h3,by omega⟩)];omega
  ·rw[if_neg he] at hn;rw[hs.old j hn,ht.vT j hj hn]
   rcases g.pth j hj hn with ⟨h1,h2⟩|⟨h1,h2,h3,h4⟩
   ·left;refine⟨h1,?_⟩;rw[ht.uT _ hrow];omega
   ·right;refine⟨h1,h2,up _ h3,?_⟩;have:=(g.hs _ (by omega) h3).1;rw[ht.uT _ (.inr ⟨_,by omega,h3,by omega⟩)];omega
 ·obtain⟨rk,r1,r2⟩:=g.rk;have hun:=qg w.sn s.next.toNat hnx hs.nx2;have hule:=LY w.sn;rw[g.ln] at hule;dsimp only;refine⟨fun x=>if x=s.next.toNat then c+n-bo w.sn else rk x,fun j hj hn=>?_,fun j hj hn h0=>?_,fun j hj hn=>?_⟩
  ·rw[sn'] at hn;dsimp only;split
   ·omega
   ·rename_i he;rw[if_neg (Ne.symm he)] at hn;have:=r1 j hj hn;omega
  ·rw[sn'] at hn;dsimp only;by_cases he:j=s.next.toNat
   ·subst he;rw[if_pos rfl]
    rcases hs.via _ hnl hs.nx2 with ⟨h1,_⟩|⟨h1,h2,h3,_⟩
    ·omega
    ·have hne:(nth s.ah s.next.toNat).toNat≠s.next.toNat:=fun e=>by
      rw[e,hs.nx2] at h3;cases h3
     rw[if_neg hne];have:=r1 _ (by omega) h3;omega
   ·rw[if_neg (Ne.symm he)] at hn;rw[hs.old j hn] at h0 ⊢;rw[if_neg he]
    have h3:nth w.sn (nth w.ah j).toNat=true:=by
     rcases g.pth j hj hn with ⟨h1,_⟩|⟨_,_,h3,_⟩
     ·omega
     ·exact h3
    have hne:(nth w.ah j).toNat≠s.next.toNat:=fun e=>by
     rw[e,hs.nx2] at h3;cases h3
    rw[if_neg hne];exact r2 j hj hn h0
  ·rw[sn'] at hn;dsimp only;rw[if_pos rfl];split
   ·omega
   ·rename_i he;rw[if_neg (Ne.symm he)] at hn;have:=r1 j hj hn;omega
theorem L3(hp:Hp C n c)(hr:row<n)(g:GI C n c row ow w)(ho:nth ow (aS C (c+n) w).next.toNat<0):qQ C n c row ow (cn C (c+n) ow row w):=by
 have hm:=Ea hp hr g;have hq:=Eb hp hr g;have hat:(cn C (c+n) ow row w).at_=(aS C (c+n) w).next:=rfl;rw[←hat] at ho;generalize cn C (c+n) ow row w=w' at *
 have hnl:w'.at_.toNat<w.sn.length:=by rw[g.ln];have:=hq.a0;have:=hq.a1;omega
 have h1:w'.at_.toNat<c+n:=by rw[←g.ln];exact hnl
 refine⟨hm,hq.la,hq.a0,hq.a1,(hm.how _ h1).resolve_right (by omega),by rw[hq.sn,dH _ _ _ _ hnl,if_pos rfl],fun j hj hn hne=>?_,hq.pth,?_⟩
 ·rw[hq.sn,dH _ _ _ _ hnl,if_neg (by have:=hq.a0;omega)] at hn;exact (g.hs j hj hn).1
 ·obtain⟨rk,r1,r2,r3⟩:=hq.rk;exact⟨rk,fun j hj hn=>by have:=r1 j hj hn;omega,r2,r3⟩
theorem Ec(hp:Hp C n c)(hr:row<n)(g:GI C n c row ow w)(ho:¬nth ow (aS C (c+n) w).next.toNat<0):GI C n c row ow (cn C (c+n) ow row w):=by
 have hm:=Ea hp hr g;have hq:=Eb hp hr g;have hs:=qj hp hr g;have ht:=yg hr g hs;have e1:(cn C (c+n) ow row w).at_=(aS C (c+n) w).next:=rfl;have e2:(cn C (c+n) ow row w).u=(gG C (c+n) ow row w).1:=rfl;have e3:(cn C (c+n) ow row w).v=(gG C (c+n) ow row w).2.1:=rfl;have e4:(cn C (c+n) ow row w).sl=(gG C (c+n) ow row w).2.2:=rfl;have e5:(cn C (c+n) ow row w).ah=(aS C (c+n) w).ah:=rfl;have e6:(cn C (c+n) ow row w).i=(nth ow (aS C (c+n) w).next.toNat).toNat:=rfl;generalize cn C (c+n) ow row w=w' at *;generalize gG C (c+n) ow row w=t at *;generalize aS C (c+n) w=s at *
 have hnl:s.next.toNat<w.sn.length:=by rw[g.ln];have:=hs.nx0;have:=hs.nx1;omega
 have hnx:s.next.toNat<c+n:=by rw[←g.ln];exact hnl
 have sn':∀j,nth w'.sn j=if s.next.toNat=j then true else nth w.sn j:=fun j=>by rw[hq.sn,e1];exact dH _ _ _ _ hnl
 have off:∀j,nth w'.sn j=false→nth w.sn j=false∧s.next.toNat≠j:=fun j h=>by
  rw[sn'] at h;split at h
  ·cases h
  ·rename_i hne;exact⟨h,hne⟩
 have up:∀j,nth w.sn j=true→nth w'.sn j=true:=fun j h=>by rw[sn'];split<;>simp[h]
 have hcar:s.next.toNat<c:=hs.car.resolve_right (by omega);refine⟨hm,by rw[e4,ht.l3],hq.la,by rw[hq.sn,List.length_set,g.ln],fun j hj hn=>?_,.inr ⟨hq.a0,hq.a1,by rw[sn',e1,if_pos rfl],by rw[e1,e6];omega⟩,fun j hj hn l hl hne=>?_,fun j hj hn=>.inr ?_,hq.pth,let ⟨rk,r1,r2,_⟩:=hq.rk;⟨rk,r1,r2⟩⟩
 ·rw[sn'] at hn;split at hn
  ·rename_i he;subst he;exact⟨by omega,hcar⟩
  ·exact g.hs j hj hn
 ·obtain⟨hn,hnj⟩:=off j hn
  have hl':Tv (c+n) row ow w l:=by
   rcases hl with h|⟨k,hk,hkn,hke⟩
   ·exact .inl h
   ·rw[sn'] at hkn;split at hkn
    ·rename_i he;subst he;exact absurd (by rw[e6];omega) hne
    ·exact .inr ⟨k,hk,hkn,hke⟩
  have:=hs.lo j hj hn l hl';rw[e4,ht.sF j hj hn,e2,ht.uT l hl',e3,ht.vF j hn];omega
 ·obtain⟨hn,hnj⟩:=off j hn;dsimp only[Via];rw[e4,ht.sF j hj hn,e2,e3,ht.vF j hn,e5]
  rcases hs.via j hj hn with ⟨h1,h2⟩|⟨h1,h2,h3,h4⟩
  ·left;refine⟨h1,?_⟩;rw[ht.uT _ (.inl rfl)];omega
  ·right;refine⟨h1,h2,up _ h3,?_⟩;have:=(g.hs _ (by omega) h3).1;rw[ht.uT _ (.inr ⟨_,by omega,h3,by omega⟩)];omega
theorem yh(hp:Hp C n c)(hr:row<n)(g:GI C n c row ow w):bo (cn C (c+n) ow row w).sn+1=bo w.sn:=by
 have hs:=qj hp hr g;refine qg _ _ ?_ hs.nx2;rw[g.ln];have:=hs.nx0;have:=hs.nx1;omega
end
theorem Ed{C:Nat→Nat→Int}{n c row:Nat}{ow:List Int}(hp:Hp C n c)(hr:row<n):∀(f:Nat)(w:Ws),GI C n c row ow w→bo w.sn≤f→qQ C n c row ow (iW C (c+n) ow row f w)
 |0,w,g,h=>by have:=yh hp hr g;omega
 |f+1,w,g,h=>by
  unfold iW;split
  ·rename_i ho;exact L3 hp hr g ho
  ·rename_i ho;exact Ed hp hr f _ (Ec hp hr g ho) (by have:=yh hp hr g;omega)
theorem oe{α:Type}[Inhabited α](m:Nat)(a:α)(j:Nat)(h:j<m):nth (List.replicate m a) j=a:=by
 simp[nth,List.getD_eq_getElem?_getD,h]
theorem Ee{C:Nat→Nat→Int}{n c row:Nat}{s:Hs}(m:MI C n c row s.u s.v s.ow):GI C n c row s.ow (ws0 (c+n) s row):=by
 have hf:∀j,j<c+n→nth (List.replicate (c+n) false) j=false:=fun j hj=>oe _ _ _ hj
 refine⟨m,by simp[ws0],by simp[ws0],by simp[ws0],fun j hj hn=>?_,.inl ⟨rfl,rfl,fun j hj=>hf j hj⟩,fun j hj hn l hl hne=>?_,fun j hj hn=>.inl ⟨oe _ _ _ hj,rfl⟩,fun j hj hn=>?_,⟨fun _=>0,fun j hj hn=>?_,fun j hj hn=>?_⟩⟩
 ·have:=hf j hj;have h2:nth (List.replicate (c+n) false) j=true:=hn;rw[this] at h2;cases h2
 ·rcases hl with h|⟨k,hk,hkn,_⟩
  ·exact absurd h hne
  ·have:=hf k hk;have h2:nth (List.replicate (c+n) false) k=true:=hkn;rw[this] at h2;cases h2
 all_goals
  have:=hf j hj;have h2:nth (List.replicate (c+n) false) j=true:=hn;rw[this] at h2;cases h2
theorem Ef{C:Nat→Nat→Int}{n c row:Nat}{s:Hs}(hp:Hp C n c)(hr:row<n)(m:MI C n c row s.u s.v s.ow):qQ C n c row s.ow (iq C (c+n) s row):=
 Ed hp hr _ _ (Ee m) (by show bo (List.replicate (c+n) false)≤_;rw[tB];omega)
structure AI(C:Nat→Nat→Int)(n c row:Nat)(u v ow:List Int)(sn:List Bool)(rk:Nat→Nat)(at_:Nat)(ow1:List Int):Prop where
 lo:ow1.length=c+n
 how:∀j,j<c+n→j≠at_→nth ow1 j=-1∨(0≤nth ow1 j∧nth ow1 j<(row:Int))
 cg:∀j k,j<c+n→k<c+n→j≠at_→k≠at_→0≤nth ow1 j→nth ow1 j=nth ow1 k→j=k
 ht:∀j,j<c+n→j≠at_→0≤nth ow1 j→nth u (nth ow1 j).toNat+nth v j=C (nth ow1 j).toNat j
 qP:∀l,l<row→∃j,j<c+n∧j≠at_∧nth ow1 j=(l:Int)
 hz:∀j,j<c+n→j≠at_→nth ow1 j=-1→nth ow j=-1
 same:∀j,j<c+n→nth sn j=true→rk j<rk at_→nth ow1 j=nth ow j
theorem Eg{C:Nat→Nat→Int}{n c row:Nat}{ow:List Int}{w:Ws}(hr:row<n)(d:qQ C n c row ow w)(rk:Nat→Nat)(hrk:∀j,j<c+n→nth w.sn j=true→0≤nth w.ah j→rk (nth w.ah j).toNat<rk j)(hmx:∀j,j<c+n→nth w.sn j=true→rk j≤rk w.at_.toNat):∀(f:Nat)(at_:Nat)(ow1:List Int),at_<c+n→nth w.sn at_=true→rk at_<f→AI C n c row w.u w.v ow w.sn rk at_ ow1→MI C n c (row+1) w.u w.v (dN w.ah row f at_ ow1)
 |0,_,_,_,_,h,_=>absurd h (by omega)
 |f+1,at_,ow1,ha,hn,hf,a=>by
  unfold dN;rw[if_neg (by omega),Int.toNat_natCast]
  have aU:∀(z:Int)(j:Nat),nth (ow1.set at_ z) j=if at_=j then z else nth ow1 j:=fun z j=>dH _ _ _ _ (by rw[a.lo];exact ha)
  rcases d.pth at_ ha hn with ⟨h1,h2⟩|⟨h1,h2,h3,h4⟩
  ·rw[h1,if_pos (by omega)]
   have e:∀g,dN w.ah row g (-1) (ow1.set at_ (row:Int))=ow1.set at_ (row:Int):=fun g=>by
    cases g with
    |zero=>rfl
    |succ g=>unfold dN;rw[if_pos (by omega)]
   rw[e];have m:=d.mi;refine⟨m.lu,m.lv,by rw[List.length_set,a.lo],m.hu,m.hv,fun j hj ho=>?_,m.hvp,m.hf,fun j hj=>?_,fun j k hj hk h0 he=>?_,fun j hj h0=>?_,fun l hl=>?_⟩
   ·rw[aU] at ho;split at ho
    ·omega
    ·rename_i hne;exact m.hvz j hj (a.hz j hj (Ne.symm hne) ho)
   ·rw[aU];split
    ·right;omega
    ·rename_i hne
     rcases a.how j hj (Ne.symm hne) with h|h
     ·exact .inl h
     ·right;omega
   ·rw[aU] at h0 he;rw[aU] at he;by_cases hj1:at_=j
    ·by_cases hk1:at_=k
     ·omega
     ·rw[if_pos hj1,if_neg hk1] at he
      rcases a.how k hk (Ne.symm hk1) with h|h<;>omega
    ·by_cases hk1:at_=k
     ·rw[if_neg hj1,if_pos hk1] at he
      rcases a.how j hj (Ne.symm hj1) with h|h<;>omega
     ·rw[if_neg hj1] at h0;rw[if_neg hj1,if_neg hk1] at he;exact a.cg j k hj hk (Ne.symm hj1) (Ne.symm hk1) h0 he
   ·rw[aU] at h0 ⊢;by_cases hj1:at_=j
    ·subst hj1;rw[if_pos rfl,Int.toNat_natCast];exact h2
    ·rw[if_neg hj1] at h0 ⊢;exact a.ht j hj (Ne.symm hj1) h0
   ·by_cases hl2:l=row
    ·exact⟨at_,ha,by rw[aU,if_pos rfl,hl2]⟩
    ·obtain⟨j,hj,hne,he⟩:=a.qP l (by omega);exact⟨j,hj,by rw[aU,if_neg (Ne.symm hne)];exact he⟩
  ·rw[if_neg (by omega)];obtain⟨b,hb⟩:∃b:Nat,nth w.ah at_=b:=⟨(nth w.ah at_).toNat,by omega⟩;have hrb:=hrk at_ ha hn (by omega);rw[hb] at h1 h2 h3 h4 hrb ⊢;simp only[Int.toNat_natCast] at h3 h4 hrb ⊢
   have hbl:b<c+n:=by omega
   have hba:b≠at_:=fun e=>by rw[e] at hrb;omega
   have hbo:=a.same b hbl h3 hrb;have hmb:=hmx at_ ha hn
   have hb0:0≤nth ow b:=d.hs b hbl h3 (fun e=>by
    have:w.at_.toNat=b:=by omega
    rw[this] at hmb;omega)
   rw[hbo];refine Eg hr d rk hrk hmx f b (ow1.set at_ (nth ow b)) hbl h3 (by omega) ?_
   have hbr:nth ow b<(row:Int):=by
    rcases d.mi.how b hbl with h|h<;>omega
   refine⟨by rw[List.length_set,a.lo],fun j hj hne=>?_,fun j k hj hk hnj hnk h0 he=>?_,fun j hj hne h0=>?_,fun l hl=>?_,fun j hj hne ho=>?_,fun j hj hjn hlt=>?_⟩
   ·rw[aU];split
    ·exact .inr ⟨hb0,hbr⟩
    ·rename_i hj1;exact a.how j hj (Ne.symm hj1)
   ·rw[aU] at h0 he;rw[aU] at he;by_cases hj1:at_=j
    ·by_cases hk1:at_=k
     ·omega
     ·rw[if_pos hj1,if_neg hk1,←hbo] at he;have:=a.cg b k hbl hk hba (Ne.symm hk1) (by omega) he;exact absurd this (Ne.symm hnk)
    ·by_cases hk1:at_=k
     ·rw[if_neg hj1,if_pos hk1,←hbo] at he;rw[if_neg hj1] at h0;have:=a.cg j b hj hbl (Ne.symm hj1) hba h0 he;exact absurd this hnj
     ·rw[if_neg hj1] at h0;rw[if_neg hj1,if_neg hk1] at he;exact a.cg j k hj hk (Ne.symm hj1) (Ne.symm hk1) h0 he
   ·rw[aU] at h0 ⊢;by_cases hj1:at_=j
    ·subst hj1;rw[if_pos rfl];exact h4
    ·rw[if_neg hj1] at h0 ⊢;exact a.ht j hj (Ne.symm hj1) h0
   ·obtain⟨j,hj,hne,he⟩:=a.qP l hl;by_cases hjb:j=b
    ·exact⟨at_,ha,Ne.symm hba,by rw[aU,if_pos rfl,←hbo,←hjb];exact he⟩
    ·exact⟨j,hj,hjb,by rw[aU,if_neg (Ne.symm hne)];exact he⟩
   ·rw[aU] at ho;split at ho
    ·omega
    ·rename_i hj1;exact a.hz j hj (Ne.symm hj1) ho
   ·rw[aU,if_neg (fun e=>by rw[←e] at hlt;omega)];exact a.same j hj hjn (by omega)
theorem L4{C:Nat→Nat→Int}{n c row:Nat}{s:Hs}(hp:Hp C n c)(hr:row<n)(m:MI C n c row s.u s.v s.ow):MI C n c (row+1) (jH C (c+n) s row).u (jH C (c+n) s row).v (jH C (c+n) s row).ow:=by
 have d:=Ef hp hr m;unfold jH;dsimp only;generalize iq C (c+n) s row=w at d ⊢;obtain⟨rk,r1,r2,r3⟩:=d.rk;obtain⟨a,ha⟩:∃a:Nat,w.at_=a:=⟨w.at_.toNat,by have:=d.a0;omega⟩;have a1:=d.a1;have a3:=d.a3;have a2:=d.a2;rw[ha] at a1 a3 a2 ⊢;simp only[Int.toNat_natCast] at a3 a2;have r4:=r1 a (by omega) a3;refine Eg hr d rk r2 r3 (c+n+1) a s.ow (by omega) a3 (by omega) ⟨m.lo,fun j hj _=>m.how j hj,fun j k hj hk _ _ h0 he=>m.cg j k hj hk h0 he,fun j hj _ h0=>d.mi.ht j hj h0,fun l hl=>?_,fun j hj _ ho=>ho,fun j _ _ _=>rfl⟩;obtain⟨j,hj,he⟩:=m.qP l hl;exact⟨j,hj,fun e=>by rw[e,a2] at he;omega,he⟩
theorem yj{C:Nat→Nat→Int}{n c:Nat}(hp:Hp C n c):∀r,r≤n→MI C n c r (ir C n (c+n) r).u (ir C n (c+n) r).v (ir C n (c+n) r).ow
 |0,_=>by
  have e0:∀l,l<n→nth (List.replicate n (0:Int)) l=0:=fun l hl=>oe _ _ _ hl
  have e1:∀j,j<c+n→nth (List.replicate (c+n) (0:Int)) j=0:=fun l hl=>oe _ _ _ hl
  have e2:∀j,j<c+n→nth (List.replicate (c+n) (-1:Int)) j=-1:=fun l hl=>oe _ _ _ hl
  simp only[ir];refine⟨by simp,by simp,by simp,fun l hl=>by rw[e0 l hl];omega,fun j hj=>by rw[e1 j hj];omega,fun j hj _=>e1 j hj,fun l hl=>e1 _ (by omega),fun l j hl hj=>by rw[e0 l hl,e1 j hj];have:=(hp.bd hl hj).1;omega,fun j hj=>.inl (e2 j hj),fun j k hj _ h0=>by rw[e2 j hj] at h0;omega,fun j hj h0=>by rw[e2 j hj] at h0;omega,fun l hl=>absurd hl (by omega)⟩
 |r+1,h=>L4 hp (by omega) (yj hp r (by omega))
end Go.Proofs.YtmaaehaedfemaaaGreat
