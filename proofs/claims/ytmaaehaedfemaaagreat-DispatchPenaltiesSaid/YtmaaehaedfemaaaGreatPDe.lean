/- Lemmas. -/
import Derived.Test.YtmaaehaedfemaaaGreatPDd
import Derived.Test.YtmaaehaedfemaaaGreatPDc
import Derived.Test.YtmaaehaedfemaaaGreatPLd
set_option linter.unusedSimpArgs false
set_option linter.unusedVariables false
set_option linter.unusedSectionVars false
set_option maxHeartbeats 32000000
set_option maxRecDepth 100000
namespace Go.Proofs.YtmaaehaedfemaaaGreat
open Go Go.Fi
structure zG(C:Nat→Nat→Int)(n m row:Nat)(ow:List Int)(w:Ws):Prop where
 hin:w.i<n
 lu:w.u.length=n
 lv:w.v.length=m
 ls:w.sl.length=m
 la:w.ah.length=m
 ln:w.sn.length=m
 nv:∀k,k<m→inI .i64 (C w.i k-nth w.u w.i)∧inI .i64 (C w.i k-nth w.u w.i-nth w.v k)
 sk:∀k,k≤m→(aT C w.u w.v w.sn w.i w.at_ w.sl w.ah k).sl.length=m∧(aT C w.u w.v w.sn w.i w.at_ w.sl w.ah k).ah.length=m
 ur:inI .i64 (nth w.u row+(aS C m w).least)
 tk:∀k,k≤m→(b7 w.sn ow (aS C m w).least (w.u.set row (nth w.u row+(aS C m w).least)) w.v (aS C m w).sl k).1.length=n∧(b7 w.sn ow (aS C m w).least (w.u.set row (nth w.u row+(aS C m w).least)) w.v (aS C m w).sl k).2.1.length=m ∧
  (b7 w.sn ow (aS C m w).least (w.u.set row (nth w.u row+(aS C m w).least)) w.v (aS C m w).sl k).2.2.length=m
 ts:∀k,k<m→nth w.sn k=true→∃l:Nat,nth ow k=l∧l<n∧inI .i64 (nth (b7 w.sn ow (aS C m w).least (w.u.set row (nth w.u row+(aS C m w).least)) w.v (aS C m w).sl k).1 l+(aS C m w).least) ∧
  inI .i64 (nth (b7 w.sn ow (aS C m w).least (w.u.set row (nth w.u row+(aS C m w).least)) w.v (aS C m w).sl k).2.1 k-(aS C m w).least)
 tf:∀k,k<m→nth w.sn k=false→inI .i64 (nth (b7 w.sn ow (aS C m w).least (w.u.set row (nth w.u row+(aS C m w).least)) w.v (aS C m w).sl k).2.2 k-(aS C m w).least)
 nx:∃a:Nat,(aS C m w).next=a∧a<m
theorem L5{C:Nat→Nat→Int}{n c row:Nat}{ow:List Int}{w:Ws}(hp:Hp C n c)(hr:row<n)(g:GI C n c row ow w):zG C n (c+n) row ow w:=by
 have hs:=qj hp hr g;have hi:=g.ib hr;have hub:=g.mi.ub hp hi;have hu0:=g.mi.hu w.i hi;have hrb:=g.mi.ub hp hr;have hr0:=g.mi.hu row hr
 have hsok:∀k,k≤c+n→_:=fun k hk=>ye C w.u w.v w.sn w.i w.at_ w.sl w.ah (by rw[g.la,g.ls]) k (by rw[g.ls];exact hk)
 have hd0:=hs.d0;have hd1:=hs.d1
 have htok:∀k,k≤c+n→FH w.sn ow (aS C (c+n) w).least (w.u.set row (nth w.u row+(aS C (c+n) w).least)) w.v (aS C (c+n) w).sl k (b7 w.sn ow (aS C (c+n) w).least (w.u.set row (nth w.u row+(aS C (c+n) w).least)) w.v (aS C (c+n) w).sl k):=fun k hk=>
  yf w.sn ow (aS C (c+n) w).least (w.u.set row (nth w.u row+(aS C (c+n) w).least)) w.v (aS C (c+n) w).sl (by rw[hs.ok.l1,g.ls,g.mi.lv]) (fun j hj hn=>by
   rw[g.mi.lv] at hj;have h1:=(g.hs j hj hn).1;rw[List.length_set,g.mi.lu]
   rcases g.mi.how j hj with h|h<;>omega) (fun j k hj hk h0 he=>g.mi.cg j k (by rw[←g.mi.lv];exact hj) (by rw[←g.mi.lv];exact hk) h0 he) k (by rw[g.mi.lv];exact hk)
 have hul:∀l,l<n→0≤nth (w.u.set row (nth w.u row+(aS C (c+n) w).least)) l∧nth (w.u.set row (nth w.u row+(aS C (c+n) w).least)) l≤2000000000000:=fun l hl=>by
  rw[dH _ _ _ _ (by rw[g.mi.lu];exact hr)];have:=g.mi.ub hp hl;have:=g.mi.hu l hl
  split<;>omega
 refine⟨hi,g.mi.lu,g.mi.lv,g.ls,g.la,g.ln,fun k hk=>?_,fun k hk=>⟨by rw[(hsok k hk).l1,g.ls],by rw[(hsok k hk).l2,g.la]⟩,aH (by omega) (by omega),fun k hk=>⟨by rw[(htok k hk).l1,List.length_set,g.mi.lu],by rw[(htok k hk).l2,g.mi.lv],by rw[(htok k hk).l3,hs.ok.l1,g.ls]⟩,fun k hk hn=>?_,fun k hk hn=>?_,⟨(aS C (c+n) w).next.toNat,by have:=hs.nx0;omega,by have:=hs.nx0;have:=hs.nx1;omega⟩⟩
 ·have h1:=hp.bd hi hk;have h2:=g.mi.hv k hk;have h3:=g.mi.vb hp (by omega) hk;exact⟨aH (by omega) (by omega),aH (by omega) (by omega)⟩
 ·have h1:=(g.hs k hk hn).1
  have h2:nth ow k<(row:Int):=by rcases g.mi.how k hk with h|h<;>omega
  refine⟨(nth ow k).toNat,by omega,by omega,?_,?_⟩
  ·have ht:=htok k (by omega);have hl:=hul (nth ow k).toNat (by omega)
   have:nth (b7 w.sn ow (aS C (c+n) w).least (w.u.set row (nth w.u row+(aS C (c+n) w).least)) w.v (aS C (c+n) w).sl k).1 (nth ow k).toNat=nth (w.u.set row (nth w.u row+(aS C (c+n) w).least)) (nth ow k).toNat:=by
    refine ht.uf _ ?_
    rintro⟨j,hj,hjn,he⟩
    have:=g.mi.cg j k (by omega) hk (g.hs j (by omega) hjn).1 (by omega);omega
   rw[this];exact aH (by omega) (by omega)
  ·have ht:=htok k (by omega);rw[ht.ev k,if_neg (by omega)];have h3:=g.mi.hv k hk;have h4:=g.mi.vb hp (by omega) hk;exact aH (by omega) (by omega)
 ·have ht:=htok k (by omega);rw[ht.esl k,if_neg (by omega)];have h3:=hs.lo k hk hn w.i g.tvi;have h4:=hs.ok.lo k hk hn;have h5:=hp.bd hi hk;have h6:=g.mi.vb hp (by omega) hk;exact aH (by omega) (by omega)
end Go.Proofs.YtmaaehaedfemaaaGreat
namespace Go.Proofs.YtmaaehaedfemaaaGreat
open Go Go.Fi
variable[ak]
def zH(L:List (List Int))(n m:Nat)(u v ow ah:List Int):ab:=
 [(3,iA ow),(4,[.w false false (.sl n (gB L)),.msl 0 n 1 0 n,.msl 1 m 1 0 m,.msl 3 m 1 0 m,.msl 9 m 1 0 m]),(9,iA ah),(0,iA u),(1,iA v)]
theorem Po(L:List (List Int))(n c m:Nat)(hm:m=c+n)(hL:L.length=n)(hrows:∀i,i<n→(nth L i).length=m)(hp:Hp (fun i j=>nth (nth L i) j) n c)(row:Nat)(hr:row<n)(s:Hs)(mi:MI (fun i j=>nth (nth L i) j) n c row s.u s.v s.ow)(p0:PV)(K:AV→ab→Nat→Prop)(hK:∀ah,ah.length=m→K (.tup []) (zH L n m (jH (fun i j=>nth (nth L i) j) m s row).u (jH (fun i j=>nth (nth L i) j) m s row).v (jH (fun i j=>nth (nth L i) j) m s row).ow ah) 10):aM ⟨5,none⟩ Tz.prog (Tryz.f43.body.getD .skip) ⟨bP 0 ([.ptr 4 5 0,.w false false (.int .i64 row)]),[(4,[.w false false (.sl n (gB L)),.msl 0 n 1 0 n,.msl 1 m 1 0 m,.msl 3 m 1 0 m,.w false false p0]),(0,iA s.u),(1,iA s.v),(3,iA s.ow)],5,Tryz.f43.ntmps⟩ (cH Tz.prog Tryz.f43.results.toList K):=by
 have d:=Ef hp hr mi;have g0:=Ee (c:=c) (row:=row) mi
 have eG:∀f w,iW (fun i j=>nth (nth L i) j) m s.ow row (f+1) w=if nth s.ow (aS (fun i j=>nth (nth L i) j) m w).next.toNat<0 then cn (fun i j=>nth (nth L i) j) m s.ow row w else iW (fun i j=>nth (nth L i) j) m s.ow row f (cn (fun i j=>nth (nth L i) j) m s.ow row w):=fun _ _=>rfl
 have hS:jH (fun i j=>nth (nth L i) j) m s row=⟨(iq (fun i j=>nth (nth L i) j) m s row).u,(iq (fun i j=>nth (nth L i) j) m s row).v,dN (iq (fun i j=>nth (nth L i) j) m s row).ah row (m+1) (iq (fun i j=>nth (nth L i) j) m s row).at_ s.ow⟩:=rfl;rw[hS] at hK;clear hS
 have hW:iW (fun i j=>nth (nth L i) j) m s.ow row (bo (ws0 m s row).sn+1) (ws0 m s row)=iq (fun i j=>nth (nth L i) j) m s row:=by
  rw[show bo (ws0 m s row).sn=m from tB m];rfl
 have hm17:m<17:=by have:=hp.nn;have:=hp.cc;omega
 have hC:(fun i j=>nth (nth L i) j)=fun i j=>nth (nth L i) j:=rfl
 have hbd:∀w,GI (fun i j=>nth (nth L i) j) n c row s.ow w→zG (fun i j=>nth (nth L i) j) n m row s.ow w:=fun w g=>by rw[hm];exact L5 hp hr g
 have hgo:∀w,GI (fun i j=>nth (nth L i) j) n c row s.ow w→¬nth s.ow (aS (fun i j=>nth (nth L i) j) m w).next.toNat<0→GI (fun i j=>nth (nth L i) j) n c row s.ow (cn (fun i j=>nth (nth L i) j) m s.ow row w):=fun w g h=>by rw[hm] at h ⊢;exact Ec hp hr g h
 have hun:∀w,GI (fun i j=>nth (nth L i) j) n c row s.ow w→bo (cn (fun i j=>nth (nth L i) j) m s.ow row w).sn+1=bo w.sn:=fun w g=>by rw[hm];exact yh hp hr g
 rw[←hm] at d g0;have lu:=mi.lu
 have lv:s.v.length=m:=by rw[hm];exact mi.lv
 have lo:s.ow.length=m:=by rw[hm];exact mi.lo
 clear hC hp mi
 obtain⟨C,hC⟩:∃C:Nat→Nat→Int,C=fun i j=>nth (nth L i) j:=⟨_,rfl⟩
 have hCe:∀i j,C i j=nth (nth L i) j:=fun i j=>by rw[hC]
 rw[←hC] at d g0 eG hK hW hbd hgo hun;clear hC;generalize iq C m s row=W at d hK hW;have r1:=mU 10000000000000000 m (by omega);have r2:=mU (-1) m (by omega);have hmi:inI .i64 (m:Int):=aH (by omega) (by omega)
 have hm9:(m:Int)≤1000000000:=by omega
 have kd:=keep d;have kG:=keep eG;have kK:=keep hK;have kr:=keep hrows;have kb:=keep hbd;have kgo:=keep hgo;have kun:=keep hun;have kC:=keep hCe;have kg:=keep g0;have kW:=keep hW;have km:=keep hm;have k17:=keep hm17;clear d eG hK hrows hbd hgo hun hCe g0 hW hm hm17;have hb:Tryz.f43.body=some _:=rfl;rw[hb];clear hb;simp only[Option.getD_some,Tryz.ntmps43,Tryz.results43]
 repeat' (first|(with_reducible first|refine Ma ?_|refine Mb ?_|refine aj ?_|refine af ?_|refine bF (id:=1) 7 mixed (by decide +kernel) ?_|refine cwM (r1) ?_|refine cwM (r2) ?_|intro _)|(simp[*,lv,hmi,hm9]))
 clear r1 r2;refine cM 10 (fun(w:Ws)=>GI C n c row s.ow w∧iW C m s.ow row (bo w.sn+1) w=W) [0,1,4,5,6] (fun(w:Ws)=>[(7,.w false false (.int .i64 w.at_)),(8,.w false false (.int .i64 w.i))]) [4,3] (fun(w:Ws)=>[(7,bA w.sn),(6,iA w.sl),(9,iA w.ah),(0,iA w.u),(1,iA w.v)]) (fun(w:Ws)=>bo w.sn) (fun(_u:Unit)=>True) [0,1] (fun(_u:Unit)=>[(7,.w false false (.int .i64 W.at_))]) [4,3] (fun(_u:Unit)=>[(9,iA W.ah),(0,iA W.u),(1,iA W.v)]) (ws0 m s row) ⟨kg,kW⟩ (aN [] (by simp[ws0,xW]) (by simp[ws0,xW])) (fun w hk=>?_) (fun _u hf=>?_)
 ·obtain⟨hg,hgw⟩:=hk;have hb:zG C n m row s.ow w:=kb w hg;have hcon:¬nth s.ow (aS C m w).next.toNat<0→GI C n c row s.ow (cn C m s.ow row w):=kgo w hg;have hun:bo (cn C m s.ow row w).sn+1=bo w.sn:=kun w hg
  have hgr:iW C m s.ow row (bo w.sn+1) w=if nth s.ow (aS C m w).next.toNat<0 then cn C m s.ow row w else iW C m s.ow row (bo w.sn) (cn C m s.ow row w):=kG _ w
  rw[hgr,←hun] at hgw;have hCe:∀i j,C i j=nth (nth L i) j:=kC;have hrw:∀i,i<n→(nth L i).length=m:=kr;have h17:m<17:=k17;clear kd kG kK kb kgo kun kg kW kr k17 hgr hg;obtain⟨u,v,sl,ah,sn,at_,i⟩:=w;have hin:=hb.hin;have wu:=hb.lu;have wv:=hb.lv;have wl:=hb.ls;have wa:=hb.la;have wn:=hb.ln;have bnv:=hb.nv;have bsk:=hb.sk;have bur:=hb.ur;have btk:=hb.tk;have bts:=hb.ts;have btf:=hb.tf;have bnx:=hb.nx;dsimp only at hin wu wv wl wa wn bnv bsk bur btk bts btf bnx hcon hun hgw ⊢;have eS0:aT C u v sn i at_ sl ah 0=⟨sl,ah,10000000000000000,-1⟩:=rfl
  have eSs:∀k,aT C u v sn i at_ sl ah (k+1)=if nth sn k=true then aT C u v sn i at_ sl ah k else
   if nth (if nvS C u v i k<nth (aT C u v sn i at_ sl ah k).sl k then (⟨(aT C u v sn i at_ sl ah k).sl.set k (nvS C u v i k),(aT C u v sn i at_ sl ah k).ah.set k at_,(aT C u v sn i at_ sl ah k).least,(aT C u v sn i at_ sl ah k).next⟩:ScS) else aT C u v sn i at_ sl ah k).sl k <
    (if nvS C u v i k<nth (aT C u v sn i at_ sl ah k).sl k then (⟨(aT C u v sn i at_ sl ah k).sl.set k (nvS C u v i k),(aT C u v sn i at_ sl ah k).ah.set k at_,(aT C u v sn i at_ sl ah k).least,(aT C u v sn i at_ sl ah k).next⟩:ScS) else aT C u v sn i at_ sl ah k).least
   then ⟨(if nvS C u v i k<nth (aT C u v sn i at_ sl ah k).sl k then (⟨(aT C u v sn i at_ sl ah k).sl.set k (nvS C u v i k),(aT C u v sn i at_ sl ah k).ah.set k at_,(aT C u v sn i at_ sl ah k).least,(aT C u v sn i at_ sl ah k).next⟩:ScS) else aT C u v sn i at_ sl ah k).sl,
    (if nvS C u v i k<nth (aT C u v sn i at_ sl ah k).sl k then (⟨(aT C u v sn i at_ sl ah k).sl.set k (nvS C u v i k),(aT C u v sn i at_ sl ah k).ah.set k at_,(aT C u v sn i at_ sl ah k).least,(aT C u v sn i at_ sl ah k).next⟩:ScS) else aT C u v sn i at_ sl ah k).ah,
    nth (if nvS C u v i k<nth (aT C u v sn i at_ sl ah k).sl k then (⟨(aT C u v sn i at_ sl ah k).sl.set k (nvS C u v i k),(aT C u v sn i at_ sl ah k).ah.set k at_,(aT C u v sn i at_ sl ah k).least,(aT C u v sn i at_ sl ah k).next⟩:ScS) else aT C u v sn i at_ sl ah k).sl k,k⟩
   else (if nvS C u v i k<nth (aT C u v sn i at_ sl ah k).sl k then (⟨(aT C u v sn i at_ sl ah k).sl.set k (nvS C u v i k),(aT C u v sn i at_ sl ah k).ah.set k at_,(aT C u v sn i at_ sl ah k).least,(aT C u v sn i at_ sl ah k).next⟩:ScS) else aT C u v sn i at_ sl ah k):=fun _=>rfl
  have eW:aS C m ⟨u,v,sl,ah,sn,at_,i⟩=aT C u v sn i at_ sl ah m:=rfl
  have eR:cn C m s.ow row ⟨u,v,sl,ah,sn,at_,i⟩=⟨(b7 sn s.ow (aT C u v sn i at_ sl ah m).least (u.set row (nth u row+(aT C u v sn i at_ sl ah m).least)) v (aT C u v sn i at_ sl ah m).sl m).1,(b7 sn s.ow (aT C u v sn i at_ sl ah m).least (u.set row (nth u row+(aT C u v sn i at_ sl ah m).least)) v (aT C u v sn i at_ sl ah m).sl m).2.1,
   (b7 sn s.ow (aT C u v sn i at_ sl ah m).least (u.set row (nth u row+(aT C u v sn i at_ sl ah m).least)) v (aT C u v sn i at_ sl ah m).sl m).2.2,(aT C u v sn i at_ sl ah m).ah,sn.set (aT C u v sn i at_ sl ah m).next.toNat true,(aT C u v sn i at_ sl ah m).next,(nth s.ow (aT C u v sn i at_ sl ah m).next.toNat).toNat⟩:=rfl
  rw[eW] at bur btk bts btf bnx hcon hgw;generalize cn C m s.ow row ⟨u,v,sl,ah,sn,at_,i⟩=w' at eR hcon hun hgw;clear eW hb;generalize aT C u v sn i at_ sl ah=S at *;have kS:=keep eSs;have knv:=keep bnv;have ksk:=keep bsk;have kC2:=keep hCe;have kur:=keep bur;have ktk:=keep btk;have kts:=keep bts;have ktf:=keep btf;have knx:=keep bnx;have kcon:=keep hcon;have kun:=keep hun;have kgw:=keep hgw;have kR:=keep eR;have krw:=keep hrw;have k17:=keep h17;clear eSs bnv bsk hCe bur btk bts btf bnx hcon hun hgw eR hrw h17
  repeat' (first|(with_reducible first|refine aj ?_|refine aL ?_|refine af ?_|intro _)|(simp[*]))
  refine cM 10 (fun(k:Nat)=>k≤m) [0,1,4,5,6,7,8,32] (fun(k:Nat)=>[(9,.w false false (.int .i64 (S k).least)),(10,.w false false (.int .i64 (S k).next)),(33,.w false false (.int .i64 k))]) [7,0,1,4,3] (fun(k:Nat)=>[(6,iA (S k).sl),(9,iA (S k).ah)]) (fun(k:Nat)=>m-k) (fun(_u:Unit)=>True) [0,1,4,5,6] (fun(_u:Unit)=>[(9,.w false false (.int .i64 (S m).least)),(10,.w false false (.int .i64 (S m).next))]) [7,0,1,4,3] (fun(_u:Unit)=>[(6,iA (S m).sl),(9,iA (S m).ah)]) (0) (Nat.zero_le _) (aN [] (by simp[eS0]) (by simp[eS0])) (fun k hk=>?_) (fun _u hf=>?_)
  ·clear eS0 kur ktk kts ktf knx kcon kun kgw kR;by_cases hlt:k<m
   ·have hi1:inI .i64 ((k:Int)+1):=aH (by have:=k17;unfold aR at this;omega) (by have:=k17;unfold aR at this;omega)
    have hz:k+1≤m:=by omega
    have hCe:∀i j,C i j=nth (nth L i) j:=kC2;have hrl:(nth L i).length=m:=krw i hin;obtain⟨l1,l2⟩:(S k).sl.length=m∧(S k).ah.length=m:=ksk k hk;obtain⟨n1,n2⟩:inI .i64 (C i k-nth u i)∧inI .i64 (C i k-nth u i-nth v k):=knv k hlt;have eSk:S (k+1)=_:=kS k
    have hnv:nvS C u v i k=nth (nth L i) k-nth u i-nth v k:=by unfold nvS;rw[hCe]
    rw[hnv] at eSk;rw[hCe] at n1 n2
    have hkn:k<sn.length:=by omega
    have hkL:k<(nth L i).length:=by omega
    have hiL:i<L.length:=by omega
    have hiu:i<u.length:=by omega
    have hkv:k<v.length:=by omega
    clear kS knv ksk kC2 krw k17 hCe hnv;generalize S k=sk at *;obtain⟨sl1,ah1,le1,nx1⟩:=sk;dsimp only at l1 l2 eSk ⊢
    cases hsn:nth sn k with
    |true=>
     rw[if_pos hsn] at eSk
     repeat' (first|(with_reducible first|refine aj ?_|refine aL ?_|refine aB ?_|refine aY ?_|refine af ?_|refine al ?_|intro _)|(simp[*,hlt,hi1,hsn,hkn,wn]))
     all_goals first
      |omega
      |assumption
      |(refine nx (k+1) ?_ ?_;(· exact hz);(refine aG ?_ ?_<;>first|trivial|(simp[*,eSk];done)))
    |false=>
     rw[if_neg (by rw[hsn];decide)] at eSk;have hq:∃q,nth (nth L i) k-nth u i-nth v k=q:=⟨_,rfl⟩;obtain⟨q,hq⟩:=hq;rw[hq] at eSk n2
     have hks:k<sl1.length:=by omega
     have hka:k<ah1.length:=by omega
     by_cases c1:q<nth sl1 k
     ·rw[if_pos c1] at eSk;dsimp only at eSk
      have e1:nth (sl1.set k q) k=q:=by rw[dH _ _ _ _ hks,if_pos rfl]
      rw[e1] at eSk
      have l3:(sl1.set k q).length=m:=by simpa using l1
      by_cases c2:q<le1
      ·rw[if_pos c2] at eSk
       repeat' (first|(with_reducible first|refine aj ?_|refine aL ?_|refine aB ?_|refine af ?_|refine bF (id:=9) 27 mixed (by decide +kernel) ?_|refine al ?_|intro _)|(simp[*,hlt,hi1,hsn,hkn,wn,hin,hiL,hkL,hiu,hkv,hrl,wu,wv,hq,n1,n2,c1,c2,hks,hka,l1,l2,e1,l3]))
       all_goals first
        |omega
        |assumption
        |(refine nx (k+1) ?_ ?_;(· exact hz);(refine aG ?_ ?_<;>first|trivial|(simp[*,eSk];done)))
      ·rw[if_neg c2] at eSk
       repeat' (first|(with_reducible first|refine aj ?_|refine aL ?_|refine aB ?_|refine af ?_|refine bF (id:=9) 27 mixed (by decide +kernel) ?_|refine al ?_|intro _)|(simp[*,hlt,hi1,hsn,hkn,wn,hin,hiL,hkL,hiu,hkv,hrl,wu,wv,hq,n1,n2,c1,c2,hks,hka,l1,l2,e1,l3]))
       all_goals first
        |omega
        |assumption
        |(refine nx (k+1) ?_ ?_;(· exact hz);(refine aG ?_ ?_<;>first|trivial|(simp[*,eSk];done)))
     ·rw[if_neg c1] at eSk;dsimp only at eSk;by_cases c2:nth sl1 k<le1
      ·rw[if_pos c2] at eSk
       repeat' (first|(with_reducible first|refine aj ?_|refine aL ?_|refine aB ?_|refine af ?_|refine bF (id:=9) 27 mixed (by decide +kernel) ?_|refine al ?_|intro _)|(simp[*,hlt,hi1,hsn,hkn,wn,hin,hiL,hkL,hiu,hkv,hrl,wu,wv,hq,n1,n2,c1,c2,hks,hka,l1,l2]))
       all_goals first
        |omega
        |assumption
        |(refine nx (k+1) ?_ ?_;(· exact hz);(refine aG ?_ ?_<;>first|trivial|(simp[*,eSk];done)))
      ·rw[if_neg c2] at eSk
       repeat' (first|(with_reducible first|refine aj ?_|refine aL ?_|refine aB ?_|refine af ?_|refine bF (id:=9) 27 mixed (by decide +kernel) ?_|refine al ?_|intro _)|(simp[*,hlt,hi1,hsn,hkn,wn,hin,hiL,hkL,hiu,hkv,hrl,wu,wv,hq,n1,n2,c1,c2,hks,hka,l1,l2]))
       all_goals first
        |omega
        |assumption
        |(refine nx (k+1) ?_ ?_;(· exact hz);(refine aG ?_ ?_<;>first|trivial|(simp[*,eSk];done)))
   ·have hke:k=m:=by omega
    subst hke
    repeat' (first|(with_reducible first|refine aj ?_|refine aY ?_|refine af ?_|refine al ?_|intro _)|(simp[*,hlt]))
    all_goals first
     |omega
     |(refine bl () ?_ ?_;(· trivial);(refine aG ?_ ?_<;>first|trivial|(simp[*];done)))
  ·have hcd:(S m).sl.length=m∧(S m).ah.length=m:=ksk m (Nat.le_refl m);obtain⟨a,hna,ham⟩:=knx;have hur:inI .i64 (nth u row+(S m).least):=kur;have h17:m<17:=k17;clear eS0 kS knv ksk kC2 krw kur kC k17;generalize S m=sm at *;obtain⟨sl1,ah1,d,nx⟩:=sm;dsimp only at hcd hna hur ⊢;subst hna;obtain⟨hl1,hl2⟩:=hcd
   have hru:row<u.length:=by omega
   have eT0:b7 sn s.ow d (u.set row (nth u row+d)) v sl1 0=(u.set row (nth u row+d),v,sl1):=rfl
   have eTs:∀k,b7 sn s.ow d (u.set row (nth u row+d)) v sl1 (k+1)=if nth sn k=true then
    ((b7 sn s.ow d (u.set row (nth u row+d)) v sl1 k).1.set (nth s.ow k).toNat (nth (b7 sn s.ow d (u.set row (nth u row+d)) v sl1 k).1 (nth s.ow k).toNat+d),(b7 sn s.ow d (u.set row (nth u row+d)) v sl1 k).2.1.set k (nth (b7 sn s.ow d (u.set row (nth u row+d)) v sl1 k).2.1 k-d),(b7 sn s.ow d (u.set row (nth u row+d)) v sl1 k).2.2)
    else ((b7 sn s.ow d (u.set row (nth u row+d)) v sl1 k).1,(b7 sn s.ow d (u.set row (nth u row+d)) v sl1 k).2.1,(b7 sn s.ow d (u.set row (nth u row+d)) v sl1 k).2.2.set k (nth (b7 sn s.ow d (u.set row (nth u row+d)) v sl1 k).2.2 k-d)):=fun _=>rfl
   dsimp only at ktk kts ktf kcon kgw kR;generalize b7 sn s.ow d (u.set row (nth u row+d)) v sl1=T at *;have kT:=keep eTs;clear eTs
   repeat' (first|(with_reducible first|refine aj ?_|refine af ?_|refine And.intro ?_ ?_|intro _)|(simp[*,hr,hru,wu,hur]))
   all_goals try first|omega|assumption
   refine cM 10 (fun(k:Nat)=>k≤m) [0,1,4,5,6,9,10,105] (fun(k:Nat)=>[(106,.w false false (.int .i64 k))]) [7,9,4,3] (fun(k:Nat)=>[(0,iA (T k).1),(1,iA (T k).2.1),(6,iA (T k).2.2)]) (fun(k:Nat)=>m-k) (fun(_u:Unit)=>True) [0,1,4,5,6,10] (fun(_u:Unit)=>[]) [7,9,4,3] (fun(_u:Unit)=>[(0,iA (T m).1),(1,iA (T m).2.1),(6,iA (T m).2.2)]) (0) (Nat.zero_le _) (aN [] (by simp[eT0]) (by simp[eT0])) (fun k hk=>?_) (fun _u hf=>?_)
   ·clear eT0 kcon kun kgw kR;by_cases hlt:k<m
    ·have hi1:inI .i64 ((k:Int)+1):=aH (by omega) (by omega)
     have hz:k+1≤m:=by omega
     obtain⟨t1,t2,t3⟩:(T k).1.length=n∧(T k).2.1.length=m∧(T k).2.2.length=m:=ktk k hk;have hts:nth sn k=true→∃l:Nat,nth s.ow k=l∧l<n∧inI .i64 (nth (T k).1 l+d)∧inI .i64 (nth (T k).2.1 k-d):=kts k hlt;have htf:nth sn k=false→inI .i64 (nth (T k).2.2 k-d):=ktf k hlt;have eTk:T (k+1)=_:=kT k
     have hkn:k<sn.length:=by omega
     have hko:k<s.ow.length:=by omega
     clear ktk kts ktf kT h17 hur hru;generalize T k=tk at *;obtain⟨tu,tv,tl⟩:=tk;dsimp only at t1 t2 t3 hts htf eTk ⊢
     have hkv:k<tv.length:=by omega
     have hkl:k<tl.length:=by omega
     cases hsn:nth sn k with
     |true=>
      rw[if_pos hsn] at eTk;obtain⟨l,hol,hln,b1,b2⟩:=hts hsn;rw[hol] at eTk;simp only[Int.toNat_natCast] at eTk
      have hlu:l<tu.length:=by omega
      clear hts htf
      repeat' (first|(with_reducible first|refine aj ?_|refine aL ?_|refine aB ?_|refine af ?_|refine bF (id:=20) 16 mixed (by decide +kernel) ?_|refine al ?_|refine And.intro ?_ ?_|intro _)|(simp[*,hlt,hi1,hsn,hkn,wn,hol,hln,hlu,hkv,t1,t2,b1,b2,hko,lo]))
      all_goals first
       |omega
       |assumption
       |(refine nx (k+1) ?_ ?_;(· exact hz);(refine aG ?_ ?_<;>first|trivial|(simp[*,eTk];done)))
     |false=>
      rw[if_neg (by rw[hsn];decide)] at eTk;have b1:=htf hsn;clear hts htf
      repeat' (first|(with_reducible first|refine aj ?_|refine aL ?_|refine aB ?_|refine af ?_|refine al ?_|intro _)|(simp[*,hlt,hi1,hsn,hkn,wn,hkl,t3,b1]))
      all_goals first
       |omega
       |assumption
       |(refine nx (k+1) ?_ ?_;(· exact hz);(refine aG ?_ ?_<;>first|trivial|(simp[*,eTk];done)))
    ·have hke:k=m:=by omega
     subst hke
     repeat' (first|(with_reducible first|refine aj ?_|refine aY ?_|refine af ?_|refine al ?_|intro _)|(simp[*,hlt]))
     all_goals first
      |omega
      |(refine bl () ?_ ?_;(· trivial);(refine aG ?_ ?_<;>first|trivial|(simp[*];done)))
   ·clear eT0 kT kts ktf;have hR:w'=_:=kR;have hgw:(if nth s.ow ((a:Nat):Int).toNat<0 then w' else iW C m s.ow row (bo w'.sn+1) w')=W:=kgw;have hcon:¬nth s.ow ((a:Nat):Int).toNat<0→GI C n c row s.ow w':=kcon;have hun:bo w'.sn+1=bo sn:=kun
    have han:a<sn.length:=by omega
    have hao:a<s.ow.length:=by omega
    clear kR kgw kcon kun ktk hl1 hl2 hru hur h17;rw[Int.toNat_natCast] at hgw hcon hR;generalize T m=tm at *;obtain⟨tu,tv,tl⟩:=tm;dsimp only at hR ⊢;by_cases ho:nth s.ow a<0
    ·rw[if_pos ho] at hgw;rw[hgw] at hR;subst hR;clear hcon hun hgw w'
     repeat' (first|(with_reducible first|refine aj ?_|refine aY ?_|refine af ?_|refine al ?_|refine And.intro ?_ ?_|intro _)|(simp[*,wn,han,lo,hao,ham,ho]))
     all_goals first
      |omega
      |assumption
      |(refine bl () ?_ ?_;(· trivial);(refine aN [] ?_ ?_<;>first|trivial|(simp[*];done)))
    ·rw[if_neg ho] at hgw;have hg:=hcon ho;have kg:=keep (And.intro hg hgw);obtain⟨l,hol⟩:∃l:Nat,nth s.ow a=l:=⟨(nth s.ow a).toNat,by omega⟩
     have hl0:¬((l:Nat):Int)<0:=by omega
     rw[hol,Int.toNat_natCast] at hR
     have hmu:bo w'.sn<bo sn:=by omega
     clear hcon hun hgw hg ho
     repeat' (first|(with_reducible first|refine aj ?_|refine aB ?_|refine af ?_|refine al ?_|refine And.intro ?_ ?_|intro _)|(simp[*,wn,han,lo,hao,ham,hol,hl0]))
     all_goals first
      |omega
      |assumption
      |(refine pR _ _ _ _ _ w' _ ?_ (by first|omega|(dsimp only;omega)|(simp;omega)) ?_;(· exact kg);(refine aN [] ?_ ?_<;>first|trivial|(simp[*,hR];done)))
 ·have d:qQ C n c row s.ow W:=kd;have hm:m=c+n:=km;have h17:m<17:=k17;have hKK:=kK;unfold aR zH at hKK;dsimp only at hKK
  have hla:W.ah.length=m:=by rw[hm];exact d.la
  have kF:=keep (hKK W.ah hla);clear kG kK kr kb kgo kun kC kg kW k17 hKK;obtain⟨rk,r1,r2,r3⟩:=d.rk
  have hvia:∀j,j<m→nth W.sn j=true→(nth W.ah j=-1∨(0≤nth W.ah j∧nth W.ah j<(m:Int)∧nth W.sn (nth W.ah j).toNat=true)):=fun j hj hn=>by
   rcases d.pth j (by omega) hn with ⟨h1,_⟩|⟨h1,h2,h3,_⟩
   ·exact .inl h1
   ·exact .inr ⟨h1,by rw[hm];exact h2,h3⟩
  have hrk2:∀j,j<m→nth W.sn j=true→0≤nth W.ah j→rk (nth W.ah j).toNat<rk j:=fun j hj=>r2 j (by omega)
  have eA:∀f a (o:List Int),dN W.ah row (f+1) ((a:Nat):Int) o=dN W.ah row f (nth W.ah a) (o.set a (if nth W.ah a<0 then (row:Int) else nth o (nth W.ah a).toNat)):=fun f a o=>by
   conv=>lhs;unfold dN
   rw[if_neg (by omega),Int.toNat_natCast]
  have eN:∀f (o:List Int),dN W.ah row f (-1) o=o:=fun f o=>by
   cases f with
   |zero=>rfl
   |succ f=>unfold dN;rw[if_pos (by omega)]
  have a0:=d.a0;have a1:=d.a1;have a3:=d.a3;have ha4:=r1 W.at_.toNat (by omega) a3;generalize hOW:dN W.ah row (m+1) W.at_ s.ow=OW at kF;generalize W.at_=at0 at *;generalize W.ah=ah at *;generalize W.sn=sn at *
  have kJ:aR (dN ah row (m+1) at0 s.ow=OW∧s.ow.length=m∧(at0=-1∨(0≤at0∧at0<(m:Int)∧nth sn at0.toNat=true∧rk at0.toNat<m+1))):=
   ⟨hOW,lo,.inr ⟨a0,by rw[hm];exact a1,a3,by omega⟩⟩
  have kV:=keep hvia;have kk2:=keep hrk2;have kA:=keep eA;have kN:=keep eN;have k17:=keep h17;clear hvia hrk2 eA eN hOW a0 a1 a3 ha4 r1 r2 r3 d kd h17 hm km
  repeat' (first|(with_reducible first|intro _)|(simp[*]))
  refine cM 10 (fun(y:Int×List Int×Nat)=>dN ah row y.2.2 y.1 y.2.1=OW∧y.2.1.length=m∧(y.1=-1∨(0≤y.1∧y.1<(m:Int)∧nth sn y.1.toNat=true∧rk y.1.toNat<y.2.2))) [0,1] (fun(y:Int×List Int×Nat)=>[(7,.w false false (.int .i64 y.1))]) [4,9,0,1] (fun(y:Int×List Int×Nat)=>[(3,iA y.2.1)]) (fun(y:Int×List Int×Nat)=>y.2.2) (fun(_u:Unit)=>True) [] (fun(_u:Unit)=>[]) [4,9,0,1] (fun(_u:Unit)=>[(3,iA OW)]) ((at0,s.ow,m+1)) kJ (aN [] (by simp) (by simp)) (fun y hk=>?_) (fun _u hf=>?_)
  ·clear kJ kF;obtain⟨a',o,f⟩:=y;obtain⟨hj,hlo,ha⟩:=hk;dsimp only at hj hlo ha ⊢;have eN:∀f (o:List Int),dN ah row f (-1) o=o:=kN
   rcases ha with ha|⟨h1,h2,h3,h4⟩
   ·subst ha;rw[eN] at hj;clear kV kk2 kA kN k17 eN
    repeat' (first|(with_reducible first|refine aj ?_|refine aY ?_|refine af ?_|refine al ?_|intro _)|(simp[*]))
    all_goals first
     |omega
     |(refine bl () ?_ ?_;(· trivial);(refine aG ?_ ?_<;>first|trivial|(simp[*,hj];done)))
   ·obtain⟨a,rfl⟩:∃a:Nat,a'=a:=⟨a'.toNat,by omega⟩;rw[Int.toNat_natCast] at h3 h4
    have ham:a<m:=by omega
    obtain⟨f',rfl⟩:∃f',f=f'+1:=⟨f-1,by omega⟩;have hA:dN ah row (f'+1) ((a:Nat):Int) o=_:=kA f' a o;rw[hA] at hj
    have haa:a<ah.length:=by omega
    have hao:a<o.length:=by omega
    have ha0:(0:Int)≤a:=by omega
    have hv:nth ah a=-1∨(0≤nth ah a∧nth ah a<(m:Int)∧nth sn (nth ah a).toNat=true):=kV a ham h3;have hr2:0≤nth ah a→rk (nth ah a).toNat<rk a:=kk2 a ham h3;have hff:f'<f'+1:=Nat.lt_succ_self _
    rcases hv with hv|⟨v1,v2,v3⟩
    ·rw[hv,if_pos (by omega)] at hj;have kj:aR (dN ah row f' (-1) (o.set a (row:Int))=OW∧(o.set a (row:Int)).length=m∧((-1:Int)=-1∨(0≤(-1:Int)∧(-1:Int)<(m:Int)∧nth sn (-1:Int).toNat=true∧rk (-1:Int).toNat<f'))):=⟨hj,by rw[List.length_set,hlo],.inl rfl⟩;clear kV kk2 kA kN k17 eN hj hA hr2 h1 h2 h3 h4
     repeat' (first|(with_reducible first|refine aj ?_|refine aL ?_|refine aB ?_|refine af ?_|refine al ?_|refine And.intro ?_ ?_|intro _)|(simp[*,haa,hao,hla,hlo,hv,ham,ha0]))
     all_goals first
      |omega
      |assumption
      |(refine nx (-1,o.set a (row:Int),f') ?_ ?_;(· exact kj);(refine aG ?_ ?_<;>first|trivial|(simp[*];done)))
    ·obtain⟨b,hb⟩:∃b:Nat,nth ah a=b:=⟨(nth ah a).toNat,by omega⟩;rw[hb,if_neg (by omega)] at hj;rw[hb] at v1 v2 v3 hr2;rw[Int.toNat_natCast] at hj v3 hr2
     have hbo:b<o.length:=by omega
     have hbm:b<m:=by omega
     have hb0:¬((b:Nat):Int)<0:=by omega
     have hrb:=hr2 (by omega)
     have kj:aR (dN ah row f' (b:Int) (o.set a (nth o b))=OW∧(o.set a (nth o b)).length=m∧((b:Int)=-1∨(0≤(b:Int)∧(b:Int)<(m:Int)∧nth sn (b:Int).toNat=true∧rk (b:Int).toNat<f'))):=
      ⟨hj,by rw[List.length_set,hlo],.inr ⟨by omega,by omega,by rw[Int.toNat_natCast];exact v3,by rw[Int.toNat_natCast];omega⟩⟩
     clear kV kk2 kA kN k17 eN hj hA hr2 h1 h2 h3 h4 hrb v1 v2 v3
     repeat' (first|(with_reducible first|refine aj ?_|refine aL ?_|refine aB ?_|refine af ?_|refine bF (id:=32) 13 mixed (by decide +kernel) ?_|refine al ?_|refine And.intro ?_ ?_|intro _)|(simp[*,haa,hao,hla,hlo,hb,hbo,hbm,ham,ha0,hb0]))
     all_goals first
      |omega
      |assumption
      |(refine nx ((b:Int),o.set a (nth o b),f') ?_ ?_;(· exact kj);(refine aG ?_ ?_<;>first|trivial|(simp[*];done)))
  ·clear kJ kV kk2 kA kN
   repeat' (first|(with_reducible first|intro _)|(simp[*]))
   all_goals first
    |(simp[cj,dB,fj,oneOf];exact kF)
theorem Mc{fk:Fk}{a b c:St}(h:Lek fk a b)(k:Lek fk b c):Lek fk a c:=fun B w0 x w m hs=>let ⟨m',h'⟩:=h B w0 x w m hs;k B w0 x w m' h'
def zI(L:List (List Int))(n m:Nat)(s:Hs):PV:=.ip [.sl n (gB L),.sl n (ints s.u),.sl m (ints s.v),.sl m (ints s.ow),.undef] 0
theorem Md(L:List (List Int))(n c m:Nat)(hm:m=c+n)(hL:L.length=n)(hrows:∀i,i<n→(nth L i).length=m)(hp:Hp (fun i j=>nth (nth L i) j) n c):aF Tz.prog 21 [.sl n (gB L),.int .i64 m] (zI L n m (ir (fun i j=>nth (nth L i) j) n m n)) false:=by
 have hA:=fun r (hr:r≤n)=>yj hp r hr
 have eA:∀r,ir (fun i j=>nth (nth L i) j) n m (r+1)=jH (fun i j=>nth (nth L i) j) m (ir (fun i j=>nth (nth L i) j) n m r) r:=fun _=>rfl
 have e0:ir (fun i j=>nth (nth L i) j) n m 0=⟨List.replicate n 0,List.replicate m 0,List.replicate m (-1)⟩:=rfl
 have hw:=fun r (hr:r<n) (s:Hs) mi p0 K=>Po L n c m hm hL hrows hp r hr s mi p0 K
 rw[←hm] at hA;generalize ir (fun i j=>nth (nth L i) j) n m=A at *
 have hm17:m<17:=by have:=hp.nn;have:=hp.cc;omega
 have hn9:n<9:=by have:=hp.nn;omega
 have r1:=mU (-1) m (by omega);have i1:inI .i64 (n:Int):=aH (by omega) (by omega);have i2:inI .i64 (m:Int):=aH (by omega) (by omega)
 have i3:(n:Int)≤1000000000:=by omega
 have i4:(m:Int)≤1000000000:=by omega
 have kk:=keep (And.intro hA (And.intro eA (And.intro hw (And.intro hm17 hn9))))
 have f1:iA (A 0).u=List.replicate n (.w false false (.int .i64 0)):=by rw[e0];simp[iA,ints]
 have f2:iA (A 0).v=List.replicate m (.w false false (.int .i64 0)):=by rw[e0];simp[iA,ints]
 have f3:(A 0).ow=List.replicate m (-1):=by rw[e0]
 clear hA eA hw hm17 hn9 e0 hp hrows;unfold zI;have kL:=keep hL;have km:=keep hm;clear hL hm;refine rcK Tz.func21 ?_;simp only[Tryz.results21,Tryz.ntmps21]
 repeat' (first|(with_reducible first|refine aj ?_|refine af ?_|refine bF (id:=1) 12 mixed (by decide +kernel) ?_|refine cwM (r1) ?_|intro _)|(simp[*,i1,i2,i3,i4]))
 all_goals try first|omega|assumption
 clear r1;refine cM 5 (fun(r:Nat)=>r≤n) [5,19] (fun(r:Nat)=>[(20,.w false false (.int .i64 r))]) [] (fun(r:Nat)=>[(4,[.w false false (.sl n (gB L)),.msl 0 n 1 0 n,.msl 1 m 1 0 m,.msl 3 m 1 0 m,.w false false .undef]),(0,iA (A r).u),(1,iA (A r).v),(3,iA (A r).ow)]) (fun(r:Nat)=>n-r) (fun(_u:Unit)=>True) [5] (fun(_u:Unit)=>[]) [] (fun(_u:Unit)=>[(4,[.w false false (.sl n (gB L)),.msl 0 n 1 0 n,.msl 1 m 1 0 m,.msl 3 m 1 0 m,.w false false .undef]),(0,iA (A n).u),(1,iA (A n).v),(3,iA (A n).ow)]) (0) (Nat.zero_le _) (aN [] (by simp[f1,f2,f3]) (by simp[f1,f2,f3])) (fun r hk=>?_) (fun _u hf=>?_)
 ·clear f1 f2 f3;by_cases hlt:r<n
  ·obtain⟨hA,eA,hw,hm17,hn9⟩:=kk;have hmi:=hA r hk;have hs:=hw r hlt (A r) hmi .undef;rw[←eA r] at hs;have hi1:inI .i64 ((r:Int)+1):=aH (by omega) (by omega)
   have hz:r+1≤n:=by omega
   unfold zH at hs;have khs:=keep hs;clear hA eA hw hm17 hn9 hmi hs
   repeat' (first|(with_reducible first|refine tA (id:=5) 2 Tz.func43 (by kernel_rfl) (show Tryz.f43.body=some (Tryz.f43.body.getD .skip) from rfl) (by decide) rfl ?_|refine aj ?_|refine aL ?_|refine aB ?_|refine af ?_|refine al ?_|intro _)|(simp[*,hlt,hi1]))
   all_goals try first|omega|assumption
   refine tz (by decide) (by simp) rfl ?_;refine khs _ (fun ah hah=>?_);clear khs
   repeat' (first|(with_reducible first|refine af ?_|intro _)|(simp[*,hlt,hi1]))
   refine pR _ _ _ _ _ (r+1) _ hz (by omega) (Mc (b:=⟨[(20,.w false false (.int .i64 ((r:Int)+1))),(5,.ptr 4 5 0),(19,.w false false (.int .i64 n))],[(4,[.w false false (.sl n (gB L)),.msl 0 n 1 0 n,.msl 1 m 1 0 m,.msl 3 m 1 0 m,.w false false (.sl m (ints ah))]),(0,iA (A (r+1)).u),(1,iA (A (r+1)).v),(3,iA (A (r+1)).ow)],5,28⟩) (aN [9] ?_ ?_) (aN [] ?_ ?_))
   all_goals first|trivial|(simp[*];done)|trace_state
  ·have hke:r=n:=by omega
   subst hke
   repeat' (first|(with_reducible first|refine aj ?_|refine aY ?_|refine af ?_|refine al ?_|intro _)|(simp[*,hlt]))
   all_goals first
    |omega
    |(refine bl () ?_ ?_;(· trivial);(refine aG ?_ ?_<;>first|trivial|(simp[*];done)))
 ·clear f1 f2 f3;have hmi:=kk.1 n (Nat.le_refl n);have hm':m=c+n:=km;have l1:=hmi.lu
  have l2:(A n).v.length=m:=by rw[hm'];exact hmi.lv
  have l3:(A n).ow.length=m:=by rw[hm'];exact hmi.lo
  clear kk hmi hm' km
  repeat' (first|(with_reducible first|refine aj ?_|refine aD ?_|refine af ?_|intro _)|(simp[*,l1,l2,l3]))
end Go.Proofs.YtmaaehaedfemaaaGreat
namespace Go.Proofs.YtmaaehaedfemaaaGreat
open Go Go.Fi
noncomputable instance instLD37:ak:=LD
def qR(x:Rd)(i j:Nat):Int:=nth (nth (dL x x.os.length) i) j
theorem tC{α:Type}[Inhabited α](f:Nat→α)(n j:Nat)(h:j<n):nth ((List.range n).map f) j=f j:=by
 simp[nth,List.getD_eq_getElem?_getD,h]
theorem yk(x:Rd)(i j:Nat)(hi:i<x.os.length)(hj:j<x.ae.length+x.os.length):qR x i j=mf x i j:=by
 unfold qR dL;rw[tC _ _ _ hi];unfold iU;rw[tC _ _ _ hj]
theorem tD(x:Rd)(ok:eJ x):Hp (qR x) x.os.length x.ae.length:=by
 refine⟨ok.lo,ok.lc,fun i hi=>?_,fun i l hi hl hne=>?_,fun i j hi hj=>?_⟩
 ·rw[yk x i _ hi (by omega)];unfold mf;rw[if_neg (by omega),if_pos rfl];have:=lD (prio x i) (qd x ok i hi).1;omega
 ·rw[yk x i _ hi (by omega)];unfold mf;rw[if_neg (by omega),if_neg (by omega)]
 ·rw[yk x i _ hi (by omega)];unfold mf;by_cases hf:nth (nth x.fit i) j=true
  ·rw[if_pos ⟨hj,hf⟩];have:=ok.wn i hi j hj;omega
  ·rw[if_neg (fun h=>hf h.2),if_neg (by omega)];exact .inl rfl
noncomputable def fG(x:Rd):Hs:=ir (qR x) x.os.length (x.ae.length+x.os.length) x.os.length
noncomputable def jI(x:Rd):List Int:=cL (fG x).ow x.os.length x.ae.length
noncomputable def gH(x:Rd):List Int:=(List.range x.ae.length).map fun k=>-(nth (fG x).v k)
noncomputable def uA(x:Rd):List Int:=(List.range x.os.length).map fun i=>fE x i (gH x)
theorem ym(x:Rd)(ok:eJ x):MI (qR x) x.os.length x.ae.length x.os.length (fG x).u (fG x).v (fG x).ow:=yj (tD x ok) _ (Nat.le_refl _)
theorem Mf(x:Rd)(ok:eJ x)(k:Nat)(hk:k<x.ae.length):0≤nth (gH x) k∧nth (gH x) k≤1000000000000:=by
 have m:=ym x ok;unfold gH;rw[tC _ _ _ hk];have h1:=m.hv k (by omega);have h2:=m.vb (tD x ok) (Nat.le_refl _) (j:=k) (by omega);omega
theorem yn(tk:List Int)(n:Nat):∀c,(∀k,k<c→nth tk k<(n:Int))→∀i,nth (cL tk n c) i=-1∨(0≤nth (cL tk n c) i∧nth (cL tk n c) i<(c:Int))∨n≤i
 |0,_,i=>by
  by_cases h:i<n
  ·left;exact oe _ _ _ h
  ·exact .inr (.inr (by omega))
 |c+1,h,i=>by
  have ih:=yn tk n c (fun k hk=>h k (by omega)) i;have hc:=h c (by omega);unfold cL;by_cases h0:0≤nth tk c
  ·rw[if_pos h0,dH _ _ _ _ (by rw[iE];omega)];split
   ·right;left;omega
   ·rcases ih with h1|h1|h1
    ·exact .inl h1
    ·right;left;omega
    ·exact .inr (.inr h1)
  ·rw[if_neg h0]
   rcases ih with h1|h1|h1
   ·exact .inl h1
   ·right;left;omega
   ·exact .inr (.inr h1)
theorem Mg(x:Rd)(ok:eJ x):o7 x (jI x):=by
 have m:=ym x ok;refine⟨iE _ _ _,fun k hk=>?_⟩
 have hk':k<x.os.length:=by rw[←iE (fG x).ow x.os.length x.ae.length];exact hk
 rcases yn (fG x).ow x.os.length x.ae.length (fun k hk=>by rcases m.how k (by omega) with h|h<;>omega) k with h|h|h
 ·exact .inl h
 ·exact .inr h
 ·omega
noncomputable def zJ(x:Rd):PV:=.agg [.sl x.os.length (ints (jI x)),.int .i64 (nH x (jI x)),.sl x.os.length (ints (uA x)),.sl x.ae.length (ints (gH x))]
noncomputable instance instLD38:ak:=LD
theorem Ej(f:Nat→Int)(k:Nat):(List.range (k+1)).map f=(List.range k).map f++[f k]:=by simp[List.range_succ]
theorem Mn(r:Tw.RND)(h:ceR r=0):aF Tz.prog 10 [Tw.bM r] (.tup [zJ (aA r),.int .i64 0]) false:=by
 have ok:=nE r h;have c1:=kB r;rw[od r h] at c1;generalize hx:aA r=x at *;clear hx h;have mi:=ym x ok;have c2:=Me x ok
 have c3:=Md (dL x x.os.length) x.os.length x.ae.length (x.ae.length+x.os.length) rfl (DF x _) (fun i hi=>by
  have:nth (dL x x.os.length) i=iU x i:=tC _ _ _ hi
  rw[this,K4]) (tD x ok)
 have eA:ir (fun i j=>nth (nth (dL x x.os.length) i) j) x.os.length (x.ae.length+x.os.length) x.os.length=fG x:=rfl;rw[eA] at c3;clear eA;have c4:=Du x ok (jI x) (Mg x ok)
 have c5:=fun i hi=>Dq x i (gH x) hi (by have:=ok.lc;omega) (by have:=ok.lf;omega) (by have:=ok.lw;omega) (ok.fr i hi) (ok.wr i hi) (by simp[gH]) (ok.pr i hi) (ok.wn i hi) (fun k hk=>by have:=Mf x ok k hk;omega)
 have lcar:(gH x).length=x.ae.length:=by simp[gH]
 have lpl:(jI x).length=x.os.length:=iE _ _ _;rw[lcar] at c5;rw[lpl] at c4;have r1:=mU (-1) x.os.length (by have:=ok.lo;omega);have lo:=ok.lo;have lc:=ok.lc
 have mv:∀k,k<x.ae.length→inI .i64 (-(nth (fG x).v k)):=fun k hk=>by
  have h1:=mi.hv k (by omega);have h2:=mi.vb (tD x ok) (Nat.le_refl _) (j:=k) (by omega);exact aH (by omega) (by omega)
 have mo:∀k,k<x.ae.length→nth (fG x).ow k=-1∨(0≤nth (fG x).ow k∧nth (fG x).ow k<(x.os.length:Int)):=fun k hk=>mi.how k (by omega)
 have ml:=mi.lo;have mlv:=mi.lv
 have eC:gH x=(List.range x.ae.length).map fun k=>-(nth (fG x).v k):=rfl
 have eO:uA x=(List.range x.os.length).map fun i=>fE x i (gH x):=rfl
 have eP:jI x=cL (fG x).ow x.os.length x.ae.length:=rfl;unfold zJ;unfold zI at c3;generalize nH x (jI x)=CO at *;generalize gH x=BC at *;generalize uA x=BO at *;generalize jI x=BP at *;generalize fG x=A at *;obtain⟨Au,Av,Ao⟩:=A;dsimp only at c3 mv mo ml mlv eC eO eP;generalize dL x x.os.length=TS at *;obtain⟨m,hm⟩:∃m,x.ae.length+x.os.length=m:=⟨_,rfl⟩;rw[hm] at c3 ml mlv
 have hmI:(x.ae.length:Int)+(x.os.length:Int)=(m:Int):=by omega
 have hmi:inI .i64 (m:Int):=aH (by omega) (by omega);have kk:=keep (And.intro mv (And.intro mo (And.intro c5 (And.intro hm (And.intro lo lc)))));have kC:=keep eC;have kO:=keep eO;have kP:=keep eP;clear mi ok mv mo c5 hm lo lc eC eO eP;unfold Rd.pv at c1 c2 c4;unfold Tw.bM at *;generalize r.dK=p1 at *;generalize r.osP=p2 at *;generalize r.eF=p3 at *;generalize r.zsP=p4 at *;refine rcK Tz.func10 ?_;simp only[Tryz.results10,Tryz.ntmps10]
 repeat' (first|(with_reducible first|refine aj ?_|refine aB ?_|refine af ?_|refine bF (id:=5) 12 mixed (by decide +kernel) ?_|refine al ?_|refine And.intro ?_ ?_|refine cw (c1) ?_|refine cw (c2) ?_|refine cw (c3) ?_|refine cwM (r1) ?_|intro _)|(simp[*,hmI,hmi])|(refine az (c1) ?_ ?_;(· (simp[*];done)))|(refine az (c2) ?_ ?_;(· (simp[*];done)))|(refine az (c3) ?_ ?_;(· (simp[*];done))))
 all_goals try first|omega|assumption
 clear c1 c2 c3 r1;have e1:iA (cL Ao x.os.length 0)=iA (List.replicate x.os.length (-1)):=rfl;have e0:iA []=[]:=rfl;have e2:iA ((List.range 0).map fun k=>-(nth Av k))=[]:=rfl;refine cM 6 (fun(k:Nat)=>k≤x.ae.length) [2,4,7,8,47] (fun(k:Nat)=>[(48,.w false false (.int .i64 k))]) [1] (fun(k:Nat)=>[(4,iA (cL Ao x.os.length k)),(5,iA ((List.range k).map fun k=>-(nth Av k))),(2,[.msl 4 x.os.length 1 0 x.os.length,.w false false (.int .i64 0),.w true true (.sl 0 []),.msl 5 k 1 0 k])]) (fun(k:Nat)=>x.ae.length-k) (fun(_u:Unit)=>True) [2,4,8] (fun(_u:Unit)=>[]) [1] (fun(_u:Unit)=>[(4,iA BP),(5,iA BC),(2,[.msl 4 x.os.length 1 0 x.os.length,.w false false (.int .i64 0),.w true true (.sl 0 []),.msl 5 x.ae.length 1 0 x.ae.length])]) (0) (Nat.zero_le _) (aN [] (by simp[e1,e2,e0]) (by simp[e1,e2,e0])) (fun k hk=>?_) (fun _u hf=>?_)
 ·clear e1 e2 e0;by_cases hlt:k<x.ae.length
  ·obtain⟨mv,mo,c5,hm,lo,lc⟩:=kk;have hi1:inI .i64 ((k:Int)+1):=aH (by omega) (by omega)
   have hz:k+1≤x.ae.length:=by omega
   have hiv:=mv k hlt;have hio:=mo k hlt
   have hkv:k<Av.length:=by omega
   have hko:k<Ao.length:=by omega
   have hkm:k<m:=by omega
   have hpl:=iE Ao x.os.length k
   have hcl:((List.range k).map fun k=>-(nth Av k)).length=k:=by simp
   have eS:iA ((List.range (k+1)).map fun k=>-(nth Av k))=iA ((List.range k).map fun k=>-(nth Av k))++[.w false false (.int .i64 (-(nth Av k)))]:=by rw[Ej,←qe];rfl
   have eP:cL Ao x.os.length (k+1)=if 0≤nth Ao k then (cL Ao x.os.length k).set (nth Ao k).toNat k else cL Ao x.os.length k:=rfl
   have hk9:k+1≤1000000000:=by omega
   generalize ((List.range k).map fun k=>-(nth Av k))=CK at hcl eS ⊢;clear mv mo c5 hm lo lc kC kO kP
   rcases hio with hio|⟨h1,h2⟩
   ·rw[if_neg (by omega)] at eP
    repeat' (first|(with_reducible first|refine aj ?_|refine aL ?_|refine aB ?_|refine af ?_|refine bF (id:=14) 12 mixed (by decide +kernel) ?_|refine al ?_|intro _)|(simp[*,hlt,hi1,hiv,hio,hkv,hko,hkm,ml,mlv,hpl,hcl]))
    all_goals first
     |omega
     |assumption
     |(refine nx (k+1) ?_ ?_;(· exact hz);(refine aN [] ?_ ?_<;>first|trivial|(simp[*,eS,eP];done)))
   ·obtain⟨j,hj⟩:∃j:Nat,nth Ao k=j:=⟨(nth Ao k).toNat,by omega⟩;rw[hj,if_pos (by omega),Int.toNat_natCast] at eP
    have hjo:j<x.os.length:=by omega
    have hj0:(0:Int)≤(j:Int):=by omega
    clear h1 h2
    repeat' (first|(with_reducible first|refine aj ?_|refine aL ?_|refine aB ?_|refine af ?_|refine bF (id:=14) 12 mixed (by decide +kernel) ?_|refine al ?_|refine And.intro ?_ ?_|intro _)|(simp[*,hlt,hi1,hiv,hj,hkv,hko,hkm,ml,mlv,hpl,hcl,hjo,hj0]))
    all_goals first
     |omega
     |assumption
     |(refine nx (k+1) ?_ ?_;(· exact hz);(refine aN [] ?_ ?_<;>first|trivial|(simp[*,eS,eP];done)))
  ·have hke:k=x.ae.length:=by omega
   subst hke
   have kC2:BC=(List.range x.ae.length).map fun k=>-(nth Av k):=kC
   have kP2:BP=cL Ao x.os.length x.ae.length:=kP;clear kk kC kO kP
   repeat' (first|(with_reducible first|refine aj ?_|refine aY ?_|refine af ?_|refine al ?_|intro _)|(simp[*,hlt]))
   all_goals first
    |omega
    |(refine bl () ?_ ?_;(· trivial);(refine aG ?_ ?_<;>first|trivial|(simp[*,kC2,kP2];done)))
 ·clear e1 e2 e0 kC kP
  repeat' (first|(with_reducible first|refine aj ?_|refine af ?_|intro _)|(simp[*]))
  have e0:iA []=[]:=rfl;have e3:iA ((List.range 0).map fun i=>fE x i BC)=[]:=rfl;refine cM 7 (fun(i:Nat)=>i≤x.os.length) [2,4,8,86] (fun(i:Nat)=>[(87,.w false false (.int .i64 i))]) [1,4,5] (fun(i:Nat)=>[(6,iA ((List.range i).map fun i=>fE x i BC)),(2,[.msl 4 x.os.length 1 0 x.os.length,.w false false (.int .i64 0),.msl 6 i 1 0 i,.msl 5 x.ae.length 1 0 x.ae.length])]) (fun(i:Nat)=>x.os.length-i) (fun(_u:Unit)=>True) [2,4,8] (fun(_u:Unit)=>[]) [1,4,5] (fun(_u:Unit)=>[(6,iA BO),(2,[.msl 4 x.os.length 1 0 x.os.length,.w false false (.int .i64 0),.msl 6 x.os.length 1 0 x.os.length,.msl 5 x.ae.length 1 0 x.ae.length])]) (0) (Nat.zero_le _) (aN [] (by simp[e3,e0]) (by simp[e3,e0])) (fun i hk=>?_) (fun _u hf=>?_)
  ·clear e3 e0;by_cases hlt:i<x.os.length
   ·obtain⟨mv,mo,c5,hm,lo,lc⟩:=kk;have hi1:inI .i64 ((i:Int)+1):=aH (by omega) (by omega)
    have hz:i+1≤x.os.length:=by omega
    have c:=c5 i hlt;unfold Rd.pv at c
    have hcl:((List.range i).map fun i=>fE x i BC).length=i:=by simp
    have eS:iA ((List.range (i+1)).map fun i=>fE x i BC)=iA ((List.range i).map fun i=>fE x i BC)++[.w false false (.int .i64 (fE x i BC))]:=by rw[Ej,←qe];rfl
    have hk9:i+1≤1000000000:=by omega
    generalize ((List.range i).map fun i=>fE x i BC)=OK at hcl eS ⊢;generalize fE x i BC=pr at c eS;clear mv mo c5 hm lo lc kO
    repeat' (first|(with_reducible first|refine aj ?_|refine aL ?_|refine aB ?_|refine af ?_|refine bF (id:=19) 10 mixed (by decide +kernel) ?_|refine al ?_|refine And.intro ?_ ?_|refine cw (c) ?_|intro _)|(simp[*,hlt,hi1,hcl,lcar])|(refine az (c) ?_ ?_;(· (simp[*];done))))
    all_goals first
     |omega
     |assumption
     |(refine nx (i+1) ?_ ?_;(· exact hz);(refine aN [] ?_ ?_<;>first|trivial|(simp[*,eS];done)))
   ·have hke:i=x.os.length:=by omega
    subst hke
    have kO2:BO=(List.range x.os.length).map fun i=>fE x i BC:=kO
    clear kk kO
    repeat' (first|(with_reducible first|refine aj ?_|refine aY ?_|refine af ?_|refine al ?_|intro _)|(simp[*,hlt]))
    all_goals first
     |omega
     |(refine bl () ?_ ?_;(· trivial);(refine aG ?_ ?_<;>first|trivial|(simp[*,kO2];done)))
  ·clear e3 e0 kk
   have lbo:BO.length=x.os.length:=by rw[show BO=_ from kO];simp
   clear kO
   repeat' (first|(with_reducible first|refine aj ?_|refine aD ?_|refine af ?_|refine And.intro ?_ ?_|refine cw (c4) ?_|intro _)|(simp[*,lpl,lcar,lbo])|(refine az (c4) ?_ ?_;(· (simp[*];done))))
end Go.Proofs.YtmaaehaedfemaaaGreat
