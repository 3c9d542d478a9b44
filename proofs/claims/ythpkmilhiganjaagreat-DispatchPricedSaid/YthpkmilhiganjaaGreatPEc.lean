/- Lemmas. -/
import Derived.Test.YthpkmilhiganjaaGreatPEb
import Derived.Test.YthpkmilhiganjaaGreatPDb
import Derived.Test.YthpkmilhiganjaaGreatPDc
set_option linter.unusedSimpArgs false
set_option linter.unusedVariables false
set_option linter.unusedSectionVars false
set_option maxHeartbeats 32000000
set_option maxRecDepth 100000
namespace Go.Proofs.YthpkmilhiganjaaGreat
open Go Go.Fi
noncomputable instance pw:ar:=LD
theorem k7(r:Tw.RND)(po pc:List Int)(h:ceR r=0)(he:bK r.ab r.os po pc≠0):bZ r po pc=(0,bK r.ab r.os po pc):=by
 have H:¬(ceR r≠0):=fun e=>e h
 unfold bZ;rw[if_neg H];unfold bK at he ⊢;by_cases hl:po.length=r.os.length∧pc.length=r.ab.length
 ·have hn:¬¬(po.length=r.os.length∧pc.length=r.ab.length):=fun e=>e hl
  rw[if_neg hn] at he;rw[if_neg hn,if_neg hn];unfold cm;split
  ·rfl
  ·split
   ·rfl
   ·rename_i g1 g2;rw[if_neg g1,if_neg g2] at he;exact absurd rfl he
 ·rw[if_pos hl,if_pos hl]
theorem ln(r:Tw.RND)(po pc:List Int)(h:ceR r=0)(he:bK r.ab r.os po pc=0):(po.length=r.os.length∧pc.length=r.ab.length)∧po.any bB=false∧pc.any bA=false∧bZ r po pc=((cd r po pc).1,if (cd r po pc).2 then 0 else 20):=by
 have H:¬(ceR r≠0):=fun e=>e h
 have ok:=ej r h;unfold bK at he;split at he
 ·exact absurd he (by decide)
 rename_i hl;have hl:=Classical.not_not.1 hl;split at he
 ·exact absurd he (by decide)
 rename_i g1;split at he
 ·exact absurd he (by decide)
 rename_i g2;refine⟨hl,by simpa using g1,by simpa using g2,?_⟩;unfold bZ
 have hn:¬¬(po.length=r.os.length∧pc.length=r.ab.length):=fun e=>e hl
 rw[if_neg H,if_neg hn];unfold cm cd;rw[if_neg g1,if_neg g2,eC r ok pc po 0 (by omega)]
 cases bO r pc po 0<;>rfl
theorem eE{p:Int→Bool}{l:List Int}(h:l.any p=false)(j:Nat)(hj:j<l.length):p (nth l j)=false:=by
 have:=List.any_eq_false.1 h (nth l j) (ew hj);simpa using this
theorem lp(ab:List Car)(os:List Ord)(wt:List (List Int))(zs:List Par)(po pc:List Int):nH Tz.prog Tryz.f3 (Tryz.f3.body.getD .skip) [.agg [.sl ab.length (aQ ab),.sl os.length (aP os),.sl wt.length (aZ wt),.sl zs.length (aS zs)],.agg [.sl po.length (ints po),.sl pc.length (ints pc)]] (.bool true) true:=by
 have ca:=qv;have cf:=qU ab os wt zs;refine oo (Nat.le_of_ble_eq_true (by kernel_rfl)) ?_;have hb:Tryz.f3.body=some _:=rfl;rw[hb];clear hb;simp only[Option.getD_some,Tryz.ntmps3,Tryz.results3]
 cases hw:jK ab os wt zs with
 |false=>
  rw[hw] at cf;clear hw
  repeat' (first|(with_reducible first|refine af ?_|refine av ?_|refine az ?_|refine ae ?_|refine ak ?_|refine And.intro ?_ ?_|refine cw (ca) ?_|refine cw (cf) ?_|intro _)|(simp[*])|(refine ai (ca) ?_ ?_;(· (simp[*];done)))|(refine ai (cf) ?_ ?_;(· (simp[*];done))))
  all_goals first|omega
 |true=>
  rw[hw] at cf;by_cases hl:po.length≤10∧pc.length≤10
  ·obtain⟨h2,h3⟩:=hl
   have i2:¬(10:Int)<po.length:=by omega
   have i3:¬(10:Int)<pc.length:=by omega
   obtain⟨⟨l1,_⟩,⟨l2,_⟩,l3,l4,l5,l6,l7⟩:=qp hw;have cc:aA Tz.prog 18 [.agg [.sl ab.length (aQ ab),.sl os.length (aP os),.sl wt.length (aZ wt),.sl zs.length (aS zs)]] (.agg [.sl ab.length (aQ ab),.sl os.length (aP os),.sl wt.length (aZ wt),.sl zs.length (aS zs)]) true:=qn (bM ab os wt zs hw)
   have c1:aA Tz.prog 20 [.agg [.sl ab.length (aQ ab),.sl os.length (aP os),.sl wt.length (aZ wt),.sl zs.length (aS zs)]] (.int .i64 (ceR (bM ab os wt zs hw))) true:=
    kK ab os wt zs (by omega) (by omega) (by omega) (by omega) (fun x hx=>by have:=l5 x hx;omega) (fun x hx=>by have:=l6 x hx;omega) (fun x hx=>by have:=l7 x hx;omega)
   have c2:aA Tz.prog 17 [.agg [.sl ab.length (aQ ab),.sl os.length (aP os),.sl wt.length (aZ wt),.sl zs.length (aS zs)],.agg [.sl po.length (ints po),.sl pc.length (ints pc)]] _ false:=kQ (bM ab os wt zs hw) po pc;have c4:=Dz po pc (by omega) (by omega);have c3:=kV ab os wt zs po pc (by omega) (by omega);by_cases he:ceR (bM ab os wt zs hw)=0
   ·by_cases hp:bK ab os po pc=0
    ·obtain⟨⟨hpo,hpc⟩,go,gc,e⟩:=ln (bM ab os wt zs hw) po pc he hp;have c5:aA Tz.prog 22 [.agg [.sl ab.length (aQ ab),.sl os.length (aP os),.sl wt.length (aZ wt),.sl zs.length (aS zs)],.agg [.sl po.length (ints po),.sl pc.length (ints pc)]] _ true:=k6 (bM ab os wt zs hw) (ej _ he) po pc hpo hpc
      (fun j hj=>by have:=eE go j hj;unfold bB at this;have:=bW.1 (by simpa using this);omega) (fun j hj=>by have:=eE gc j hj;unfold bA at this;have:=bW.1 (by simpa using this);omega)
     rw[e] at c2;rw[he] at c1;rw[hp] at c3;generalize cd (bM ab os wt zs hw) po pc=Bd at *;obtain⟨b1,b2⟩:=Bd;dsimp only at c2 c5;clear e hpo hpc go gc hp he hw l5 l6 l7 h2 h3
     cases b2 with
     |true=>
      simp only[if_true] at c2
      repeat' (first|(with_reducible first|refine af ?_|refine av ?_|refine az ?_|refine ae ?_|refine aK (id:=5) 10 mixed (by decide +kernel) ?_|refine ak ?_|refine And.intro ?_ ?_|refine cw (ca) ?_|refine cw (cf) ?_|refine cw (cc) ?_|refine cw (c1) ?_|refine cw (c2) ?_|refine cw (c3) ?_|refine cw (c4) ?_|refine cw (c5) ?_|intro _)|(simp[*,i2,i3])|(refine ai (ca) ?_ ?_;(· (simp[*];done)))|(refine ai (cf) ?_ ?_;(· (simp[*];done)))|(refine ai (cc) ?_ ?_;(· (simp[*];done)))|(refine ai (c1) ?_ ?_;(· (simp[*];done)))|(refine ai (c2) ?_ ?_;(· (simp[*];done)))|(refine ai (c3) ?_ ?_;(· (simp[*];done)))|(refine ai (c4) ?_ ?_;(· (simp[*];done)))|(refine ai (c5) ?_ ?_;(· (simp[*];done))))
      all_goals first|omega
     |false=>
      simp only[Bool.false_eq_true,if_false] at c2
      repeat' (first|(with_reducible first|refine af ?_|refine av ?_|refine az ?_|refine ae ?_|refine aK (id:=5) 10 mixed (by decide +kernel) ?_|refine ak ?_|refine And.intro ?_ ?_|refine cw (ca) ?_|refine cw (cf) ?_|refine cw (cc) ?_|refine cw (c1) ?_|refine cw (c2) ?_|refine cw (c3) ?_|refine cw (c4) ?_|refine cw (c5) ?_|intro _)|(simp[*,i2,i3])|(refine ai (ca) ?_ ?_;(· (simp[*];done)))|(refine ai (cf) ?_ ?_;(· (simp[*];done)))|(refine ai (cc) ?_ ?_;(· (simp[*];done)))|(refine ai (c1) ?_ ?_;(· (simp[*];done)))|(refine ai (c2) ?_ ?_;(· (simp[*];done)))|(refine ai (c3) ?_ ?_;(· (simp[*];done)))|(refine ai (c4) ?_ ?_;(· (simp[*];done)))|(refine ai (c5) ?_ ?_;(· (simp[*];done))))
      all_goals first|omega
    ·have e:bZ (bM ab os wt zs hw) po pc=(0,bK ab os po pc):=k7 (bM ab os wt zs hw) po pc he hp;rw[e] at c2;rw[he] at c1;generalize bK ab os po pc=d at *;clear e he hw l5 l6 l7 h2 h3
     repeat' (first|(with_reducible first|refine af ?_|refine av ?_|refine az ?_|refine ae ?_|refine aK (id:=5) 10 mixed (by decide +kernel) ?_|refine ak ?_|refine And.intro ?_ ?_|refine cw (ca) ?_|refine cw (cf) ?_|refine cw (cc) ?_|refine cw (c1) ?_|refine cw (c2) ?_|refine cw (c3) ?_|refine cw (c4) ?_|intro _)|(simp[*,i2,i3,hp])|(refine ai (ca) ?_ ?_;(· (simp[*];done)))|(refine ai (cf) ?_ ?_;(· (simp[*];done)))|(refine ai (cc) ?_ ?_;(· (simp[*];done)))|(refine ai (c1) ?_ ?_;(· (simp[*];done)))|(refine ai (c2) ?_ ?_;(· (simp[*];done)))|(refine ai (c3) ?_ ?_;(· (simp[*];done)))|(refine ai (c4) ?_ ?_;(· (simp[*];done))))
     all_goals first|omega
   ·have e:bZ (bM ab os wt zs hw) po pc=(0,ceR (bM ab os wt zs hw)):=by unfold bZ;rw[if_pos he]
    rw[e] at c2;generalize ceR (bM ab os wt zs hw)=d at *;clear e hw l5 l6 l7 h2 h3 c3
    repeat' (first|(with_reducible first|refine af ?_|refine av ?_|refine az ?_|refine ae ?_|refine aK (id:=5) 10 mixed (by decide +kernel) ?_|refine ak ?_|refine And.intro ?_ ?_|refine cw (ca) ?_|refine cw (cf) ?_|refine cw (cc) ?_|refine cw (c1) ?_|refine cw (c2) ?_|refine cw (c4) ?_|intro _)|(simp[*,i2,i3,he])|(refine ai (ca) ?_ ?_;(· (simp[*];done)))|(refine ai (cf) ?_ ?_;(· (simp[*];done)))|(refine ai (cc) ?_ ?_;(· (simp[*];done)))|(refine ai (c1) ?_ ?_;(· (simp[*];done)))|(refine ai (c2) ?_ ?_;(· (simp[*];done)))|(refine ai (c4) ?_ ?_;(· (simp[*];done))))
    all_goals first|omega
  ·have kl:=keep hl;clear hl hw
   repeat' (first|(with_reducible first|refine af ?_|refine av ?_|refine az ?_|refine ae ?_|refine aK (id:=5) 10 mixed (by decide +kernel) ?_|refine ak ?_|refine And.intro ?_ ?_|apply DF|exact FD|exact DC|refine lI ?_ ?_|refine cw (ca) ?_|refine cw (cf) ?_|intro _)|(simp[*])|(refine ai (ca) ?_ ?_;(· (simp[*];done)))|(refine ai (cf) ?_ ?_;(· (simp[*];done))))
   all_goals (rename_i hc;exfalso;have h:=kl;unfold aI at h;simp at hc;omega)
end Go.Proofs.YthpkmilhiganjaaGreat
