/- Lemmas. -/
import Derived.Test.YthpkmilhiganjaaGreatPDc
import Derived.Test.YthpkmilhiganjaaGreatPLg
import Derived.Test.YthpkmilhiganjaaGreatPLf
import Derived.Test.YthpkmilhiganjaaGreatPDb
import Derived.Test.YthpkmilhiganjaaGreatPDa
import Derived.Test.YthpkmilhiganjaaGreatRows
import Derived.Conc.LeavingOf
import Derived.Test.YthpkmilhiganjaaGreatPMc
import Derived.ProofKit
set_option linter.unusedSimpArgs false
set_option linter.unusedVariables false
set_option linter.unusedSectionVars false
set_option maxHeartbeats 32000000
set_option maxRecDepth 100000
namespace Go.Proofs.YthpkmilhiganjaaGreat
open Go Go.Fi
noncomputable instance VL:ah:=LD
theorem Cz(v:Int):kJ Tz.prog 81 [.sl 1 [.int .i64 v],.int .i64 (2:Nat)] [[.w false false (.int .i64 v),.w false false (.int .i64 v)]] (.msl 0 2 1 0 2):=by
 have c:=AS 2 (.inl rfl);refine AR 0 [] Tz.func81 (by kernel_rfl) rfl (Nat.le_of_ble_eq_true (by kernel_rfl)) (by simp) (by intro c hc;simp only[List.mem_singleton] at hc;subst hc;rfl) ?_;simp only[Tryz.results81,Tryz.ntmps81]
 repeat' (first|(with_reducible first|refine eu 40 ?_|refine eN ?_|refine cO ?_|refine ak ?_|refine aH ?_|refine aA ?_|refine bf ?_|refine aj ?_|refine qo (id:=9) [0,1,2,3,4,5,6] [7,8,9] [[.slot 7],[],[],[],[],[],[]] [[.slot 7],[],[]] mixed (by decide +kernel) ?_|refine aD ?_|refine And.intro ?_ ?_|refine cw (c) ?_|intro _)|(simp[*])|(refine ai (c) ?_ ?_;(· (simp[*];done))))
 all_goals first|exact cN (by decide)|(simp[touch];done)
theorem qD:az Tz.prog 73 [rd2,.int .i64 0,.sl 2 [.int .i64 100,.int .i64 0]] (.int .i64 200) true∧az Tz.prog 73 [rd2,.int .i64 1,.sl 2 [.int .i64 100,.int .i64 0]] (.int .i64 250) true:=by
 have c1:=AM;unfold rd2;constructor
 all_goals
  refine rcK Tz.func73 ?_;simp only[Tryz.results73,Tryz.ntmps73]
  repeat' (first|(with_reducible first|refine eu 40 ?_|refine eN ?_|refine cO ?_|refine ak ?_|refine aH ?_|refine aA ?_|refine bf ?_|refine aj ?_|refine bo (id:=6) 18 mixed (by decide +kernel) ?_|refine aD ?_|refine And.intro ?_ ?_|refine cw (c1) ?_|intro _)|(simp[*,Tw.bE])|(refine ai (c1) ?_ ?_;(· (simp[*];done))))
 all_goals first|exact cN (by decide)|(simp[touch];done)
theorem II:az Tz.prog 25 [Tw.bn gu] (.tup [.agg [.sl 2 [.int .i64 1,.int .i64 0],.int .i64 350,.sl 2 [.int .i64 200,.int .i64 250],.sl 2 [.int .i64 100,.int .i64 0]],.int .i64 0]) false:=by
 have c1:=nJ;have c2:=ID;have c3:=IE;have r1:=Cz (-1);have c4:az Tz.prog 78 [rd2,.sl 2 [.int .i64 1,.int .i64 0]] (.int .i64 350) true:=AO.2;have c5:=qD.1;have c6:=qD.2;rw[kD] at *;unfold rd2 at *;simp only[ints,List.map] at c2;refine rcK Tz.func25 ?_;simp only[Tryz.results25,Tryz.ntmps25]
 repeat' (first|(with_reducible first|refine eu 40 ?_|refine eN ?_|refine cO ?_|refine ak ?_|refine aH ?_|refine aA ?_|refine bf ?_|refine aj ?_|refine bo (id:=5) 12 mixed (by decide +kernel) ?_|refine bo (id:=14) 12 mixed (by decide +kernel) ?_|refine bo (id:=19) 10 mixed (by decide +kernel) ?_|refine aD ?_|refine And.intro ?_ ?_|refine cw (c1) ?_|refine cw (c2) ?_|refine cw (c3) ?_|refine cwM (r1) ?_|refine cw (c4) ?_|refine cw (c5) ?_|refine cw (c6) ?_|intro _)|(simp[*])|(refine ai (c1) ?_ ?_;(· (simp[*];done)))|(refine ai (c2) ?_ ?_;(· (simp[*];done)))|(refine ai (c3) ?_ ?_;(· (simp[*];done)))|(refine ai (c4) ?_ ?_;(· (simp[*];done)))|(refine ai (c5) ?_ ?_;(· (simp[*];done)))|(refine ai (c6) ?_ ?_;(· (simp[*];done))))
 all_goals first|exact cN (by decide)|(simp[touch];done)
theorem IJ:az Tz.prog 17 [Tw.bn gu,.agg [.sl 2 [.int .i64 200,.int .i64 250],.sl 2 [.int .i64 100,.int .i64 0]]] (.tup [.int .i64 350,.int .i64 0]) true:=by
 have c1:=nJ;have c5:=qD.1;have c6:=qD.2
 have u:∀e,az Tz.prog 71 [.bool true,.int .i64 e] (.int .i64 0) true:=fun e=>bK true e
 have f:=AT;rw[kD] at *;unfold rd2 at *;refine rcK Tz.func17 ?_;simp only[Tryz.results17,Tryz.ntmps17]
 repeat' (first|(with_reducible first|refine eu 40 ?_|refine eN ?_|refine cO ?_|refine ak ?_|refine aH ?_|refine aA ?_|refine bf ?_|refine aj ?_|refine aD ?_|refine And.intro ?_ ?_|refine cw (c1) ?_|refine cw (c5) ?_|refine cw (c6) ?_|refine cw (u _) ?_|refine cw (f) ?_|refine cw (cV _ _ _) ?_|intro _)|(simp[*,bt])|(refine ai (c1) ?_ ?_;(· (simp[*];done)))|(refine ai (c5) ?_ ?_;(· (simp[*];done)))|(refine ai (c6) ?_ ?_;(· (simp[*];done)))|(refine ai (u _) ?_ ?_;(· (simp[*];done)))|(refine ai (f) ?_ ?_;(· (simp[*];done)))|(refine ai (cV _ _ _) ?_ ?_;(· (simp[*];done))))
 all_goals first|exact cN (by decide)|decide|(simp[touch];done)
noncomputable instance VO:ah:=LD
@[simp] theorem CE:bM Tz.prog 153=some [.w false false .undef]:=by kernel_rfl
def rD:List AV:=[.ptr 0 1 0,.ptr 1 1 0,.ptr 4 1 0,.ptr 5 1 0]
theorem IK:az Tz.prog 83 [rd2,.int .i64 100000] (.tup [.sl 2 [.int .i64 1,.int .i64 0],.int .i64 2]) true∧az Tz.prog 83 [rd2,.int .i64 0] (.tup [.sl 2 [.int .i64 (-1),.int .i64 (-1)],.int .i64 0]) true∧az Tz.prog 83 [rd2,.int .i64 100] (.tup [.sl 2 [.int .i64 0,.int .i64 (-1)],.int .i64 1]) true∧az Tz.prog 83 [rd2,.int .i64 150] (.tup [.sl 2 [.int .i64 0,.int .i64 (-1)],.int .i64 1]) true∧az Tz.prog 83 [rd2,.int .i64 200] (.tup [.sl 2 [.int .i64 1,.int .i64 0],.int .i64 2]) true:=by
 have r1:=Cz (-1);unfold rd2 at *;refine⟨?_,?_,?_,?_,?_⟩
 all_goals
  refine rcK Tz.func83 ?_;simp only[Tryz.results83,Tryz.ntmps83]
  repeat' (first|((with_reducible refine AW (id:=6) 12 119 mixed (by decide +kernel) (by decide +kernel) Tz.func119 (by kernel_rfl) rfl rfl ?_);simp[*,rD,CE,cH,eI,jR,oneOf];refine AU rD rfl (Nat.le_of_ble_eq_true (by kernel_rfl)) (by simp) rfl ?_)|(with_reducible first|refine AW (id:=8) 9 119 mixed (by decide +kernel) (by decide +kernel) Tz.func119 (by kernel_rfl) rfl rfl ?_|refine AU rD rfl (Nat.le_of_ble_eq_true (by kernel_rfl)) (by simp) rfl ?_|refine eu 40 ?_|refine eN ?_|refine cO ?_|refine ak ?_|refine aH ?_|refine aA ?_|refine bf ?_|refine aj ?_|refine bo (id:=4) 23 mixed (by decide +kernel) ?_|refine bo (id:=6) 14 mixed (by decide +kernel) ?_|refine aD ?_|refine And.intro ?_ ?_|refine cwM (r1) ?_|intro _)|(simp[*,rD,CE,cH,eI,jR,oneOf]))
 all_goals first|exact cN (by decide)|(simp[touch];done)
noncomputable instance VQ:ah:=LD
theorem CG(a b:Int):az Tz.prog 161 [.int .i64 a,.int .i64 b] (.bool (decide (a<b))) true:=by
 have c:∀a,az Tz.prog 179 [.int .i64 a] (.bool false) true:=fun a=>by
  refine rcK Tz.func179 ?_;simp only[Tryz.results179,Tryz.ntmps179]
  repeat' (first|(with_reducible first|refine ak ?_|refine aA ?_|refine aj ?_|intro _)|(simp[*]))
 refine rcK Tz.func161 ?_;simp only[Tryz.results161,Tryz.ntmps161]
 repeat' (first|(with_reducible first|refine ak ?_|refine aA ?_|refine aj ?_|refine And.intro ?_ ?_|refine cw (c _) ?_|intro _)|(simp[*])|(refine ai (c _) ?_ ?_;(· (simp[*];done))))
theorem I5:az Tz.prog 32 [Tw.bn gu] (.tup [.int .i64 200,.sl 2 [.int .i64 1,.int .i64 0],.int .i64 0]) false:=by
 have c1:=nJ;obtain⟨m1,m2,m3,m4,m5⟩:=IK
 have c2:az Tz.prog 121 [.int .u64 5] (.int .i64 3) true:=by
  have c:az Tz.prog 165 [.int .u64 5] (.int .i64 3) true:=by
   refine rcK Tz.func165 ?_;simp only[Tryz.results165,Tryz.ntmps165]
   repeat' (first|(with_reducible first|refine ak ?_|refine aH ?_|refine aA ?_|refine aj ?_|refine aD ?_|refine And.intro ?_ ?_|intro _)|(simp[*]))
   all_goals first|exact cN (by decide)|decide
  refine rcK Tz.func121 ?_;simp only[Tryz.results121,Tryz.ntmps121]
  repeat' (first|(with_reducible first|refine ak ?_|refine aH ?_|refine aA ?_|refine aj ?_|refine aD ?_|refine And.intro ?_ ?_|refine cw (c) ?_|intro _)|(simp[*])|(refine ai (c) ?_ ?_;(· (simp[*];done))))
 have c4:=AN [.int .i64 1,.int .i64 0];rw[kD] at *;unfold rd2 at *;refine qy Tz.func32 (by kernel_rfl) rfl (Nat.le_of_ble_eq_true (by kernel_rfl)) ?_;simp only[Tryz.results32,Tryz.ntmps32]
 repeat' (first|((with_reducible refine A9 (o:=false) (f:=false) ?_ ?_);(· rfl))|((with_reducible refine Ba (o:=false) (f:=false) ?_ ?_);(· rfl))|(with_reducible first|refine iI ?_|refine qx ?_|refine A7 40 ?_|refine A8 ?_|refine uW (gf:=122) rfl Tz.func122 (by kernel_rfl) rfl (Nat.le_of_ble_eq_true (by kernel_rfl)) (fun l=>?_)|refine qB (id:=3) 16 ?_ ?_|refine vb rfl (by simp) ?_|refine AL ?_|refine iH ?_|refine nI (id:=10) 1 Tz.func84 (by kernel_rfl) rfl (by decide) rfl ?_|refine nI (id:=12) 1 Tz.func85 (by kernel_rfl) rfl (by decide) rfl ?_|refine nI (id:=1) 5 Tz.func120 (by kernel_rfl) rfl (by decide) rfl ?_|refine nI (id:=4) 3 Tz.func155 (by kernel_rfl) rfl (by decide) rfl ?_|refine AP (Nat.le_of_ble_eq_true (by kernel_rfl)) (by simp) rfl ?_|refine eu 40 ?_|refine eN ?_|refine cO ?_|refine ak ?_|refine aH ?_|refine aA ?_|refine bf ?_|refine aj ?_|refine bo (id:=4) 15 mixed (by decide +kernel) ?_|refine qo (id:=6) [0,1,2,3,4,5,6,7,8,9,10,11,12,13,14] [15,16,17] [[],[],[.slot 0],[.slot 0],[.slot 0],[],[],[],[],[],[],[],[],[],[]] [[.slot 0],[],[.slot 0]] mixed (by decide +kernel) ?_|refine bo (id:=6) 10 mixed (by decide +kernel) ?_|refine aD ?_|refine And.intro ?_ ?_|refine cw (c1) ?_|refine cw (m1) ?_|refine cw (m2) ?_|refine cw (m3) ?_|refine cw (m4) ?_|refine cw (m5) ?_|refine cw (c2) ?_|refine cw (c4) ?_|refine cw (CG _ _) ?_|intro _)|(simp[*,cH,eI,jR,oneOf])|(refine ai (c1) ?_ ?_;(· (simp[*];done)))|(refine ai (m1) ?_ ?_;(· (simp[*];done)))|(refine ai (m2) ?_ ?_;(· (simp[*];done)))|(refine ai (m3) ?_ ?_;(· (simp[*];done)))|(refine ai (m4) ?_ ?_;(· (simp[*];done)))|(refine ai (m5) ?_ ?_;(· (simp[*];done)))|(refine ai (c2) ?_ ?_;(· (simp[*];done)))|(refine ai (c4) ?_ ?_;(· (simp[*];done)))|(refine ai (CG _ _) ?_ ?_;(· (simp[*];done))))
 all_goals first|exact cN (by decide)|decide|(simp[touch];done)
noncomputable instance VU:ah:=LD
theorem M3:gO Tz.prog 157=some (.int .i64,.int .i64 0):=by kernel_rfl
def j0:PV:=.agg [.sl 1 [.str ⟨#[97]⟩,.int .i64 4,.bool false],.sl 2 [.str ⟨#[112]⟩,.int .i64 1,.bool false,.int .i64 0,.str ⟨#[113]⟩,.int .i64 1,.bool false,.int .i64 0],.sl 2 [.sl 1 [.int .i64 100],.sl 1 [.int .i64 150]],.sl 0 []]
theorem I6:az Tz.prog 42 [Tw.bn gu,.int .i64 1] (.tup [j0,.int .i64 0]) false:=by
 have c1:=nJ
 have c2:az Tz.prog 91 [rd2,.int .i64 1] (.int .i64 0) true:=by
  have u:∀e,az Tz.prog 71 [.bool true,.int .i64 e] (.int .i64 0) true:=fun e=>bK true e
  unfold rd2;refine rcK Tz.func91 ?_;simp only[Tryz.results91,Tryz.ntmps91]
  repeat' (first|(with_reducible first|refine ak ?_|refine aA ?_|refine aj ?_|refine And.intro ?_ ?_|refine cw (cV _ _ _) ?_|refine cw (u _) ?_|intro _)|(simp[*,bt])|(refine ai (cV _ _ _) ?_ ?_;(· (simp[*];done)))|(refine ai (u _) ?_ ?_;(· (simp[*];done))))
  all_goals first|exact cN (by decide)|decide
 have k0:∀k:Int,az Tz.prog 123 [.sl 0 [],.int .i64 k] (.bool false) true:=fun k=>lQ [] (by decide) k
 have k1:az Tz.prog 123 [.sl 1 [.int .i64 1],.int .i64 0] (.bool false) true:=lQ [1] (by decide) 0;have k2:az Tz.prog 123 [.sl 1 [.int .i64 1],.int .i64 1] (.bool true) true:=lQ [1] (by decide) 1
 have c3:az Tz.prog 87 [rd2,.sl 0 [],.sl 1 [.int .i64 1]] j0 true:=by
  have mt:=M3;clear c1 c2;unfold rd2 j0;refine rcK Tz.func87 ?_;simp only[Tryz.results87,Tryz.ntmps87]
  repeat' (first|(with_reducible first|refine eu 40 ?_|refine eN ?_|refine cO ?_|refine ak ?_|refine aH ?_|refine aA ?_|refine bf ?_|refine aj ?_|refine aD ?_|refine And.intro ?_ ?_|refine cw (k0 _) ?_|refine cw (k1) ?_|refine cw (k2) ?_|intro _)|(simp[*,lkV,lkR,rE,wQ,okM,okK,isLit,gN,eA,eqK,wC,Tw.bW,Tw.bE,mt])|(refine ai (k0 _) ?_ ?_;(· (simp[*];done)))|(refine ai (k1) ?_ ?_;(· (simp[*];done)))|(refine ai (k2) ?_ ?_;(· (simp[*];done))))
  all_goals first|exact cN (by decide)|decide|(simp[touch];done)
 rw[kD] at *;unfold rd2 j0 at *;clear k0 k1 k2;refine rcK Tz.func42 ?_;simp only[Tryz.results42,Tryz.ntmps42]
 repeat' (first|(with_reducible first|refine ak ?_|refine aH ?_|refine aA ?_|refine aj ?_|refine aD ?_|refine And.intro ?_ ?_|refine cw (c1) ?_|refine cw (c2) ?_|refine cw (c3) ?_|intro _)|(simp[*])|(refine ai (c1) ?_ ?_;(· (simp[*];done)))|(refine ai (c2) ?_ ?_;(· (simp[*];done)))|(refine ai (c3) ?_ ?_;(· (simp[*];done))))
 all_goals first|exact cN (by decide)|decide|(simp[touch];done)
noncomputable instance VW:ah:=LD
def rdL:PV:=.ip [.sl 1 [.str ⟨#[97]⟩,.int .i64 4,.bool false],.sl 2 [.str ⟨#[112]⟩,.int .i64 1,.bool false,.int .i64 0,.str ⟨#[113]⟩,.int .i64 1,.bool false,.int .i64 0],.sl 2 [.sl 1 [.int .i64 100],.sl 1 [.int .i64 150]],.sl 0 [],.sl 2 [.sl 1 [.bool true],.sl 1 [.bool true]]] 0
theorem I7:az Tz.prog 95 [rdL,.sl 0 []] (.sl 0 []) true∧az Tz.prog 95 [rdL,.sl 1 [.int .i64 0]] (.sl 1 [.int .i64 0]) true∧az Tz.prog 95 [rdL,.sl 1 [.int .i64 1]] (.sl 1 [.int .i64 0]) true∧az Tz.prog 95 [rdL,.sl 2 [.int .i64 0,.int .i64 1]] (.sl 1 [.int .i64 0]) true:=by
 have f:∀i:Int,(i=0∨i=1)→az Tz.prog 125 [.int .i64 i,.ip [rdL] 0,.ip [.int .i64 0] 0] (.bool true) true:=fun i h=>by
  unfold rdL
  rcases h with rfl|rfl
  all_goals
   refine rcK Tz.func125 ?_;simp only[Tryz.results125,Tryz.ntmps125]
   repeat' (first|(with_reducible first|refine ak ?_|refine aA ?_|refine aj ?_|refine bo (id:=1) 11 mixed (by decide +kernel) ?_|intro _)|(simp[*]))
 have f0:=f 0 (.inl rfl);have f1:=f 1 (.inr rfl);clear f;unfold rdL at *
 have a:∀l:List PV,(l=[]∨l=[.int .i64 0]∨l=[.int .i64 1]∨l=[.int .i64 0,.int .i64 1])→az Tz.prog 93 [.sl l.length l,.fn 125 [.ip [.ip [.sl 1 [.str ⟨#[97]⟩,.int .i64 4,.bool false],.sl 2 [.str ⟨#[112]⟩,.int .i64 1,.bool false,.int .i64 0,.str ⟨#[113]⟩,.int .i64 1,.bool false,.int .i64 0],.sl 2 [.sl 1 [.int .i64 100],.sl 1 [.int .i64 150]],.sl 0 [],.sl 2 [.sl 1 [.bool true],.sl 1 [.bool true]]] 0] 0,.ip [.int .i64 0] 0]] (.bool (decide (0<l.length))) true:=fun l h=>by
  have b:az Tz.prog 124 [.sl l.length l,.fn 125 [.ip [.ip [.sl 1 [.str ⟨#[97]⟩,.int .i64 4,.bool false],.sl 2 [.str ⟨#[112]⟩,.int .i64 1,.bool false,.int .i64 0,.str ⟨#[113]⟩,.int .i64 1,.bool false,.int .i64 0],.sl 2 [.sl 1 [.int .i64 100],.sl 1 [.int .i64 150]],.sl 0 [],.sl 2 [.sl 1 [.bool true],.sl 1 [.bool true]]] 0] 0,.ip [.int .i64 0] 0]] (.int .i64 (if 0<l.length then 0 else -1)) true:=by
   rcases h with rfl|rfl|rfl|rfl
   all_goals
    simp only[List.length_cons,List.length_nil,Nat.zero_add,Nat.reduceAdd,Nat.lt_irrefl,decide_false,Nat.zero_lt_succ,decide_true,if_true,if_false];refine rcK Tz.func124 ?_;simp only[Tryz.results124,Tryz.ntmps124]
    repeat' (first|(with_reducible first|refine eu 40 ?_|refine eN ?_|refine cO ?_|refine ak ?_|refine aH ?_|refine aA ?_|refine bf ?_|refine aj ?_|refine aD ?_|refine And.intro ?_ ?_|refine cw (f0) ?_|refine cw (f1) ?_|intro _)|(simp[*])|(refine ai (f0) ?_ ?_;(· (simp[*];done)))|(refine ai (f1) ?_ ?_;(· (simp[*];done))))
   all_goals first|exact cN (by decide)|(simp[touch];done)
  rcases h with rfl|rfl|rfl|rfl
  all_goals
   simp only[List.length_cons,List.length_nil,Nat.zero_add,Nat.reduceAdd,Nat.lt_irrefl,decide_false,Nat.zero_lt_succ,decide_true,if_true,if_false] at b ⊢;clear f0 f1;refine rcK Tz.func93 ?_;simp only[Tryz.results93,Tryz.ntmps93]
   repeat' (first|(with_reducible first|refine ak ?_|refine aA ?_|refine aj ?_|refine And.intro ?_ ?_|refine cw (b) ?_|intro _)|(simp[*])|(refine ai (b) ?_ ?_;(· (simp[*];done))))
 have a0:=a _ (.inl rfl);have a1:=a _ (.inr (.inl rfl));have a2:=a _ (.inr (.inr (.inl rfl)));have a3:=a _ (.inr (.inr (.inr rfl)));clear a f0 f1;refine⟨?_,?_,?_,?_⟩
 all_goals
  refine rcK Tz.func95 ?_;simp only[Tryz.results95,Tryz.ntmps95]
  repeat' (first|(with_reducible first|refine eu 40 ?_|refine eN ?_|refine cO ?_|refine ak ?_|refine aH ?_|refine aA ?_|refine bf ?_|refine aj ?_|refine aD ?_|refine And.intro ?_ ?_|refine cw (a0) ?_|refine cw (a1) ?_|refine cw (a2) ?_|refine cw (a3) ?_|intro _)|(simp[*])|(refine ai (a0) ?_ ?_;(· (simp[*];done)))|(refine ai (a1) ?_ ?_;(· (simp[*];done)))|(refine ai (a2) ?_ ?_;(· (simp[*];done)))|(refine ai (a3) ?_ ?_;(· (simp[*];done))))
 all_goals first|exact cN (by decide)|(simp[touch];done)
noncomputable instance VY:ah:=LD
def wE:Tw.RND where
 af:=[(⟨#[97]⟩,4,false)]
 os:=[(⟨#[112]⟩,1,false,0),(⟨#[113]⟩,1,false,0)]
 wt:=[[100],[150]]
 zs:=[]
 cr:=by
  refine⟨?_,?_,?_,by decide,by decide,by decide,by decide⟩
  ·intro c hc;simp only[List.mem_cons,List.not_mem_nil,or_false] at hc
   rcases hc with rfl|rfl<;>decide
  ·intro c hc;simp only[List.mem_cons,List.not_mem_nil,or_false] at hc
   rcases hc with rfl|rfl<;>decide
  ·intro c hc;simp only[List.mem_cons,List.not_mem_nil,or_false] at hc
   rcases hc with rfl|rfl<;>decide
theorem I8:ceR wE=0:=by kernel_rfl
theorem I9:az Tz.prog 69 [j0] (.tup [rdL,.int .i64 0]) false:=by
 have c:=jc wE;rw[nG wE I8] at c;exact c
@[simp] theorem VZ:bM Tz.prog 160=some [.w false false .undef]:=by kernel_rfl
theorem Ja:az Tz.prog 50 [j0] (.tup [.sl 2 [.int .i64 0,.int .i64 1],.int .i64 0]) false:=by
 have c1:=I9;obtain⟨a0,a1,a2,a3⟩:=I7
 have c2:∀s:Int,az Tz.prog 96 [.int .i64 2,.int .i64 s] (.fn 126 [.ip [.int .i64 s] 0,.ip [.int .i64 2] 0]) true:=fun s=>by
  refine rcK Tz.func96 ?_;simp only[Tryz.results96,Tryz.ntmps96]
  repeat' (first|(with_reducible first|refine ak ?_|refine aA ?_|refine aj ?_|intro _)|(simp[*]))
 have c3:az Tz.prog 97 [.sl 2 [.int .i64 0,.int .i64 1]] (.sl 2 [.int .i64 0,.int .i64 1]) true:=HX [0,1] (by decide);unfold rdL j0 at *;refine qy Tz.func50 (by kernel_rfl) rfl (Nat.le_of_ble_eq_true (by kernel_rfl)) ?_;simp only[Tryz.results50,Tryz.ntmps50]
 repeat' (first|((with_reducible refine A9 (o:=false) (f:=false) ?_ ?_);(· rfl))|((with_reducible refine Ba (o:=false) (f:=false) ?_ ?_);(· rfl))|((with_reducible refine I0 (o:=false) (f:=false) ?_ ?_);(· rfl))|((with_reducible refine I4 (o:=false) (f:=false) ?_ ?_);(· rfl))|(with_reducible first|refine iI ?_|refine qx ?_|refine A7 40 ?_|refine A8 ?_|refine Ah (gf:=126) rfl Tz.func126 (by kernel_rfl) rfl (Nat.le_of_ble_eq_true (by kernel_rfl)) (fun l=>?_)|refine IL ?_|refine IM ?_|refine IY 40 ?_|refine IZ ?_|refine IT (id:=3) 1 127 Tz.func127 (by kernel_rfl) rfl (by decide) rfl ?_|refine IV (id:=6) 12 127 mixed (by decide +kernel) (by decide +kernel) Tz.func127 (by kernel_rfl) rfl rfl ?_|refine IS _ rfl (Nat.le_of_ble_eq_true (by kernel_rfl)) (by simp) rfl ?_|refine IQ (id:=2) 2 (by decide) rfl rfl (by simp) ?_|refine IP _ _ rfl rfl (by simp) ?_|refine IB ?_|refine IC ?_|refine iH ?_|refine Ag ?_|refine cO ?_|refine ak ?_|refine aH ?_|refine aA ?_|refine bf ?_|refine aj ?_|refine bo (id:=7) 8 mixed (by decide +kernel) ?_|refine bo (id:=9) 6 mixed (by decide +kernel) ?_|refine aD ?_|refine And.intro ?_ ?_|refine cw (c1) ?_|refine cw (a0) ?_|refine cw (a1) ?_|refine cw (a2) ?_|refine cw (a3) ?_|refine cw (c2 _) ?_|refine cw (c3) ?_|intro _)|(simp[*,cH,eI,jR,oneOf])|(refine ai (c1) ?_ ?_;(· (simp[*];done)))|(refine ai (a0) ?_ ?_;(· (simp[*];done)))|(refine ai (a1) ?_ ?_;(· (simp[*];done)))|(refine ai (a2) ?_ ?_;(· (simp[*];done)))|(refine ai (a3) ?_ ?_;(· (simp[*];done)))|(refine ai (c2 _) ?_ ?_;(· (simp[*];done)))|(refine ai (c3) ?_ ?_;(· (simp[*];done))))
 all_goals first|exact cN (by decide)|decide|(simp[touch];done)
noncomputable instance V1:ah:=LD
theorem Jb:az Tz.prog 15 [] (.bool true) true:=by
 have c9:=MS;have c8:=IH;have c10:=II;have c11:=IJ;have c12:=I5;have c13:=I6;have c14:=Ja;have c15:az Tz.prog 52 [.sl 2 [.int .i64 0,.int .i64 1],.sl 2 [.int .i64 0,.int .i64 1]] (.bool true) true:=HW [0,1] [0,1] (by decide);rw[kD] at *;unfold j0 at *;refine rcK Tz.func15 ?_;simp only[Tryz.results15,Tryz.ntmps15]
 repeat' (first|(with_reducible first|refine ak ?_|refine aA ?_|refine aj ?_|refine And.intro ?_ ?_|refine cw (c9) ?_|refine cw (c8) ?_|refine cw (c10) ?_|refine cw (c11) ?_|refine cw (c12) ?_|refine cw (c13) ?_|refine cw (c14) ?_|refine cw (c15) ?_|intro _)|(simp[*])|(refine ai (c9) ?_ ?_;(· (simp[*];done)))|(refine ai (c8) ?_ ?_;(· (simp[*];done)))|(refine ai (c10) ?_ ?_;(· (simp[*];done)))|(refine ai (c11) ?_ ?_;(· (simp[*];done)))|(refine ai (c12) ?_ ?_;(· (simp[*];done)))|(refine ai (c13) ?_ ?_;(· (simp[*];done)))|(refine ai (c14) ?_ ?_;(· (simp[*];done)))|(refine ai (c15) ?_ ?_;(· (simp[*];done))))
noncomputable instance V3:ah:=LD
theorem Jc(r:Tw.RND)(plan po pc:List Int):((jg r plan).2≠0→(jg r plan).1=0)∧((jf r po pc).2≠0→(jf r po pc).1=0)∧((jg r plan).2=0→(jf r po pc).2=0→(jf r po pc).1≤(jg r plan).1):=by
 unfold jg jf;by_cases h:ceR r=0
 ·have H:¬(ceR r≠0):=fun e=>e h
  rw[if_neg H,if_neg H];clear H;have ok:=wB r h;refine⟨?_,?_,?_⟩
  ·intro hn;split at hn
   ·rename_i h2;rw[if_pos h2]
   ·exact absurd rfl hn
  ·intro hn;split at hn
   ·rename_i h2;rw[if_pos h2]
   ·rename_i h2;rw[if_neg h2];unfold je at hn ⊢;split
    ·rfl
    split
    ·rfl
    split
    ·rfl
    ·rename_i g1 g2 g3;simp only[if_neg g1,if_neg g2,if_neg g3] at hn;exact absurd rfl hn
  ·intro h1 h2;split at h1
   ·rename_i h3;exact absurd h1 h3
   ·rename_i h3;rw[if_neg h3];split at h2
    ·exact absurd h2 (show (10:Int)≠0 by decide)
    ·rename_i h4;rw[if_neg h4];have h4:=Classical.not_not.1 h4;exact Iv (ba r) ok po pc plan (Classical.not_not.1 h3) h4.1 h4.2 h2
 ·rw[if_pos h,if_pos h];exact⟨fun _=>rfl,fun _=>rfl,fun h1=>absurd h1 h⟩
theorem Jd(af:List Car)(os:List Ord)(wt:List (List Int))(zs:List Par)(plan po pc:List Int):wq Tz.prog Tryz.f4 (Tryz.f4.body.getD .skip) [.agg [.sl af.length (bF af),.sl os.length (bD os),.sl wt.length (b8 wt),.sl zs.length (bH zs)],.sl plan.length (ints plan),.agg [.sl po.length (ints po),.sl pc.length (ints pc)]] (.bool true) true:=by
 have ca:=Jb;have cf:=MW af os wt zs;refine zG (Nat.le_of_ble_eq_true (by kernel_rfl)) ?_;have hb:Tryz.f4.body=some _:=rfl;rw[hb];clear hb;simp only[Option.getD_some,Tryz.ntmps4,Tryz.results4]
 cases hw:mH af os wt zs with
 |false=>
  rw[hw] at cf;clear hw
  repeat' (first|(with_reducible first|refine ak ?_|refine aH ?_|refine aA ?_|refine aj ?_|refine aD ?_|refine And.intro ?_ ?_|refine cw (ca) ?_|refine cw (cf) ?_|intro _)|(simp[*])|(refine ai (ca) ?_ ?_;(· (simp[*];done)))|(refine ai (cf) ?_ ?_;(· (simp[*];done))))
  all_goals first|omega
 |true=>
  rw[hw] at cf;by_cases hl:plan.length≤10∧po.length≤10∧pc.length≤10
  ·obtain⟨h1,h2,h3⟩:=hl
   have i1:¬(10:Int)<plan.length:=by omega
   have i2:¬(10:Int)<po.length:=by omega
   have i3:¬(10:Int)<pc.length:=by omega
   have hp:=Jc (mI af os wt zs hw) plan po pc;have cc:az Tz.prog 18 [.agg [.sl af.length (bF af),.sl os.length (bD os),.sl wt.length (b8 wt),.sl zs.length (bH zs)]] (.agg [.sl af.length (bF af),.sl os.length (bD os),.sl wt.length (b8 wt),.sl zs.length (bH zs)]) true:=H2 (mI af os wt zs hw);have c1:az Tz.prog 23 [.agg [.sl af.length (bF af),.sl os.length (bD os),.sl wt.length (b8 wt),.sl zs.length (bH zs)],.sl plan.length (ints plan)] _ false:=Ir (mI af os wt zs hw) plan (by omega);have c2:az Tz.prog 17 [.agg [.sl af.length (bF af),.sl os.length (bD os),.sl wt.length (b8 wt),.sl zs.length (bH zs)],.agg [.sl po.length (ints po),.sl pc.length (ints pc)]] _ false:=Ig (mI af os wt zs hw) po pc;have c3:=qz plan (by omega);have c4:=H3 po pc (by omega) (by omega);generalize jg (mI af os wt zs hw) plan=C at *;generalize jf (mI af os wt zs hw) po pc=D at *;obtain⟨n,e⟩:=C;obtain⟨k,f⟩:=D;dsimp only at hp c1 c2;obtain⟨q1,q2,q3⟩:=hp;clear hw h1 h2 h3;by_cases he:e=0
   ·subst he;by_cases hf:f=0
    ·subst hf;have q:k≤n:=q3 rfl rfl;clear q1 q2 q3
     repeat' (first|(with_reducible first|refine ak ?_|refine aH ?_|refine aA ?_|refine aj ?_|refine bo (id:=6) 10 mixed (by decide +kernel) ?_|refine aD ?_|refine And.intro ?_ ?_|refine cw (ca) ?_|refine cw (cf) ?_|refine cw (cc) ?_|refine cw (c1) ?_|refine cw (c2) ?_|refine cw (c3) ?_|refine cw (c4) ?_|intro _)|(simp[*,i1,i2,i3,q])|(refine ai (ca) ?_ ?_;(· (simp[*];done)))|(refine ai (cf) ?_ ?_;(· (simp[*];done)))|(refine ai (cc) ?_ ?_;(· (simp[*];done)))|(refine ai (c1) ?_ ?_;(· (simp[*];done)))|(refine ai (c2) ?_ ?_;(· (simp[*];done)))|(refine ai (c3) ?_ ?_;(· (simp[*];done)))|(refine ai (c4) ?_ ?_;(· (simp[*];done))))
     all_goals first|omega
    ·have q:k=0:=q2 hf;subst q;clear q1 q2 q3
     repeat' (first|(with_reducible first|refine ak ?_|refine aH ?_|refine aA ?_|refine aj ?_|refine bo (id:=6) 10 mixed (by decide +kernel) ?_|refine aD ?_|refine And.intro ?_ ?_|refine cw (ca) ?_|refine cw (cf) ?_|refine cw (cc) ?_|refine cw (c1) ?_|refine cw (c2) ?_|refine cw (c3) ?_|refine cw (c4) ?_|intro _)|(simp[*,i1,i2,i3,hf])|(refine ai (ca) ?_ ?_;(· (simp[*];done)))|(refine ai (cf) ?_ ?_;(· (simp[*];done)))|(refine ai (cc) ?_ ?_;(· (simp[*];done)))|(refine ai (c1) ?_ ?_;(· (simp[*];done)))|(refine ai (c2) ?_ ?_;(· (simp[*];done)))|(refine ai (c3) ?_ ?_;(· (simp[*];done)))|(refine ai (c4) ?_ ?_;(· (simp[*];done))))
     all_goals first|omega
   ·have q:n=0:=q1 he;subst q;clear q1 q3;by_cases hf:f=0
    ·subst hf;clear q2
     repeat' (first|(with_reducible first|refine ak ?_|refine aH ?_|refine aA ?_|refine aj ?_|refine bo (id:=6) 10 mixed (by decide +kernel) ?_|refine aD ?_|refine And.intro ?_ ?_|refine cw (ca) ?_|refine cw (cf) ?_|refine cw (cc) ?_|refine cw (c1) ?_|refine cw (c2) ?_|refine cw (c3) ?_|refine cw (c4) ?_|intro _)|(simp[*,i1,i2,i3,he])|(refine ai (ca) ?_ ?_;(· (simp[*];done)))|(refine ai (cf) ?_ ?_;(· (simp[*];done)))|(refine ai (cc) ?_ ?_;(· (simp[*];done)))|(refine ai (c1) ?_ ?_;(· (simp[*];done)))|(refine ai (c2) ?_ ?_;(· (simp[*];done)))|(refine ai (c3) ?_ ?_;(· (simp[*];done)))|(refine ai (c4) ?_ ?_;(· (simp[*];done))))
     all_goals first|omega
    ·have q:k=0:=q2 hf;subst q;clear q2
     repeat' (first|(with_reducible first|refine ak ?_|refine aH ?_|refine aA ?_|refine aj ?_|refine bo (id:=6) 10 mixed (by decide +kernel) ?_|refine aD ?_|refine And.intro ?_ ?_|refine cw (ca) ?_|refine cw (cf) ?_|refine cw (cc) ?_|refine cw (c1) ?_|refine cw (c2) ?_|refine cw (c3) ?_|refine cw (c4) ?_|intro _)|(simp[*,i1,i2,i3,he,hf])|(refine ai (ca) ?_ ?_;(· (simp[*];done)))|(refine ai (cf) ?_ ?_;(· (simp[*];done)))|(refine ai (cc) ?_ ?_;(· (simp[*];done)))|(refine ai (c1) ?_ ?_;(· (simp[*];done)))|(refine ai (c2) ?_ ?_;(· (simp[*];done)))|(refine ai (c3) ?_ ?_;(· (simp[*];done)))|(refine ai (c4) ?_ ?_;(· (simp[*];done))))
     all_goals first|omega
  ·have kl:=keep hl;clear hl hw
   repeat' (first|(with_reducible first|refine ak ?_|refine aH ?_|refine aA ?_|refine aj ?_|refine aD ?_|refine And.intro ?_ ?_|apply Ip|exact MY|exact Ih|refine lM ?_ ?_|refine cw (ca) ?_|refine cw (cf) ?_|intro _)|(simp[*])|(refine ai (ca) ?_ ?_;(· (simp[*];done)))|(refine ai (cf) ?_ ?_;(· (simp[*];done))))
   all_goals (rename_i hc;exfalso;have h:=kl;unfold aP at h;simp at hc;omega)
end Go.Proofs.YthpkmilhiganjaaGreat
namespace Go.Proofs.YthpkmilhiganjaaGreat
open Go.ChangeShapes Go.WideShapes Go.ChangeAt Go.RowKit Go.Conc
noncomputable instance V5:Go.Fi.ah:=LD
theorem M8:ownKnob Tryz.prog.godebug=none:=by kernel_rfl
theorem M9:laidOutB Tryz.prog=true:=by kernel_rfl
section
variable{C:Go.Fc.Cx}{W:World}
theorem Bd{a:Addr}{x:Value}(h:W.cell? a=some x):(Go.Fc.dL C W).cell? a=some x:=by
 unfold World.cell? at h;split at h
 ·rename_i c e f hb;unfold World.cell?;rw[Go.Fc.ot hb trivial];exact h
 ·cases h
theorem Jm{G:Nat→Prop}{p:Go.Fi.PV}{v:Value}(h:Go.Fi.Rep G W p v):Go.Fi.Rep G (Go.Fc.dL C W) p v:=by
 induction h with
 |undef v=>exact .undef v
 |ez b=>exact .ez b
 |bool b=>exact .bool b
 |int k n=>exact .int k n
 |str s=>exact .str s
 |agg hl _ ih=>exact .agg hl ih
 |tup hl _ ih=>exact .tup hl ih
 |slnil=>exact .slnil
 |sl vals hn hc hg _ ih=>exact .sl vals hn (fun j hj=>Bd (hc j hj)) hg ih
 |slz hn=>exact .slz hn
 |ip vals hc hg _ ih=>exact .ip vals (fun j hj=>Bd (hc j hj)) hg ih
 |cJ=>exact .cJ
 |fI=>exact .fI
 |ifc _ ih=>exact .ifc ih
 |fn hl _ ih=>exact .fn hl ih
 |yl l=>exact .yl l
end
theorem Jn(f:Nat)(fn:Func)(hf:Tryz.prog.funcs[f]?=some fn)(hk:Tz.keep f=true)(pvs:List Go.Fi.PV)(ht:Go.Fi.wq Tz.prog fn (fn.body.getD .skip) pvs (.bool true) true){t:Tmp}(hrs:fn.results=#[.tmp t])(W:World)(args:Array Value)(hlen:pvs.length=args.size)(hrep:∀(j:Nat)(p:Go.Fi.PV)(v:Value),pvs[j]?=some p→args[j]?=some v→Go.Fi.Rep (fun _=>True) W p v)(dR:Value→World→Prop)(hpost:∀B,Go.Fi.Bel W.heap.size W B→dR (.bool true) B):∃N last o w' t',runNT Tryz.prog (N+1) (solo (G (Frame.enter Tryz.prog f args .normal) []) W) #[]=(.ended o w',t')∧runN Tryz.prog N (solo (G (Frame.enter Tryz.prog f args .normal) []) W)=.next last∧step Tryz.prog last=.ended o w'∧Go.Conc.Good Tryz.prog dR last o w' t':=by
 obtain⟨fn',c,h1,h2,h3,h4,h5,h6,h7⟩:=Tz.Cl f hk
 have e1:fn'=fn:=by rw[hf] at h2;exact (Option.some.inj h2).symm
 subst e1
 have e2:c=fn'.body.getD .skip:=by rw[h4];rfl
 refine @Go.Fc.M5 Tz.xfZ LD Tz.prog Tryz.prog Tz.ja lS W (iW _) (fun f h=>h) f fn' c args t
  (fun v A=>v=.bool true∧Go.Fi.Bel W.heap.size (Go.Fc.dL (@Go.Fc.Cc Tz.xfZ Tz.prog Tryz.prog) W) A) dR hf h4 h5 ⟨⟨fn',h1,h2,h6⟩,h7⟩ ?_ hrs ?_ ?_
 ·exact fun h=>absurd (h.1.symm.trans hk) (by decide)
 ·have h:=ht (fun _=>True) (Go.Fc.dL (@Go.Fc.Cc Tz.xfZ Tz.prog Tryz.prog) W) args trivial hlen (fun j p v hp hv=>Jm (hrep j p v hp hv));rw[Go.Fc.rF] at h;subst e2;refine Go.Fi.bC h (fun e a' w' hq=>?_)
  have fin:∀(X:a'.defers=[]∧∀w1,Go.Fi.EnvD.E w' w1→∃v,(results fn' a'.tmps).run Tz.prog w1=.ok v w1∧∃v',Ending.returned v=.returned v'∧Go.Fi.Bel W.heap.size (Go.Fc.dL (@Go.Fc.Cc Tz.xfZ Tz.prog Tryz.prog) W) w1∧Go.Fi.Rep (fun b=>(b<W.heap.size→True)∧(true=true→W.heap.size≤b)) w1 (.bool true) v'),
   a'.defers=[]∧∀w1,Go.Fi.EnvD.E w' w1→∃v,(results fn' a'.tmps).run Tz.prog w1=.ok v w1∧∃v',Ending.returned v=.returned v'∧v'=.bool true∧Go.Fi.Bel W.heap.size (Go.Fc.dL (@Go.Fc.Cc Tz.xfZ Tz.prog Tryz.prog) W) w1:=by
   rintro⟨hd,X⟩
   refine⟨hd,fun w1 e1=>?_⟩;obtain⟨v,h1,v',h2,h3,h4⟩:=X w1 e1;refine⟨v,h1,v',h2,?_,h3⟩
   cases h4 with
   |bool=>rfl
  cases e with
  |normal=>exact fin hq
  |ret=>exact fin hq
  |_=>exact hq.elim
 ·intro v A B S hv hlk hd ho hp;obtain⟨rfl,hb⟩:=hv;exact hpost B (Go.Fc.M4 hlk hd ho hp hb)
end Go.Proofs.YthpkmilhiganjaaGreat
namespace Go.Proofs.YthpkmilhiganjaaGreat
open Go Go.Fi Go.RowKit Go.ChangeShapes Go.WideShapes Go.ChangeAt
theorem nL:Tryz.prog.cellsOf 3=1:=by kernel_rfl
theorem Be:Tryz.prog.cellsOf 4=1:=by kernel_rfl
theorem Bf:Tryz.prog.cellsOf 9=1:=by kernel_rfl
theorem vh:Tryz.prog.cellsOf 28=1:=by kernel_rfl
theorem Jo:Tryz.prog.cellsOf 24=1:=by kernel_rfl
theorem Bg:Tryz.prog.cellsOf 89=3:=by kernel_rfl
theorem Bh:Tryz.prog.cellsOf 91=4:=by kernel_rfl
theorem Bi:Tryz.prog.cellsOf 120=2:=by kernel_rfl
theorem Jp:Tryz.prog.cellsOf 22=1:=by kernel_rfl
theorem Jq:Tryz.prog.cellsOf 23=1:=by kernel_rfl
theorem Jr:Tryz.prog.cellsOf 25=1:=by kernel_rfl
theorem Js:Tryz.prog.cellsOf 27=4:=by kernel_rfl
abbrev cI(n:Int):List PV:=[.int .i64 n]
abbrev cB(b:Bool):List PV:=[.bool b]
abbrev cS(s:ByteArray):List PV:=[.str s]
abbrev cU(_:Unit):List PV:=[]
theorem rI:Reads Tryz.prog 3 cI:=Jg Tryz.underlying3
theorem rB:Reads Tryz.prog 4 cB:=Ji Tryz.underlying4
theorem rS:Reads Tryz.prog 9 cS:=Jh Tryz.underlying9
theorem Bj:∀l:List Int,l.flatMap cI=ints l
 |[]=>rfl
 |x::r=>by rw[List.flatMap_cons,Bj r];rfl
abbrev mO(l:List Int):List PV:=[.sl l.length (ints l)]
theorem qH:Reads Tryz.prog 28 mO:=qE (c:=fun l:List Int=>[.sl l.length (l.flatMap cI)]) id (fun l=>by simp only[id,mO];rw[Bj]) (nK Tryz.underlying28 nL (by decide) (fun _=>rfl) rI)
theorem Bl:∀l:List (List Int),l.flatMap mO=b8 l
 |[]=>rfl
 |x::r=>by rw[List.flatMap_cons,Bl r];rfl
theorem Jt:Reads Tryz.prog 24 (fun l:List (List Int)=>[.sl l.length (b8 l)]):=qE (c:=fun l:List (List Int)=>[.sl l.length (l.flatMap mO)]) id (fun l=>by simp only[id];rw[Bl]) (nK Tryz.underlying24 vh (by decide) (fun _=>rfl) qH)
abbrev cI1(y:Int×Unit):List PV:=cI y.1++cU y.2
abbrev cB1(y:Bool×Unit):List PV:=cB y.1++cU y.2
abbrev cC3(y:ByteArray×Int×Bool×Unit):List PV:=cS y.1++(cI y.2.1++cB1 y.2.2)
theorem Ju:Reads Tryz.prog 89 cC3:=by
 refine qG Tryz.underlying89 Bg ?_;exact eZ (s:=1) (S:=2) (c:=cS) (c':=fun y:Int×Bool×Unit=>cI y.1++cB1 y.2) rfl Bf rS (eZ (s:=1) (S:=1) (c:=cI) (c':=cB1) rfl nL rI (eZ (s:=1) (S:=0) (c:=cB) (c':=cU) rfl Be rB qF))
theorem Jv:Reads Tryz.prog 89 Tw.bW:=qE (c:=cC3) (fun y=>(y.1,y.2.1,y.2.2.1)) (fun _=>rfl) Ju
theorem Jw:Reads Tryz.prog 22 (fun l:List Car=>[.sl l.length (bF l)]):=nK Tryz.underlying22 Bg (by decide) (fun _=>rfl) Jv
abbrev cO2(y:Bool×Int×Unit):List PV:=cB y.1++cI1 y.2
abbrev cO4(y:ByteArray×Int×Bool×Int×Unit):List PV:=cS y.1++(cI y.2.1++cO2 y.2.2)
theorem Jx:Reads Tryz.prog 91 cO4:=by
 refine qG Tryz.underlying91 Bh ?_
 exact eZ (s:=1) (S:=3) (c:=cS) (c':=fun y:Int×Bool×Int×Unit=>cI y.1++cO2 y.2) rfl Bf rS (eZ (s:=1) (S:=2) (c:=cI) (c':=cO2) rfl nL rI
  (eZ (s:=1) (S:=1) (c:=cB) (c':=cI1) rfl Be rB (eZ (s:=1) (S:=0) (c:=cI) (c':=cU) rfl nL rI qF)))
theorem Jy:Reads Tryz.prog 91 Tw.bE:=qE (c:=cO4) (fun y=>(y.1,y.2.1,y.2.2.1,y.2.2.2.1)) (fun _=>rfl) Jx
theorem Jz:Reads Tryz.prog 23 (fun l:List Ord=>[.sl l.length (bD l)]):=nK Tryz.underlying23 Bh (by decide) (fun _=>rfl) Jy
theorem JA:Reads Tryz.prog 120 Tw.cL:=Jk (c:=cI) Tryz.underlying120 nL Bi rI
theorem JB:Reads Tryz.prog 25 (fun l:List Par=>[.sl l.length (bH l)]):=nK Tryz.underlying25 Bi (by decide) (fun _=>rfl) JA
abbrev cR1(y:List Par×Unit):List PV:=[.sl y.1.length (bH y.1)]++cU y.2
abbrev cR2(y:List (List Int)×List Par×Unit):List PV:=[.sl y.1.length (b8 y.1)]++cR1 y.2
abbrev cR3(y:List Ord×List (List Int)×List Par×Unit):List PV:=[.sl y.1.length (bD y.1)]++cR2 y.2
abbrev cR4(y:List Car×List Ord×List (List Int)×List Par×Unit):List PV:=[.sl y.1.length (bF y.1)]++cR3 y.2
theorem JC:Reads Tryz.prog 27 cR4:=by
 refine qG Tryz.underlying27 Js ?_
 exact eZ (s:=1) (S:=3) (c:=fun l:List Car=>[.sl l.length (bF l)]) (c':=cR3) rfl Jp Jw (eZ (s:=1) (S:=2) (c:=fun l:List Ord=>[.sl l.length (bD l)]) (c':=cR2) rfl Jq Jz
  (eZ (s:=1) (S:=1) (c:=fun l:List (List Int)=>[.sl l.length (b8 l)]) (c':=cR1) rfl Jo Jt (eZ (s:=1) (S:=0) (c:=fun l:List Par=>[.sl l.length (bH l)]) (c':=cU) rfl Jr JB qF)))
theorem JD:Tryz.prog.cellsOf 30=2:=by kernel_rfl
abbrev cQ1(y:List Int×Unit):List PV:=[.sl y.1.length (ints y.1)]++cU y.2
abbrev cQ2(y:List Int×List Int×Unit):List PV:=[.sl y.1.length (ints y.1)]++cQ1 y.2
theorem JE:Reads Tryz.prog 30 cQ2:=by
 refine qG Tryz.underlying30 JD ?_;exact eZ (s:=1) (S:=1) (c:=mO) (c':=cQ1) rfl vh qH (eZ (s:=1) (S:=0) (c:=mO) (c':=cU) rfl vh qH qF)
end Go.Proofs.YthpkmilhiganjaaGreat
