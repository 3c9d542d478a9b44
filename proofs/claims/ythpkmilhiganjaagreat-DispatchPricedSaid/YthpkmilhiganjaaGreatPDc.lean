/- Lemmas. -/
import Derived.Test.YthpkmilhiganjaaGreatPDb
import Derived.Test.YthpkmilhiganjaaGreatPLg
import Derived.Test.YthpkmilhiganjaaGreatPLf
import Derived.Test.YthpkmilhiganjaaGreatPDa
import Derived.Test.YthpkmilhiganjaaGreatRows
import Derived.Conc.LeavingOf
import Derived.Test.YthpkmilhiganjaaGreatPMc
import Derived.ProofKit
set_option linter.unusedSimpArgs false
set_option linter.unusedVariables false
set_option linter.unusedSectionVars false
set_option maxHeartbeats 32000000
set_option maxRecDepth 100000
namespace Go.Proofs.YthpkmilhiganjaaGreat
open Go Go.Fi
noncomputable instance Yv:ar:=LD
theorem FM(a b:Int):aA Tz.prog 161 [.int .i64 a,.int .i64 b] (.bool (decide (a<b))) true:=by
 have c:∀a,aA Tz.prog 179 [.int .i64 a] (.bool false) true:=fun a=>by
  refine rcK Tz.func179 ?_;simp only[Tryz.results179,Tryz.ntmps179]
  repeat' (first|(with_reducible first|refine af ?_|refine az ?_|refine ae ?_|intro _)|(simp[*]))
 refine rcK Tz.func161 ?_;simp only[Tryz.results161,Tryz.ntmps161]
 repeat' (first|(with_reducible first|refine af ?_|refine az ?_|refine ae ?_|refine And.intro ?_ ?_|refine cw (c _) ?_|intro _)|(simp[*])|(refine ai (c _) ?_ ?_;(· (simp[*];done))))
theorem Lr:aA Tz.prog 32 [Tw.aR iZ] (.tup [.int .i64 200,.sl 2 [.int .i64 1,.int .i64 0],.int .i64 0]) false:=by
 have c1:=qu;obtain⟨m1,m2,m3,m4,m5⟩:=Li
 have c2:aA Tz.prog 121 [.int .u64 5] (.int .i64 3) true:=by
  have c:aA Tz.prog 165 [.int .u64 5] (.int .i64 3) true:=by
   refine rcK Tz.func165 ?_;simp only[Tryz.results165,Tryz.ntmps165]
   repeat' (first|(with_reducible first|refine af ?_|refine av ?_|refine az ?_|refine ae ?_|refine ak ?_|refine And.intro ?_ ?_|intro _)|(simp[*]))
   all_goals first|exact cV (by decide)|decide
  refine rcK Tz.func121 ?_;simp only[Tryz.results121,Tryz.ntmps121]
  repeat' (first|(with_reducible first|refine af ?_|refine av ?_|refine az ?_|refine ae ?_|refine ak ?_|refine And.intro ?_ ?_|refine cw (c) ?_|intro _)|(simp[*])|(refine ai (c) ?_ ?_;(· (simp[*];done))))
 have c4:=DQ [.int .i64 1,.int .i64 0];rw[m8] at *;unfold rd2 at *;refine m7 Tz.func32 (by kernel_rfl) rfl (Nat.le_of_ble_eq_true (by kernel_rfl)) ?_;simp only[Tryz.results32,Tryz.ntmps32]
 repeat' (first|((with_reducible refine Ed (o:=false) (f:=false) ?_ ?_);(· rfl))|((with_reducible refine Ee (o:=false) (f:=false) ?_ ?_);(· rfl))|(with_reducible first|refine b7 ?_|refine jW ?_|refine Eb 40 ?_|refine Ec ?_|refine qj (gf:=122) rfl Tz.func122 (by kernel_rfl) rfl (Nat.le_of_ble_eq_true (by kernel_rfl)) (fun l=>?_)|refine lN (id:=3) 16 ?_ ?_|refine qo rfl (by simp) ?_|refine DN ?_|refine bY ?_|refine oC (id:=10) 1 Tz.func84 (by kernel_rfl) rfl (by decide) rfl ?_|refine oC (id:=12) 1 Tz.func85 (by kernel_rfl) rfl (by decide) rfl ?_|refine oC (id:=1) 5 Tz.func120 (by kernel_rfl) rfl (by decide) rfl ?_|refine oC (id:=4) 3 Tz.func155 (by kernel_rfl) rfl (by decide) rfl ?_|refine yn (Nat.le_of_ble_eq_true (by kernel_rfl)) (by simp) rfl ?_|refine gh 40 ?_|refine gr ?_|refine dV ?_|refine af ?_|refine av ?_|refine az ?_|refine aJ ?_|refine ae ?_|refine aK (id:=4) 15 mixed (by decide +kernel) ?_|refine jk (id:=6) [0,1,2,3,4,5,6,7,8,9,10,11,12,13,14] [15,16,17] [[],[],[.slot 0],[.slot 0],[.slot 0],[],[],[],[],[],[],[],[],[],[]] [[.slot 0],[],[.slot 0]] mixed (by decide +kernel) ?_|refine aK (id:=6) 10 mixed (by decide +kernel) ?_|refine ak ?_|refine And.intro ?_ ?_|refine cw (c1) ?_|refine cw (m1) ?_|refine cw (m2) ?_|refine cw (m3) ?_|refine cw (m4) ?_|refine cw (m5) ?_|refine cw (c2) ?_|refine cw (c4) ?_|refine cw (FM _ _) ?_|intro _)|(simp[*,cG,dp,eQ,oneOf])|(refine ai (c1) ?_ ?_;(· (simp[*];done)))|(refine ai (m1) ?_ ?_;(· (simp[*];done)))|(refine ai (m2) ?_ ?_;(· (simp[*];done)))|(refine ai (m3) ?_ ?_;(· (simp[*];done)))|(refine ai (m4) ?_ ?_;(· (simp[*];done)))|(refine ai (m5) ?_ ?_;(· (simp[*];done)))|(refine ai (c2) ?_ ?_;(· (simp[*];done)))|(refine ai (c4) ?_ ?_;(· (simp[*];done)))|(refine ai (FM _ _) ?_ ?_;(· (simp[*];done))))
 all_goals first|exact cV (by decide)|decide|(simp[touch];done)
noncomputable instance Yy:ar:=LD
theorem PM:ik Tz.prog 157=some (.int .i64,.int .i64 0):=by kernel_rfl
def mE:PV:=.agg [.sl 1 [.str ⟨#[97]⟩,.int .i64 4,.bool false],.sl 2 [.str ⟨#[112]⟩,.int .i64 1,.bool false,.int .i64 0,.str ⟨#[113]⟩,.int .i64 1,.bool false,.int .i64 0],.sl 2 [.sl 1 [.int .i64 100],.sl 1 [.int .i64 150]],.sl 0 []]
theorem Lt:aA Tz.prog 42 [Tw.aR iZ,.int .i64 1] (.tup [mE,.int .i64 0]) false:=by
 have c1:=qu
 have c2:aA Tz.prog 91 [rd2,.int .i64 1] (.int .i64 0) true:=by
  have u:∀e,aA Tz.prog 71 [.bool true,.int .i64 e] (.int .i64 0) true:=fun e=>cH true e
  unfold rd2;refine rcK Tz.func91 ?_;simp only[Tryz.results91,Tryz.ntmps91]
  repeat' (first|(with_reducible first|refine af ?_|refine az ?_|refine ae ?_|refine And.intro ?_ ?_|refine cw (dL _ _ _) ?_|refine cw (u _) ?_|intro _)|(simp[*,aL])|(refine ai (dL _ _ _) ?_ ?_;(· (simp[*];done)))|(refine ai (u _) ?_ ?_;(· (simp[*];done))))
  all_goals first|exact cV (by decide)|decide
 have k0:∀k:Int,aA Tz.prog 123 [.sl 0 [],.int .i64 k] (.bool false) true:=fun k=>lL [] (by decide) k
 have k1:aA Tz.prog 123 [.sl 1 [.int .i64 1],.int .i64 0] (.bool false) true:=lL [1] (by decide) 0;have k2:aA Tz.prog 123 [.sl 1 [.int .i64 1],.int .i64 1] (.bool true) true:=lL [1] (by decide) 1
 have c3:aA Tz.prog 87 [rd2,.sl 0 [],.sl 1 [.int .i64 1]] mE true:=by
  have mt:=PM;clear c1 c2;unfold rd2 mE;refine rcK Tz.func87 ?_;simp only[Tryz.results87,Tryz.ntmps87]
  repeat' (first|(with_reducible first|refine gh 40 ?_|refine gr ?_|refine dV ?_|refine af ?_|refine av ?_|refine az ?_|refine aJ ?_|refine ae ?_|refine ak ?_|refine And.intro ?_ ?_|refine cw (k0 _) ?_|refine cw (k1) ?_|refine cw (k2) ?_|intro _)|(simp[*,lkV,lkR,pn,vt,okM,okK,isLit,ij,fM,eqK,uO,Tw.cj,Tw.bG,mt])|(refine ai (k0 _) ?_ ?_;(· (simp[*];done)))|(refine ai (k1) ?_ ?_;(· (simp[*];done)))|(refine ai (k2) ?_ ?_;(· (simp[*];done))))
  all_goals first|exact cV (by decide)|decide|(simp[touch];done)
 rw[m8] at *;unfold rd2 mE at *;clear k0 k1 k2;refine rcK Tz.func42 ?_;simp only[Tryz.results42,Tryz.ntmps42]
 repeat' (first|(with_reducible first|refine af ?_|refine av ?_|refine az ?_|refine ae ?_|refine ak ?_|refine And.intro ?_ ?_|refine cw (c1) ?_|refine cw (c2) ?_|refine cw (c3) ?_|intro _)|(simp[*])|(refine ai (c1) ?_ ?_;(· (simp[*];done)))|(refine ai (c2) ?_ ?_;(· (simp[*];done)))|(refine ai (c3) ?_ ?_;(· (simp[*];done))))
 all_goals first|exact cV (by decide)|decide|(simp[touch];done)
noncomputable instance YA:ar:=LD
def rdL:PV:=.ip [.sl 1 [.str ⟨#[97]⟩,.int .i64 4,.bool false],.sl 2 [.str ⟨#[112]⟩,.int .i64 1,.bool false,.int .i64 0,.str ⟨#[113]⟩,.int .i64 1,.bool false,.int .i64 0],.sl 2 [.sl 1 [.int .i64 100],.sl 1 [.int .i64 150]],.sl 0 [],.sl 2 [.sl 1 [.bool true],.sl 1 [.bool true]]] 0
theorem Lu:aA Tz.prog 95 [rdL,.sl 0 []] (.sl 0 []) true∧aA Tz.prog 95 [rdL,.sl 1 [.int .i64 0]] (.sl 1 [.int .i64 0]) true∧aA Tz.prog 95 [rdL,.sl 1 [.int .i64 1]] (.sl 1 [.int .i64 0]) true∧aA Tz.prog 95 [rdL,.sl 2 [.int .i64 0,.int .i64 1]] (.sl 1 [.int .i64 0]) true:=by
 have f:∀i:Int,(i=0∨i=1)→aA Tz.prog 125 [.int .i64 i,.ip [rdL] 0,.ip [.int .i64 0] 0] (.bool true) true:=fun i h=>by
  unfold rdL
  rcases h with rfl|rfl
  all_goals
   refine rcK Tz.func125 ?_;simp only[Tryz.results125,Tryz.ntmps125]
   repeat' (first|(with_reducible first|refine af ?_|refine az ?_|refine ae ?_|refine aK (id:=1) 11 mixed (by decide +kernel) ?_|intro _)|(simp[*]))
 have f0:=f 0 (.inl rfl);have f1:=f 1 (.inr rfl);clear f;unfold rdL at *
 have a:∀l:List PV,(l=[]∨l=[.int .i64 0]∨l=[.int .i64 1]∨l=[.int .i64 0,.int .i64 1])→aA Tz.prog 93 [.sl l.length l,.fn 125 [.ip [.ip [.sl 1 [.str ⟨#[97]⟩,.int .i64 4,.bool false],.sl 2 [.str ⟨#[112]⟩,.int .i64 1,.bool false,.int .i64 0,.str ⟨#[113]⟩,.int .i64 1,.bool false,.int .i64 0],.sl 2 [.sl 1 [.int .i64 100],.sl 1 [.int .i64 150]],.sl 0 [],.sl 2 [.sl 1 [.bool true],.sl 1 [.bool true]]] 0] 0,.ip [.int .i64 0] 0]] (.bool (decide (0<l.length))) true:=fun l h=>by
  have b:aA Tz.prog 124 [.sl l.length l,.fn 125 [.ip [.ip [.sl 1 [.str ⟨#[97]⟩,.int .i64 4,.bool false],.sl 2 [.str ⟨#[112]⟩,.int .i64 1,.bool false,.int .i64 0,.str ⟨#[113]⟩,.int .i64 1,.bool false,.int .i64 0],.sl 2 [.sl 1 [.int .i64 100],.sl 1 [.int .i64 150]],.sl 0 [],.sl 2 [.sl 1 [.bool true],.sl 1 [.bool true]]] 0] 0,.ip [.int .i64 0] 0]] (.int .i64 (if 0<l.length then 0 else -1)) true:=by
   rcases h with rfl|rfl|rfl|rfl
   all_goals
    simp only[List.length_cons,List.length_nil,Nat.zero_add,Nat.reduceAdd,Nat.lt_irrefl,decide_false,Nat.zero_lt_succ,decide_true,if_true,if_false];refine rcK Tz.func124 ?_;simp only[Tryz.results124,Tryz.ntmps124]
    repeat' (first|(with_reducible first|refine gh 40 ?_|refine gr ?_|refine dV ?_|refine af ?_|refine av ?_|refine az ?_|refine aJ ?_|refine ae ?_|refine ak ?_|refine And.intro ?_ ?_|refine cw (f0) ?_|refine cw (f1) ?_|intro _)|(simp[*])|(refine ai (f0) ?_ ?_;(· (simp[*];done)))|(refine ai (f1) ?_ ?_;(· (simp[*];done))))
   all_goals first|exact cV (by decide)|(simp[touch];done)
  rcases h with rfl|rfl|rfl|rfl
  all_goals
   simp only[List.length_cons,List.length_nil,Nat.zero_add,Nat.reduceAdd,Nat.lt_irrefl,decide_false,Nat.zero_lt_succ,decide_true,if_true,if_false] at b ⊢;clear f0 f1;refine rcK Tz.func93 ?_;simp only[Tryz.results93,Tryz.ntmps93]
   repeat' (first|(with_reducible first|refine af ?_|refine az ?_|refine ae ?_|refine And.intro ?_ ?_|refine cw (b) ?_|intro _)|(simp[*])|(refine ai (b) ?_ ?_;(· (simp[*];done))))
 have a0:=a _ (.inl rfl);have a1:=a _ (.inr (.inl rfl));have a2:=a _ (.inr (.inr (.inl rfl)));have a3:=a _ (.inr (.inr (.inr rfl)));clear a f0 f1;refine⟨?_,?_,?_,?_⟩
 all_goals
  refine rcK Tz.func95 ?_;simp only[Tryz.results95,Tryz.ntmps95]
  repeat' (first|(with_reducible first|refine gh 40 ?_|refine gr ?_|refine dV ?_|refine af ?_|refine av ?_|refine az ?_|refine aJ ?_|refine ae ?_|refine ak ?_|refine And.intro ?_ ?_|refine cw (a0) ?_|refine cw (a1) ?_|refine cw (a2) ?_|refine cw (a3) ?_|intro _)|(simp[*])|(refine ai (a0) ?_ ?_;(· (simp[*];done)))|(refine ai (a1) ?_ ?_;(· (simp[*];done)))|(refine ai (a2) ?_ ?_;(· (simp[*];done)))|(refine ai (a3) ?_ ?_;(· (simp[*];done))))
 all_goals first|exact cV (by decide)|(simp[touch];done)
noncomputable instance YC:ar:=LD
def zH:Tw.RND where
 ab:=[(⟨#[97]⟩,4,false)]
 os:=[(⟨#[112]⟩,1,false,0),(⟨#[113]⟩,1,false,0)]
 wt:=[[100],[150]]
 zs:=[]
 cP:=by
  refine⟨?_,?_,?_,by decide,by decide,by decide,by decide⟩
  ·intro c hc;simp only[List.mem_cons,List.not_mem_nil,or_false] at hc
   rcases hc with rfl|rfl<;>decide
  ·intro c hc;simp only[List.mem_cons,List.not_mem_nil,or_false] at hc
   rcases hc with rfl|rfl<;>decide
  ·intro c hc;simp only[List.mem_cons,List.not_mem_nil,or_false] at hc
   rcases hc with rfl|rfl<;>decide
theorem Lv:ceR zH=0:=by kernel_rfl
theorem Lw:aA Tz.prog 69 [mE] (.tup [rdL,.int .i64 0]) false:=by
 have c:=cQ zH;rw[fe zH Lv] at c;exact c
@[simp] theorem YD:cL Tz.prog 160=some [.w false false .undef]:=by kernel_rfl
theorem Lx:aA Tz.prog 50 [mE] (.tup [.sl 2 [.int .i64 0,.int .i64 1],.int .i64 0]) false:=by
 have c1:=Lw;obtain⟨a0,a1,a2,a3⟩:=Lu
 have c2:∀s:Int,aA Tz.prog 96 [.int .i64 2,.int .i64 s] (.fn 126 [.ip [.int .i64 s] 0,.ip [.int .i64 2] 0]) true:=fun s=>by
  refine rcK Tz.func96 ?_;simp only[Tryz.results96,Tryz.ntmps96]
  repeat' (first|(with_reducible first|refine af ?_|refine az ?_|refine ae ?_|intro _)|(simp[*]))
 have c3:aA Tz.prog 97 [.sl 2 [.int .i64 0,.int .i64 1]] (.sl 2 [.int .i64 0,.int .i64 1]) true:=Du [0,1] (by decide);unfold rdL mE at *;refine m7 Tz.func50 (by kernel_rfl) rfl (Nat.le_of_ble_eq_true (by kernel_rfl)) ?_;simp only[Tryz.results50,Tryz.ntmps50]
 repeat' (first|((with_reducible refine Ed (o:=false) (f:=false) ?_ ?_);(· rfl))|((with_reducible refine Ee (o:=false) (f:=false) ?_ ?_);(· rfl))|((with_reducible refine Lp (o:=false) (f:=false) ?_ ?_);(· rfl))|((with_reducible refine Lq (o:=false) (f:=false) ?_ ?_);(· rfl))|(with_reducible first|refine b7 ?_|refine jW ?_|refine Eb 40 ?_|refine Ec ?_|refine yb (gf:=126) rfl Tz.func126 (by kernel_rfl) rfl (Nat.le_of_ble_eq_true (by kernel_rfl)) (fun l=>?_)|refine fg ?_|refine yu ?_|refine Ln 40 ?_|refine Lo ?_|refine DY (id:=3) 1 127 Tz.func127 (by kernel_rfl) rfl (by decide) rfl ?_|refine DZ (id:=6) 12 127 mixed (by decide +kernel) (by decide +kernel) Tz.func127 (by kernel_rfl) rfl rfl ?_|refine yw _ rfl (Nat.le_of_ble_eq_true (by kernel_rfl)) (by simp) rfl ?_|refine DW (id:=2) 2 (by decide) rfl rfl (by simp) ?_|refine Ll _ _ rfl rfl (by simp) ?_|refine K9 ?_|refine La ?_|refine bY ?_|refine eD ?_|refine dV ?_|refine af ?_|refine av ?_|refine az ?_|refine aJ ?_|refine ae ?_|refine aK (id:=7) 8 mixed (by decide +kernel) ?_|refine aK (id:=9) 6 mixed (by decide +kernel) ?_|refine ak ?_|refine And.intro ?_ ?_|refine cw (c1) ?_|refine cw (a0) ?_|refine cw (a1) ?_|refine cw (a2) ?_|refine cw (a3) ?_|refine cw (c2 _) ?_|refine cw (c3) ?_|intro _)|(simp[*,cG,dp,eQ,oneOf])|(refine ai (c1) ?_ ?_;(· (simp[*];done)))|(refine ai (a0) ?_ ?_;(· (simp[*];done)))|(refine ai (a1) ?_ ?_;(· (simp[*];done)))|(refine ai (a2) ?_ ?_;(· (simp[*];done)))|(refine ai (a3) ?_ ?_;(· (simp[*];done)))|(refine ai (c2 _) ?_ ?_;(· (simp[*];done)))|(refine ai (c3) ?_ ?_;(· (simp[*];done))))
 all_goals first|exact cV (by decide)|decide|(simp[touch];done)
noncomputable instance YF:ar:=LD
theorem qv:aA Tz.prog 15 [] (.bool true) true:=by
 have c9:=Py;have c8:=Lf;have c10:=Lg;have c11:=Lh;have c12:=Lr;have c13:=Lt;have c14:=Lx;have c15:aA Tz.prog 52 [.sl 2 [.int .i64 0,.int .i64 1],.sl 2 [.int .i64 0,.int .i64 1]] (.bool true) true:=lM [0,1] [0,1] (by decide);rw[m8] at *;unfold mE at *;refine rcK Tz.func15 ?_;simp only[Tryz.results15,Tryz.ntmps15]
 repeat' (first|(with_reducible first|refine af ?_|refine az ?_|refine ae ?_|refine And.intro ?_ ?_|refine cw (c9) ?_|refine cw (c8) ?_|refine cw (c10) ?_|refine cw (c11) ?_|refine cw (c12) ?_|refine cw (c13) ?_|refine cw (c14) ?_|refine cw (c15) ?_|intro _)|(simp[*])|(refine ai (c9) ?_ ?_;(· (simp[*];done)))|(refine ai (c8) ?_ ?_;(· (simp[*];done)))|(refine ai (c10) ?_ ?_;(· (simp[*];done)))|(refine ai (c11) ?_ ?_;(· (simp[*];done)))|(refine ai (c12) ?_ ?_;(· (simp[*];done)))|(refine ai (c13) ?_ ?_;(· (simp[*];done)))|(refine ai (c14) ?_ ?_;(· (simp[*];done)))|(refine ai (c15) ?_ ?_;(· (simp[*];done))))
end Go.Proofs.YthpkmilhiganjaaGreat
namespace Go.Proofs.YthpkmilhiganjaaGreat
open Go.ChangeShapes Go.WideShapes Go.ChangeAt Go.RowKit Go.Conc
noncomputable instance YH:Go.Fi.ar:=LD
theorem uS:ownKnob Tryz.prog.godebug=none:=by kernel_rfl
theorem uU:laidOutB Tryz.prog=true:=by kernel_rfl
section
variable{C:Go.Fc.Cx}{W:World}
theorem Eh{a:Addr}{x:Value}(h:W.cell? a=some x):(Go.Fc.fI C W).cell? a=some x:=by
 unfold World.cell? at h;split at h
 ·rename_i c e f hb;unfold World.cell?;rw[Go.Fc.qW hb trivial];exact h
 ·cases h
theorem LL{G:Nat→Prop}{p:Go.Fi.PV}{v:Value}(h:Go.Fi.Rep G W p v):Go.Fi.Rep G (Go.Fc.fI C W) p v:=by
 induction h with
 |undef v=>exact .undef v
 |gj b=>exact .gj b
 |bool b=>exact .bool b
 |int k n=>exact .int k n
 |str s=>exact .str s
 |agg hl _ ih=>exact .agg hl ih
 |tup hl _ ih=>exact .tup hl ih
 |slnil=>exact .slnil
 |sl vals hn hc hg _ ih=>exact .sl vals hn (fun j hj=>Eh (hc j hj)) hg ih
 |slz hn=>exact .slz hn
 |ip vals hc hg _ ih=>exact .ip vals (fun j hj=>Eh (hc j hj)) hg ih
 |dP=>exact .dP
 |ig=>exact .ig
 |ifc _ ih=>exact .ifc ih
 |fn hl _ ih=>exact .fn hl ih
 |yl l=>exact .yl l
end
theorem tX(f:Nat)(fn:Func)(hf:Tryz.prog.funcs[f]?=some fn)(hk:Tz.keep f=true)(pvs:List Go.Fi.PV)(ht:Go.Fi.nH Tz.prog fn (fn.body.getD .skip) pvs (.bool true) true){t:Tmp}(hrs:fn.results=#[.tmp t])(W:World)(args:Array Value)(hlen:pvs.length=args.size)(hrep:∀(j:Nat)(p:Go.Fi.PV)(v:Value),pvs[j]?=some p→args[j]?=some v→Go.Fi.Rep (fun _=>True) W p v)(fO:Value→World→Prop)(hpost:∀B,Go.Fi.Bel W.heap.size W B→fO (.bool true) B):∃N last o w' t',runNT Tryz.prog (N+1) (solo (G (Frame.enter Tryz.prog f args .normal) []) W) #[]=(.ended o w',t')∧runN Tryz.prog N (solo (G (Frame.enter Tryz.prog f args .normal) []) W)=.next last∧step Tryz.prog last=.ended o w'∧Go.Conc.Good Tryz.prog fO last o w' t':=by
 obtain⟨fn',c,h1,h2,h3,h4,h5,h6,h7⟩:=Tz.Ft f hk
 have e1:fn'=fn:=by rw[hf] at h2;exact (Option.some.inj h2).symm
 subst e1
 have e2:c=fn'.body.getD .skip:=by rw[h4];rfl
 refine @Go.Fc.PO Tz.xfZ LD Tz.prog Tryz.prog Tz.kZ oE W (kI _) (fun f h=>h) f fn' c args t
  (fun v A=>v=.bool true∧Go.Fi.Bel W.heap.size (Go.Fc.fI (@Go.Fc.Cc Tz.xfZ Tz.prog Tryz.prog) W) A) fO hf h4 h5 ⟨⟨fn',h1,h2,h6⟩,h7⟩ ?_ hrs ?_ ?_
 ·exact fun h=>absurd (h.1.symm.trans hk) (by decide)
 ·have h:=ht (fun _=>True) (Go.Fc.fI (@Go.Fc.Cc Tz.xfZ Tz.prog Tryz.prog) W) args trivial hlen (fun j p v hp hv=>LL (hrep j p v hp hv));rw[Go.Fc.uP] at h;subst e2;refine Go.Fi.cJ h (fun e a' w' hq=>?_)
  have fin:∀(X:a'.defers=[]∧∀w1,Go.Fi.EnvD.E w' w1→∃v,(results fn' a'.tmps).run Tz.prog w1=.ok v w1∧∃v',Ending.returned v=.returned v'∧Go.Fi.Bel W.heap.size (Go.Fc.fI (@Go.Fc.Cc Tz.xfZ Tz.prog Tryz.prog) W) w1∧Go.Fi.Rep (fun b=>(b<W.heap.size→True)∧(true=true→W.heap.size≤b)) w1 (.bool true) v'),
   a'.defers=[]∧∀w1,Go.Fi.EnvD.E w' w1→∃v,(results fn' a'.tmps).run Tz.prog w1=.ok v w1∧∃v',Ending.returned v=.returned v'∧v'=.bool true∧Go.Fi.Bel W.heap.size (Go.Fc.fI (@Go.Fc.Cc Tz.xfZ Tz.prog Tryz.prog) W) w1:=by
   rintro⟨hd,X⟩
   refine⟨hd,fun w1 e1=>?_⟩;obtain⟨v,h1,v',h2,h3,h4⟩:=X w1 e1;refine⟨v,h1,v',h2,?_,h3⟩
   cases h4 with
   |bool=>rfl
  cases e with
  |normal=>exact fin hq
  |ret=>exact fin hq
  |_=>exact hq.elim
 ·intro v A B S hv hlk hd ho hp;obtain⟨rfl,hb⟩:=hv;exact hpost B (Go.Fc.PN hlk hd ho hp hb)
end Go.Proofs.YthpkmilhiganjaaGreat
namespace Go.Proofs.YthpkmilhiganjaaGreat
open Go Go.Fi Go.RowKit Go.ChangeShapes Go.WideShapes Go.ChangeAt
theorem qx:Tryz.prog.cellsOf 3=1:=by kernel_rfl
theorem Ei:Tryz.prog.cellsOf 4=1:=by kernel_rfl
theorem Ej:Tryz.prog.cellsOf 9=1:=by kernel_rfl
theorem yz:Tryz.prog.cellsOf 28=1:=by kernel_rfl
theorem LM:Tryz.prog.cellsOf 24=1:=by kernel_rfl
theorem Ek:Tryz.prog.cellsOf 89=3:=by kernel_rfl
theorem El:Tryz.prog.cellsOf 91=4:=by kernel_rfl
theorem Em:Tryz.prog.cellsOf 120=2:=by kernel_rfl
theorem LN:Tryz.prog.cellsOf 22=1:=by kernel_rfl
theorem LQ:Tryz.prog.cellsOf 23=1:=by kernel_rfl
theorem LS:Tryz.prog.cellsOf 25=1:=by kernel_rfl
theorem LU:Tryz.prog.cellsOf 27=4:=by kernel_rfl
abbrev cI(n:Int):List PV:=[.int .i64 n]
abbrev cB(b:Bool):List PV:=[.bool b]
abbrev cS(s:ByteArray):List PV:=[.str s]
abbrev cU(_:Unit):List PV:=[]
theorem rI:Reads Tryz.prog 3 cI:=LA Tryz.underlying3
theorem rB:Reads Tryz.prog 4 cB:=LG Tryz.underlying4
theorem rS:Reads Tryz.prog 9 cS:=LF Tryz.underlying9
theorem En:∀l:List Int,l.flatMap cI=ints l
 |[]=>rfl
 |x::r=>by rw[List.flatMap_cons,En r];rfl
abbrev pq(l:List Int):List PV:=[.sl l.length (ints l)]
theorem qy:Reads Tryz.prog 28 pq:=tU (c:=fun l:List Int=>[.sl l.length (l.flatMap cI)]) id (fun l=>by simp only[id,pq];rw[En]) (qw Tryz.underlying28 qx (by decide) (fun _=>rfl) rI)
theorem Eo:∀l:List (List Int),l.flatMap pq=aZ l
 |[]=>rfl
 |x::r=>by rw[List.flatMap_cons,Eo r];rfl
theorem LV:Reads Tryz.prog 24 (fun l:List (List Int)=>[.sl l.length (aZ l)]):=tU (c:=fun l:List (List Int)=>[.sl l.length (l.flatMap pq)]) id (fun l=>by simp only[id];rw[Eo]) (qw Tryz.underlying24 yz (by decide) (fun _=>rfl) qy)
abbrev cI1(y:Int×Unit):List PV:=cI y.1++cU y.2
abbrev cB1(y:Bool×Unit):List PV:=cB y.1++cU y.2
abbrev cC3(y:ByteArray×Int×Bool×Unit):List PV:=cS y.1++(cI y.2.1++cB1 y.2.2)
theorem LX:Reads Tryz.prog 89 cC3:=by
 refine tW Tryz.underlying89 Ek ?_;exact gD (s:=1) (S:=2) (c:=cS) (c':=fun y:Int×Bool×Unit=>cI y.1++cB1 y.2) rfl Ej rS (gD (s:=1) (S:=1) (c:=cI) (c':=cB1) rfl qx rI (gD (s:=1) (S:=0) (c:=cB) (c':=cU) rfl Ei rB tV))
theorem LY:Reads Tryz.prog 89 Tw.cj:=tU (c:=cC3) (fun y=>(y.1,y.2.1,y.2.2.1)) (fun _=>rfl) LX
theorem L3:Reads Tryz.prog 22 (fun l:List Car=>[.sl l.length (aQ l)]):=qw Tryz.underlying22 Ek (by decide) (fun _=>rfl) LY
abbrev cO2(y:Bool×Int×Unit):List PV:=cB y.1++cI1 y.2
abbrev cO4(y:ByteArray×Int×Bool×Int×Unit):List PV:=cS y.1++(cI y.2.1++cO2 y.2.2)
theorem L4:Reads Tryz.prog 91 cO4:=by
 refine tW Tryz.underlying91 El ?_
 exact gD (s:=1) (S:=3) (c:=cS) (c':=fun y:Int×Bool×Int×Unit=>cI y.1++cO2 y.2) rfl Ej rS (gD (s:=1) (S:=2) (c:=cI) (c':=cO2) rfl qx rI
  (gD (s:=1) (S:=1) (c:=cB) (c':=cI1) rfl Ei rB (gD (s:=1) (S:=0) (c:=cI) (c':=cU) rfl qx rI tV)))
theorem L5:Reads Tryz.prog 91 Tw.bG:=tU (c:=cO4) (fun y=>(y.1,y.2.1,y.2.2.1,y.2.2.2.1)) (fun _=>rfl) L4
theorem L6:Reads Tryz.prog 23 (fun l:List Ord=>[.sl l.length (aP l)]):=qw Tryz.underlying23 El (by decide) (fun _=>rfl) L5
theorem L8:Reads Tryz.prog 120 Tw.bH:=LI (c:=cI) Tryz.underlying120 qx Em rI
theorem L9:Reads Tryz.prog 25 (fun l:List Par=>[.sl l.length (aS l)]):=qw Tryz.underlying25 Em (by decide) (fun _=>rfl) L8
abbrev cR1(y:List Par×Unit):List PV:=[.sl y.1.length (aS y.1)]++cU y.2
abbrev cR2(y:List (List Int)×List Par×Unit):List PV:=[.sl y.1.length (aZ y.1)]++cR1 y.2
abbrev cR3(y:List Ord×List (List Int)×List Par×Unit):List PV:=[.sl y.1.length (aP y.1)]++cR2 y.2
abbrev cR4(y:List Car×List Ord×List (List Int)×List Par×Unit):List PV:=[.sl y.1.length (aQ y.1)]++cR3 y.2
theorem tY:Reads Tryz.prog 27 cR4:=by
 refine tW Tryz.underlying27 LU ?_
 exact gD (s:=1) (S:=3) (c:=fun l:List Car=>[.sl l.length (aQ l)]) (c':=cR3) rfl LN L3 (gD (s:=1) (S:=2) (c:=fun l:List Ord=>[.sl l.length (aP l)]) (c':=cR2) rfl LQ L6
  (gD (s:=1) (S:=1) (c:=fun l:List (List Int)=>[.sl l.length (aZ l)]) (c':=cR1) rfl LM LV (gD (s:=1) (S:=0) (c:=fun l:List Par=>[.sl l.length (aS l)]) (c':=cU) rfl LS L9 tV)))
theorem Ma:Tryz.prog.cellsOf 30=2:=by kernel_rfl
abbrev cQ1(y:List Int×Unit):List PV:=[.sl y.1.length (ints y.1)]++cU y.2
abbrev cQ2(y:List Int×List Int×Unit):List PV:=[.sl y.1.length (ints y.1)]++cQ1 y.2
theorem Mb:Reads Tryz.prog 30 cQ2:=by
 refine tW Tryz.underlying30 Ma ?_;exact gD (s:=1) (S:=1) (c:=pq) (c':=cQ1) rfl yz qy (gD (s:=1) (S:=0) (c:=pq) (c':=cU) rfl yz qy tV)
end Go.Proofs.YthpkmilhiganjaaGreat
