/- Lemmas. -/
import Derived.Test.YthpkmilhiganjaaGreatPDb
import Derived.Test.YthpkmilhiganjaaGreatPLg
import Derived.Test.YthpkmilhiganjaaGreatPLf
import Derived.Test.YthpkmilhiganjaaGreatPDa
import Derived.Test.YthpkmilhiganjaaGreatRows
import Derived.Conc.LeavingOf
import Derived.Test.YthpkmilhiganjaaGreatPMc
import Derived.ProofKit
set_option linter.all false
set_option maxHeartbeats 32000000
set_option maxRecDepth 100000
namespace Go.Proofs.YthpkmilhiganjaaGreat
open Go Go.Fi
noncomputable instance zbs:av:=LD
theorem IK(a b:Int):aC Tz.prog 161 [.int .i64 a,.int .i64 b] (.bool (decide (a<b))) true:=by
 have c:∀a,aC Tz.prog 179 [.int .i64 a] (.bool false) true:=λa=>by
  refine rcK Tz.func179 ?_;simp only[Tryz.results179,Tryz.ntmps179]
  repeat' first|(with_reducible first|apply ai|apply az|apply af|intro _)|(simp[*])
 refine rcK Tz.func161 ?_;simp only[Tryz.results161,Tryz.ntmps161]
 repeat' first|(with_reducible first|apply ai|apply az|apply af|refine And.intro ?_ ?_|refine cw (c _) ?_|intro _)|(simp[*])|(refine ae (c _) ?_ ?_;(· (simp[*];done)))
theorem Ph:aC Tz.prog 32 [Tw.aM lK] (.tup [.int .i64 200,.sl 2 [.int .i64 1,.int .i64 0],.int .i64 0]) false:=by
 have c1:=tZ;obtain⟨m1,m2,m3,m4,m5⟩:=O9
 have c2:aC Tz.prog 121 [.int .u64 5] (.int .i64 3) true:=by
  have c:aC Tz.prog 165 [.int .u64 5] (.int .i64 3) true:=by
   refine rcK Tz.func165 ?_;simp only[Tryz.results165,Tryz.ntmps165]
   repeat' first|(with_reducible first|apply ai|apply au|apply az|apply af|apply al|refine And.intro ?_ ?_|intro _)|(simp[*])
   all_goals first|exact dz (by decide)|decide
  refine rcK Tz.func121 ?_;simp only[Tryz.results121,Tryz.ntmps121]
  repeat' first|(with_reducible first|apply ai|apply au|apply az|apply af|apply al|refine And.intro ?_ ?_|refine cw (c) ?_|intro _)|(simp[*])|(refine ae (c) ?_ ?_;(· (simp[*];done)))
 have c4:=G3 [.int .i64 1,.int .i64 0];rw[qw] at *;unfold rd2 at *;refine oO Tz.func32 (by kernel_rfl) rfl (di (by kernel_rfl)) ?_;simp only[Tryz.results32,Tryz.ntmps32]
 repeat' first|((with_reducible refine Hg (o:=false) (f:=false) ?_ ?_);(· rfl))|((with_reducible refine Hh (o:=false) (f:=false) ?_ ?_);(· rfl))|(with_reducible first|apply cP|apply l8|refine He 40 ?_|apply Hf|refine ry (gf:=122) rfl Tz.func122 (by kernel_rfl) rfl (di (by kernel_rfl)) (λl=>?_)|refine mf (id:=3) 16 ?_ ?_|refine rC rfl (by simp) ?_|apply G1|apply cO|refine rD (id:=10) 1 Tz.func84 (by kernel_rfl) rfl (by decide) rfl ?_|refine rD (id:=12) 1 Tz.func85 (by kernel_rfl) rfl (by decide) rfl ?_|refine rD (id:=1) 5 Tz.func120 (by kernel_rfl) rfl (by decide) rfl ?_|refine rD (id:=4) 3 Tz.func155 (by kernel_rfl) rfl (by decide) rfl ?_|refine Bv (di (by kernel_rfl)) (by simp) rfl ?_|refine iY 40 ?_|apply jj|apply fY|apply ai|apply au|apply az|apply aL|apply af|refine aQ (id:=4) 15 mixed (by decide +kernel) ?_|refine iX (id:=6) [0,1,2,3,4,5,6,7,8,9,10,11,12,13,14] [15,16,17] [[],[],[.slot 0],[.slot 0],[.slot 0],[],[],[],[],[],[],[],[],[],[]] [[.slot 0],[],[.slot 0]] mixed (by decide +kernel) ?_|refine aQ (id:=6) 10 mixed (by decide +kernel) ?_|apply al|refine And.intro ?_ ?_|refine cw (c1) ?_|refine cw (m1) ?_|refine cw (m2) ?_|refine cw (m3) ?_|refine cw (m4) ?_|refine cw (m5) ?_|refine cw (c2) ?_|refine cw (c4) ?_|refine cw (IK _ _) ?_|intro _)|(simp[*,dC,eX,gz,oneOf])|(refine ae (c1) ?_ ?_;(· (simp[*];done)))|(refine ae (m1) ?_ ?_;(· (simp[*];done)))|(refine ae (m2) ?_ ?_;(· (simp[*];done)))|(refine ae (m3) ?_ ?_;(· (simp[*];done)))|(refine ae (m4) ?_ ?_;(· (simp[*];done)))|(refine ae (m5) ?_ ?_;(· (simp[*];done)))|(refine ae (c2) ?_ ?_;(· (simp[*];done)))|(refine ae (c4) ?_ ?_;(· (simp[*];done)))|(refine ae (IK _ _) ?_ ?_;(· (simp[*];done)))
 all_goals first|exact dz (by decide)|decide|(simp[touch];done)
noncomputable instance zbv:av:=LD
theorem Sy:jZ Tz.prog 157=some (.int .i64,.int .i64 0):=by kernel_rfl
def pJ:PV:=.agg [.sl 1 [.str ⟨#[97]⟩,.int .i64 4,.bool false],.sl 2 [.str ⟨#[112]⟩,.int .i64 1,.bool false,.int .i64 0,.str ⟨#[113]⟩,.int .i64 1,.bool false,.int .i64 0],.sl 2 [.sl 1 [.int .i64 100],.sl 1 [.int .i64 150]],.sl 0 []]
theorem Pk:aC Tz.prog 42 [Tw.aM lK,.int .i64 1] (.tup [pJ,.int .i64 0]) false:=by
 have c1:=tZ
 have c2:aC Tz.prog 91 [rd2,.int .i64 1] (.int .i64 0) true:=by
  have u:∀e,aC Tz.prog 71 [.bool true,.int .i64 e] (.int .i64 0) true:=λe=>dG true e
  unfold rd2;refine rcK Tz.func91 ?_;simp only[Tryz.results91,Tryz.ntmps91]
  repeat' first|(with_reducible first|apply ai|apply az|apply af|refine And.intro ?_ ?_|refine cw (fL _ _ _) ?_|refine cw (u _) ?_|intro _)|(simp[*,aU])|(refine ae (fL _ _ _) ?_ ?_;(· (simp[*];done)))|(refine ae (u _) ?_ ?_;(· (simp[*];done)))
  all_goals first|exact dz (by decide)|decide
 have k0:∀k:Int,aC Tz.prog 123 [.sl 0 [],.int .i64 k] (.bool false) true:=λk=>oP [] (by decide) k
 have k1:aC Tz.prog 123 [.sl 1 [.int .i64 1],.int .i64 0] (.bool false) true:=oP [1] (by decide) 0;have k2:aC Tz.prog 123 [.sl 1 [.int .i64 1],.int .i64 1] (.bool true) true:=oP [1] (by decide) 1
 have c3:aC Tz.prog 87 [rd2,.sl 0 [],.sl 1 [.int .i64 1]] pJ true:=by
  have mt:=Sy;clear c1 c2;unfold rd2 pJ;refine rcK Tz.func87 ?_;simp only[Tryz.results87,Tryz.ntmps87]
  repeat' first|(with_reducible first|refine iY 40 ?_|apply jj|apply fY|apply ai|apply au|apply az|apply aL|apply af|apply al|refine And.intro ?_ ?_|refine cw (k0 _) ?_|refine cw (k1) ?_|refine cw (k2) ?_|intro _)|(simp[*,lkV,lkR,sD,yR,okM,okK,isLit,jY,iv,eqK,xR,Tw.dt,Tw.cg,mt])|(refine ae (k0 _) ?_ ?_;(· (simp[*];done)))|(refine ae (k1) ?_ ?_;(· (simp[*];done)))|(refine ae (k2) ?_ ?_;(· (simp[*];done)))
  all_goals first|exact dz (by decide)|decide|(simp[touch];done)
 rw[qw] at *;unfold rd2 pJ at *;clear k0 k1 k2;refine rcK Tz.func42 ?_;simp only[Tryz.results42,Tryz.ntmps42]
 repeat' first|(with_reducible first|apply ai|apply au|apply az|apply af|apply al|refine And.intro ?_ ?_|refine cw (c1) ?_|refine cw (c2) ?_|refine cw (c3) ?_|intro _)|(simp[*])|(refine ae (c1) ?_ ?_;(· (simp[*];done)))|(refine ae (c2) ?_ ?_;(· (simp[*];done)))|(refine ae (c3) ?_ ?_;(· (simp[*];done)))
 all_goals first|exact dz (by decide)|decide|(simp[touch];done)
noncomputable instance zbx:av:=LD
def rdL:PV:=.ip [.sl 1 [.str ⟨#[97]⟩,.int .i64 4,.bool false],.sl 2 [.str ⟨#[112]⟩,.int .i64 1,.bool false,.int .i64 0,.str ⟨#[113]⟩,.int .i64 1,.bool false,.int .i64 0],.sl 2 [.sl 1 [.int .i64 100],.sl 1 [.int .i64 150]],.sl 0 [],.sl 2 [.sl 1 [.bool true],.sl 1 [.bool true]]] 0
theorem Pl:aC Tz.prog 95 [rdL,.sl 0 []] (.sl 0 []) true/\aC Tz.prog 95 [rdL,.sl 1 [.int .i64 0]] (.sl 1 [.int .i64 0]) true/\aC Tz.prog 95 [rdL,.sl 1 [.int .i64 1]] (.sl 1 [.int .i64 0]) true/\aC Tz.prog 95 [rdL,.sl 2 [.int .i64 0,.int .i64 1]] (.sl 1 [.int .i64 0]) true:=by
 have f:∀i:Int,(i=0\/i=1)->aC Tz.prog 125 [.int .i64 i,.ip [rdL] 0,.ip [.int .i64 0] 0] (.bool true) true:=λi h=>by
  unfold rdL
  rcases h with rfl|rfl
  all_goals
   refine rcK Tz.func125 ?_;simp only[Tryz.results125,Tryz.ntmps125]
   repeat' first|(with_reducible first|apply ai|apply az|apply af|refine aQ (id:=1) 11 mixed (by decide +kernel) ?_|intro _)|(simp[*])
 have f0:=f 0 (.inl rfl);have f1:=f 1 (.inr rfl);clear f;unfold rdL at *
 have a:∀l:List PV,(l=[]\/l=[.int .i64 0]\/l=[.int .i64 1]\/l=[.int .i64 0,.int .i64 1])->aC Tz.prog 93 [.sl l.length l,.fn 125 [.ip [.ip [.sl 1 [.str ⟨#[97]⟩,.int .i64 4,.bool false],.sl 2 [.str ⟨#[112]⟩,.int .i64 1,.bool false,.int .i64 0,.str ⟨#[113]⟩,.int .i64 1,.bool false,.int .i64 0],.sl 2 [.sl 1 [.int .i64 100],.sl 1 [.int .i64 150]],.sl 0 [],.sl 2 [.sl 1 [.bool true],.sl 1 [.bool true]]] 0] 0,.ip [.int .i64 0] 0]] (.bool (decide (0<l.length))) true:=λl h=>by
  have b:aC Tz.prog 124 [.sl l.length l,.fn 125 [.ip [.ip [.sl 1 [.str ⟨#[97]⟩,.int .i64 4,.bool false],.sl 2 [.str ⟨#[112]⟩,.int .i64 1,.bool false,.int .i64 0,.str ⟨#[113]⟩,.int .i64 1,.bool false,.int .i64 0],.sl 2 [.sl 1 [.int .i64 100],.sl 1 [.int .i64 150]],.sl 0 [],.sl 2 [.sl 1 [.bool true],.sl 1 [.bool true]]] 0] 0,.ip [.int .i64 0] 0]] (.int .i64 (if 0<l.length then 0 else -1)) true:=by
   rcases h with rfl|rfl|rfl|rfl
   all_goals
    simp only[eI,jM,cY,Nat.reduceAdd,Nat.lt_irrefl,decide_false,Nat.zero_lt_succ,decide_true,aX,a9];refine rcK Tz.func124 ?_;simp only[Tryz.results124,Tryz.ntmps124]
    repeat' first|(with_reducible first|refine iY 40 ?_|apply jj|apply fY|apply ai|apply au|apply az|apply aL|apply af|apply al|refine And.intro ?_ ?_|refine cw (f0) ?_|refine cw (f1) ?_|intro _)|(simp[*])|(refine ae (f0) ?_ ?_;(· (simp[*];done)))|(refine ae (f1) ?_ ?_;(· (simp[*];done)))
   all_goals first|exact dz (by decide)|(simp[touch];done)
  rcases h with rfl|rfl|rfl|rfl
  all_goals
   simp only[eI,jM,cY,Nat.reduceAdd,Nat.lt_irrefl,decide_false,Nat.zero_lt_succ,decide_true,aX,a9] at b ⊢;clear f0 f1;refine rcK Tz.func93 ?_;simp only[Tryz.results93,Tryz.ntmps93]
   repeat' first|(with_reducible first|apply ai|apply az|apply af|refine And.intro ?_ ?_|refine cw (b) ?_|intro _)|(simp[*])|(refine ae (b) ?_ ?_;(· (simp[*];done)))
 have a0:=a _ (.inl rfl);have a1:=a _ (.inr (.inl rfl));have a2:=a _ (.inr (.inr (.inl rfl)));have a3:=a _ (.inr (.inr (.inr rfl)));clear a f0 f1;refine⟨?_,?_,?_,?_⟩
 all_goals
  refine rcK Tz.func95 ?_;simp only[Tryz.results95,Tryz.ntmps95]
  repeat' first|(with_reducible first|refine iY 40 ?_|apply jj|apply fY|apply ai|apply au|apply az|apply aL|apply af|apply al|refine And.intro ?_ ?_|refine cw (a0) ?_|refine cw (a1) ?_|refine cw (a2) ?_|refine cw (a3) ?_|intro _)|(simp[*])|(refine ae (a0) ?_ ?_;(· (simp[*];done)))|(refine ae (a1) ?_ ?_;(· (simp[*];done)))|(refine ae (a2) ?_ ?_;(· (simp[*];done)))|(refine ae (a3) ?_ ?_;(· (simp[*];done)))
 all_goals first|exact dz (by decide)|(simp[touch];done)
noncomputable instance zbz:av:=LD
def CR:Tw.RND where
 ab:=[(⟨#[97]⟩,4,false)]
 os:=[(⟨#[112]⟩,1,false,0),(⟨#[113]⟩,1,false,0)]
 wt:=[[100],[150]]
 zs:=[]
 dB:=by
  refine⟨?_,?_,?_,by decide,by decide,by decide,by decide⟩
  .intro c hc;simp only[cD,lP,or_false] at hc
   rcases hc with rfl|rfl<;>decide
  .intro c hc;simp only[cD,lP,or_false] at hc
   rcases hc with rfl|rfl<;>decide
  .intro c hc;simp only[cD,lP,or_false] at hc
   rcases hc with rfl|rfl<;>decide
theorem Pm:ceR CR=0:=by kernel_rfl
theorem Pn:aC Tz.prog 69 [pJ] (.tup [rdL,.int .i64 0]) false:=by
 have c:=dI CR;rw[gr CR Pm] at c;exact c
@[simp]theorem zb0:dK Tz.prog 160=some [.w false false .undef]:=by kernel_rfl
theorem Po:aC Tz.prog 50 [pJ] (.tup [.sl 2 [.int .i64 0,.int .i64 1],.int .i64 0]) false:=by
 have c1:=Pn;obtain⟨a0,a1,a2,a3⟩:=Pl
 have c2:∀s:Int,aC Tz.prog 96 [.int .i64 2,.int .i64 s] (.fn 126 [.ip [.int .i64 s] 0,.ip [.int .i64 2] 0]) true:=λs=>by
  refine rcK Tz.func96 ?_;simp only[Tryz.results96,Tryz.ntmps96]
  repeat' first|(with_reducible first|apply ai|apply az|apply af|intro _)|(simp[*])
 have c3:aC Tz.prog 97 [.sl 2 [.int .i64 0,.int .i64 1]] (.sl 2 [.int .i64 0,.int .i64 1]) true:=GP [0,1] (by decide);unfold rdL pJ at *;refine oO Tz.func50 (by kernel_rfl) rfl (di (by kernel_rfl)) ?_;simp only[Tryz.results50,Tryz.ntmps50]
 repeat' first|((with_reducible refine Hg (o:=false) (f:=false) ?_ ?_);(· rfl))|((with_reducible refine Hh (o:=false) (f:=false) ?_ ?_);(· rfl))|((with_reducible refine Pf (o:=false) (f:=false) ?_ ?_);(· rfl))|((with_reducible refine Pg (o:=false) (f:=false) ?_ ?_);(· rfl))|(with_reducible first|apply cP|apply l8|refine He 40 ?_|apply Hf|refine Bl (gf:=126) rfl Tz.func126 (by kernel_rfl) rfl (di (by kernel_rfl)) (λl=>?_)|apply gL|apply Bz|refine Pd 40 ?_|apply Pe|refine Hb (id:=3) 1 127 Tz.func127 (by kernel_rfl) rfl (by decide) rfl ?_|refine Hc (id:=6) 12 127 mixed (by decide +kernel) (by decide +kernel) Tz.func127 (by kernel_rfl) rfl rfl ?_|refine BA _ rfl (di (by kernel_rfl)) (by simp) rfl ?_|refine G9 (id:=2) 2 (by decide) rfl rfl (by simp) ?_|refine Pa _ _ rfl rfl (by simp) ?_|apply OY|apply OZ|apply cO|apply gq|apply fY|apply ai|apply au|apply az|apply aL|apply af|refine aQ (id:=7) 8 mixed (by decide +kernel) ?_|refine aQ (id:=9) 6 mixed (by decide +kernel) ?_|apply al|refine And.intro ?_ ?_|refine cw (c1) ?_|refine cw (a0) ?_|refine cw (a1) ?_|refine cw (a2) ?_|refine cw (a3) ?_|refine cw (c2 _) ?_|refine cw (c3) ?_|intro _)|(simp[*,dC,eX,gz,oneOf])|(refine ae (c1) ?_ ?_;(· (simp[*];done)))|(refine ae (a0) ?_ ?_;(· (simp[*];done)))|(refine ae (a1) ?_ ?_;(· (simp[*];done)))|(refine ae (a2) ?_ ?_;(· (simp[*];done)))|(refine ae (a3) ?_ ?_;(· (simp[*];done)))|(refine ae (c2 _) ?_ ?_;(· (simp[*];done)))|(refine ae (c3) ?_ ?_;(· (simp[*];done)))
 all_goals first|exact dz (by decide)|decide|(simp[touch];done)
noncomputable instance zb2:av:=LD
theorem oT:aC Tz.prog 15 [] (.bool true) true:=by
 have c9:=So;have c8:=O6;have c10:=O7;have c11:=O8;have c12:=Ph;have c13:=Pk;have c14:=Po;have c15:aC Tz.prog 52 [.sl 2 [.int .i64 0,.int .i64 1],.sl 2 [.int .i64 0,.int .i64 1]] (.bool true) true:=oQ [0,1] [0,1] (by decide);rw[qw] at *;unfold pJ at *;refine rcK Tz.func15 ?_;simp only[Tryz.results15,Tryz.ntmps15]
 repeat' first|(with_reducible first|apply ai|apply az|apply af|refine And.intro ?_ ?_|refine cw (c9) ?_|refine cw (c8) ?_|refine cw (c10) ?_|refine cw (c11) ?_|refine cw (c12) ?_|refine cw (c13) ?_|refine cw (c14) ?_|refine cw (c15) ?_|intro _)|(simp[*])|(refine ae (c9) ?_ ?_;(· (simp[*];done)))|(refine ae (c8) ?_ ?_;(· (simp[*];done)))|(refine ae (c10) ?_ ?_;(· (simp[*];done)))|(refine ae (c11) ?_ ?_;(· (simp[*];done)))|(refine ae (c12) ?_ ?_;(· (simp[*];done)))|(refine ae (c13) ?_ ?_;(· (simp[*];done)))|(refine ae (c14) ?_ ?_;(· (simp[*];done)))|(refine ae (c15) ?_ ?_;(· (simp[*];done)))
end Go.Proofs.YthpkmilhiganjaaGreat
namespace Go.Proofs.YthpkmilhiganjaaGreat
open Go.ChangeShapes Go.WideShapes Go.ChangeAt Go.RowKit Go.Conc
noncomputable instance zb5:Go.Fi.av:=LD
theorem pL:ownKnob Tryz.prog.godebug=none:=by kernel_rfl
theorem pN:laidOutB Tryz.prog=true:=by kernel_rfl
section
variable{C:Go.Fc.Cx}{W:World}
theorem Hk{a:Addr}{x:Value}(h:W.cell? a=some x):(Go.Fc.hZ C W).cell? a=some x:=by
 unfold World.cell? at h;split at h
 .rename_i c e f hb;unfold World.cell?;rw[Go.Fc.uJ hb trivial];exact h
 .cases h
theorem Px{G:Nat->Prop}{p:Go.Fi.PV}{v:Value}(h:Go.Fi.Rep G W p v):Go.Fi.Rep G (Go.Fc.hZ C W) p v:=by
 induction h with
 |undef v=>exact .undef v
 |ja b=>exact .ja b
 |bool b=>exact .bool b
 |int k n=>exact .int k n
 |str s=>exact .str s
 |agg hl _ ih=>exact .agg hl ih
 |tup hl _ ih=>exact .tup hl ih
 |slnil=>exact .slnil
 |sl vals hn hc hg _ ih=>exact .sl vals hn (λj hj=>Hk (hc j hj)) hg ih
 |slz hn=>exact .slz hn
 |ip vals hc hg _ ih=>exact .ip vals (λj hj=>Hk (hc j hj)) hg ih
 |fQ=>exact .fQ
 |jX=>exact .jX
 |ifc _ ih=>exact .ifc ih
 |fn hl _ ih=>exact .fn hl ih
 |yl l=>exact .yl l
end
theorem oU(f:Nat)(fn:Func)(hf:Tryz.prog.funcs[f]?=some fn)(hk:Tz.keep f=true)(pvs:List Go.Fi.PV)(ht:Go.Fi.mM Tz.prog fn (fn.body.getD .skip) pvs (.bool true) true){t:Tmp}(ha:fn.results=#[.tmp t])(W:World)(args:Array Value)(hlen:pvs.length=args.size)(h':∀(j:Nat)(p:Go.Fi.PV)(v:Value),pvs[j]?=some p->args[j]?=some v->Go.Fi.Rep (λ_=>True) W p v)(iw:Value->World->Prop)(h9:∀B,Go.Fi.Bel W.heap.size W B->iw (.bool true) B):∃N last o w' t',runNT Tryz.prog (N+1) (solo (G (Frame.enter Tryz.prog f args .normal) []) W) #[]=(.ended o w',t')/\runN Tryz.prog N (solo (G (Frame.enter Tryz.prog f args .normal) []) W)=.next last/\step Tryz.prog last=.ended o w'/\Go.Conc.Good Tryz.prog iw last o w' t':=by
 obtain⟨h8,c,h1,h2,h3,h4,h5,h6,h7⟩:=Tz.CB f hk
 have e1:h8=fn:=by rw[hf] at h2;exact (eu h2).symm
 subst e1
 have e2:c=h8.body.getD .skip:=by rw[h4];rfl
 refine @Go.Fc.SB Tz.xfZ LD Tz.prog Tryz.prog Tz.nX rH W (nS _) (λf h=>h) f h8 c args t
  (λv A=>v=.bool true/\Go.Fi.Bel W.heap.size (Go.Fc.hZ (@Go.Fc.Cc Tz.xfZ Tz.prog Tryz.prog) W) A) iw hf h4 h5 ⟨⟨h8,h1,h2,h6⟩,h7⟩ ?_ ha ?_ ?_
 .exactλh=>absurd (h.1.symm.trans hk) (by decide)
 .have h:=ht (λ_=>True) (Go.Fc.hZ (@Go.Fc.Cc Tz.xfZ Tz.prog Tryz.prog) W) args trivial hlen (λj p v hp hv=>Px (h' j p v hp hv));rw[Go.Fc.xS] at h;subst e2;refine Go.Fi.dH h (λe a' w' hq=>?_)
  have fin:∀(X:a'.defers=[]/\∀w1,Go.Fi.EnvD.E w' w1->∃v,(results h8 a'.tmps).run Tz.prog w1=.ok v w1/\∃v',Ending.returned v=.returned v'/\Go.Fi.Bel W.heap.size (Go.Fc.hZ (@Go.Fc.Cc Tz.xfZ Tz.prog Tryz.prog) W) w1/\Go.Fi.Rep (λb=>(b<W.heap.size->True)/\(true=true->W.heap.size<=b)) w1 (.bool true) v'),
   a'.defers=[]/\∀w1,Go.Fi.EnvD.E w' w1->∃v,(results h8 a'.tmps).run Tz.prog w1=.ok v w1/\∃v',Ending.returned v=.returned v'/\v'=.bool true/\Go.Fi.Bel W.heap.size (Go.Fc.hZ (@Go.Fc.Cc Tz.xfZ Tz.prog Tryz.prog) W) w1:=by
   rintro⟨hd,X⟩
   refine⟨hd,λw1 e1=>?_⟩;obtain⟨v,h1,v',h2,h3,h4⟩:=X w1 e1;refine⟨v,h1,v',h2,?_,h3⟩
   cases h4 with
   |bool=>rfl
  cases e with
  |normal=>exact fin hq
  |ret=>exact fin hq
  |_=>exact hq.elim
 .intro v A B S hv hh hd ho hp;obtain⟨rfl,hb⟩:=hv;exact h9 B (Go.Fc.Sz hh hd ho hp hb)
end Go.Proofs.YthpkmilhiganjaaGreat
namespace Go.Proofs.YthpkmilhiganjaaGreat
open Go Go.Fi Go.RowKit Go.ChangeShapes Go.WideShapes Go.ChangeAt
theorem ug:Tryz.prog.cellsOf 3=1:=by kernel_rfl
theorem Hl:Tryz.prog.cellsOf 4=1:=by kernel_rfl
theorem Hm:Tryz.prog.cellsOf 9=1:=by kernel_rfl
theorem BD:Tryz.prog.cellsOf 28=1:=by kernel_rfl
theorem Py:Tryz.prog.cellsOf 24=1:=by kernel_rfl
theorem Hn:Tryz.prog.cellsOf 89=3:=by kernel_rfl
theorem Ho:Tryz.prog.cellsOf 91=4:=by kernel_rfl
theorem Hq:Tryz.prog.cellsOf 120=2:=by kernel_rfl
theorem Pz:Tryz.prog.cellsOf 22=1:=by kernel_rfl
theorem PD:Tryz.prog.cellsOf 23=1:=by kernel_rfl
theorem PF:Tryz.prog.cellsOf 25=1:=by kernel_rfl
theorem PG:Tryz.prog.cellsOf 27=4:=by kernel_rfl
abbrev cI(n:Int):List PV:=[.int .i64 n]
abbrev cB(b:Bool):List PV:=[.bool b]
abbrev cS(s:ByteArray):List PV:=[.str s]
abbrev cU(_:Unit):List PV:=[]
theorem rI:Reads Tryz.prog 3 cI:=Pr Tryz.underlying3
theorem rB:Reads Tryz.prog 4 cB:=Pt Tryz.underlying4
theorem rS:Reads Tryz.prog 9 cS:=Ps Tryz.underlying9
theorem Hr:∀l:List Int,l.flatMap cI=ints l
 |[]=>rfl
 |x::r=>by rw[il,Hr r];rfl
abbrev sE(l:List Int):List PV:=[.sl l.length (ints l)]
theorem rF:Reads Tryz.prog 28 sE:=xk (c:=λl:List Int=>[.sl l.length (l.flatMap cI)]) id (λl=>by simp only[id,sE];rw[Hr]) (ua Tryz.underlying28 ug (by decide) (λ_=>rfl) rI)
theorem Ht:∀l:List (List Int),l.flatMap sE=a8 l
 |[]=>rfl
 |x::r=>by rw[il,Ht r];rfl
theorem PH:Reads Tryz.prog 24 (λl:List (List Int)=>[.sl l.length (a8 l)]):=xk (c:=λl:List (List Int)=>[.sl l.length (l.flatMap sE)]) id (λl=>by simp only[id];rw[Ht]) (ua Tryz.underlying24 BD (by decide) (λ_=>rfl) rF)
abbrev cI1(y:Int×Unit):List PV:=cI y.1++cU y.2
abbrev cB1(y:Bool×Unit):List PV:=cB y.1++cU y.2
abbrev cC3(y:ByteArray×Int×Bool×Unit):List PV:=cS y.1++(cI y.2.1++cB1 y.2.2)
theorem PM:Reads Tryz.prog 89 cC3:=by
 refine xm Tryz.underlying89 Hn ?_;exact jz (s:=1) (S:=2) (c:=cS) (c':=λy:Int×Bool×Unit=>cI y.1++cB1 y.2) rfl Hm rS (jz (s:=1) (S:=1) (c:=cI) (c':=cB1) rfl ug rI (jz (s:=1) (S:=0) (c:=cB) (c':=cU) rfl Hl rB xl))
theorem PN:Reads Tryz.prog 89 Tw.dt:=xk (c:=cC3) (λy=>(y.1,y.2.1,y.2.2.1)) (λ_=>rfl) PM
theorem PQ:Reads Tryz.prog 22 (λl:List Car=>[.sl l.length (aS l)]):=ua Tryz.underlying22 Hn (by decide) (λ_=>rfl) PN
abbrev cO2(y:Bool×Int×Unit):List PV:=cB y.1++cI1 y.2
abbrev cO4(y:ByteArray×Int×Bool×Int×Unit):List PV:=cS y.1++(cI y.2.1++cO2 y.2.2)
theorem PR:Reads Tryz.prog 91 cO4:=by
 refine xm Tryz.underlying91 Ho ?_
 exact jz (s:=1) (S:=3) (c:=cS) (c':=λy:Int×Bool×Int×Unit=>cI y.1++cO2 y.2) rfl Hm rS (jz (s:=1) (S:=2) (c:=cI) (c':=cO2) rfl ug rI
  (jz (s:=1) (S:=1) (c:=cB) (c':=cI1) rfl Hl rB (jz (s:=1) (S:=0) (c:=cI) (c':=cU) rfl ug rI xl)))
theorem PS:Reads Tryz.prog 91 Tw.cg:=xk (c:=cO4) (λy=>(y.1,y.2.1,y.2.2.1,y.2.2.2.1)) (λ_=>rfl) PR
theorem PT:Reads Tryz.prog 23 (λl:List Ord=>[.sl l.length (aR l)]):=ua Tryz.underlying23 Ho (by decide) (λ_=>rfl) PS
theorem PU:Reads Tryz.prog 120 Tw.cu:=Pv (c:=cI) Tryz.underlying120 ug Hq rI
theorem PW:Reads Tryz.prog 25 (λl:List Par=>[.sl l.length (aT l)]):=ua Tryz.underlying25 Hq (by decide) (λ_=>rfl) PU
abbrev cR1(y:List Par×Unit):List PV:=[.sl y.1.length (aT y.1)]++cU y.2
abbrev cR2(y:List (List Int)×List Par×Unit):List PV:=[.sl y.1.length (a8 y.1)]++cR1 y.2
abbrev cR3(y:List Ord×List (List Int)×List Par×Unit):List PV:=[.sl y.1.length (aR y.1)]++cR2 y.2
abbrev cR4(y:List Car×List Ord×List (List Int)×List Par×Unit):List PV:=[.sl y.1.length (aS y.1)]++cR3 y.2
theorem oV:Reads Tryz.prog 27 cR4:=by
 refine xm Tryz.underlying27 PG ?_
 exact jz (s:=1) (S:=3) (c:=λl:List Car=>[.sl l.length (aS l)]) (c':=cR3) rfl Pz PQ (jz (s:=1) (S:=2) (c:=λl:List Ord=>[.sl l.length (aR l)]) (c':=cR2) rfl PD PT
  (jz (s:=1) (S:=1) (c:=λl:List (List Int)=>[.sl l.length (a8 l)]) (c':=cR1) rfl Py PH (jz (s:=1) (S:=0) (c:=λl:List Par=>[.sl l.length (aT l)]) (c':=cU) rfl PF PW xl)))
theorem PX:Tryz.prog.cellsOf 30=2:=by kernel_rfl
abbrev cQ1(y:List Int×Unit):List PV:=[.sl y.1.length (ints y.1)]++cU y.2
abbrev cQ2(y:List Int×List Int×Unit):List PV:=[.sl y.1.length (ints y.1)]++cQ1 y.2
theorem PY:Reads Tryz.prog 30 cQ2:=by
 refine xm Tryz.underlying30 PX ?_;exact jz (s:=1) (S:=1) (c:=sE) (c':=cQ1) rfl BD rF (jz (s:=1) (S:=0) (c:=sE) (c':=cU) rfl BD rF xl)
end Go.Proofs.YthpkmilhiganjaaGreat
