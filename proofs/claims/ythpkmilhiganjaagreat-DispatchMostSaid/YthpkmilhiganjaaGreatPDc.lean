/- Lemmas. -/
import Derived.Test.YthpkmilhiganjaaGreatPDb
import Derived.Test.YthpkmilhiganjaaGreatPLg
import Derived.Test.YthpkmilhiganjaaGreatPDa
import Derived.Test.YthpkmilhiganjaaGreatRows
import Derived.Conc.LeavingOf
import Derived.Test.YthpkmilhiganjaaGreatPMc
import Derived.Test.YthpkmilhiganjaaGreatPLf
import Derived.ProofKit
set_option linter.all false
set_option maxHeartbeats 32000000
set_option maxRecDepth 100000
namespace Go.Proofs.YthpkmilhiganjaaGreat
open Go Go.Fi
noncomputable instance zdf:bI:=LD
def rdL:PV:=.ip [.sl 1 [.str ⟨#[97]⟩,.int .i64 4,.bool false],.sl 2 [.str ⟨#[112]⟩,.int .i64 1,.bool false,.int .i64 0,.str ⟨#[113]⟩,.int .i64 1,.bool false,.int .i64 0],.sl 2 [.sl 1 [.int .i64 100],.sl 1 [.int .i64 150]],.sl 0 [],.sl 2 [.sl 1 [.bool true],.sl 1 [.bool true]]] 0
theorem Qz:bX Tz.prog 95 [rdL,.sl 0 []] (.sl 0 []) true/\bX Tz.prog 95 [rdL,.sl 1 [.int .i64 0]] (.sl 1 [.int .i64 0]) true/\bX Tz.prog 95 [rdL,.sl 1 [.int .i64 1]] (.sl 1 [.int .i64 0]) true/\bX Tz.prog 95 [rdL,.sl 2 [.int .i64 0,.int .i64 1]] (.sl 1 [.int .i64 0]) true:=by
 have f:∀i:Int,(i=0\/i=1)->bX Tz.prog 125 [.int .i64 i,.ip [rdL] 0,.ip [.int .i64 0] 0] (.bool true) true:=λi h=>by
  unfold rdL
  rcases h with rfl|rfl
  all_goals
   refine rcK Tz.func125 ?_;simp only[Tryz.results125,Tryz.ntmps125]
   repeat' first|(with_reducible first|apply bH|apply bT|apply bG|refine df (id:=1) 11 mixed ai ?_|intro _)|simp[*]
 have f0:=f 0 (.inl rfl);have f1:=f 1 (.inr rfl);clear f;unfold rdL at *
 have a:∀l:List PV,(l=[]\/l=[.int .i64 0]\/l=[.int .i64 1]\/l=[.int .i64 0,.int .i64 1])->bX Tz.prog 93 [.sl l.length l,.fn 125 [.ip [.ip [.sl 1 [.str ⟨#[97]⟩,.int .i64 4,.bool false],.sl 2 [.str ⟨#[112]⟩,.int .i64 1,.bool false,.int .i64 0,.str ⟨#[113]⟩,.int .i64 1,.bool false,.int .i64 0],.sl 2 [.sl 1 [.int .i64 100],.sl 1 [.int .i64 150]],.sl 0 [],.sl 2 [.sl 1 [.bool true],.sl 1 [.bool true]]] 0] 0,.ip [.int .i64 0] 0]] (.bool (decide (0<l.length))) true:=λl h=>by
  have b:bX Tz.prog 124 [.sl l.length l,.fn 125 [.ip [.ip [.sl 1 [.str ⟨#[97]⟩,.int .i64 4,.bool false],.sl 2 [.str ⟨#[112]⟩,.int .i64 1,.bool false,.int .i64 0,.str ⟨#[113]⟩,.int .i64 1,.bool false,.int .i64 0],.sl 2 [.sl 1 [.int .i64 100],.sl 1 [.int .i64 150]],.sl 0 [],.sl 2 [.sl 1 [.bool true],.sl 1 [.bool true]]] 0] 0,.ip [.int .i64 0] 0]] (.int .i64 (if 0<l.length then 0 else -1)) true:=by
   rcases h with rfl|rfl|rfl|rfl
   all_goals
    simp only[il,lB,eI,Nat.reduceAdd,Nat.lt_irrefl,decide_false,Nat.zero_lt_succ,decide_true,cz,cT];refine rcK Tz.func124 ?_;simp only[Tryz.results124,Tryz.ntmps124]
    repeat' first|(with_reducible first|refine jO 40 ?_|apply j4|apply gS|apply bH|apply b7|apply bT|apply da|apply bG|apply bQ|refine And.intro ?_ ?_|intro _)|simp[*]|(refine bN (f0) ?_ ?_;· simp[*];done)|(refine bN (f1) ?_ ?_;· simp[*];done)
   all_goals first|exact gN af|(simp[touch];done)
  rcases h with rfl|rfl|rfl|rfl
  all_goals
   simp only[il,lB,eI,Nat.reduceAdd,Nat.lt_irrefl,decide_false,Nat.zero_lt_succ,decide_true,cz,cT] at b ⊢;clear f0 f1;refine rcK Tz.func93 ?_;simp only[Tryz.results93,Tryz.ntmps93]
   repeat' first|(with_reducible first|apply bH|apply bT|apply bG|refine And.intro ?_ ?_|intro _)|simp[*]|(refine bN (b) ?_ ?_;· simp[*];done)
 have a0:=a _ (.inl rfl);have a1:=a _ (.inr (.inl rfl));have a2:=a _ (.inr (.inr (.inl rfl)));have a3:=a _ (.inr (.inr (.inr rfl)));clear a f0 f1;refine⟨?_,?_,?_,?_⟩
 all_goals
  refine rcK Tz.func95 ?_;simp only[Tryz.results95,Tryz.ntmps95]
  repeat' first|(with_reducible first|refine jO 40 ?_|apply j4|apply gS|apply bH|apply b7|apply bT|apply da|apply bG|apply bQ|refine And.intro ?_ ?_|intro _)|simp[*]|(refine bN (a0) ?_ ?_;· simp[*];done)|(refine bN (a1) ?_ ?_;· simp[*];done)|(refine bN (a2) ?_ ?_;· simp[*];done)|(refine bN (a3) ?_ ?_;· simp[*];done)
 all_goals first|exact gN af|(simp[touch];done)
noncomputable instance zdh:bI:=LD
def Dx:Tw.RND where
 bD:=[(⟨#[97]⟩,4,false)]
 os:=[(⟨#[112]⟩,1,false,0),(⟨#[113]⟩,1,false,0)]
 wt:=[[100],[150]]
 zs:=[]
 fS:=by
  refine⟨?_,?_,?_,af,af,af,af⟩
  .intro c hc;simp only[dM,m9,or_false] at hc
   rcases hc with rfl|rfl<;>decide
  .intro c hc;simp only[dM,m9,or_false] at hc
   rcases hc with rfl|rfl<;>decide
  .intro c hc;simp only[dM,m9,or_false] at hc
   rcases hc with rfl|rfl<;>decide
theorem QA:ceR Dx=0:=aj
theorem QB:bX Tz.prog 69 [qe] (.tup [rdL,.int .i64 0]) false:=by
 have c:=pW Dx;rw[xF Dx QA] at c;exact c
@[simp]theorem zdi:fw Tz.prog 160=some [.w false false .undef]:=aj
theorem QD:bX Tz.prog 50 [qe] (.tup [.sl 2 [.int .i64 0,.int .i64 1],.int .i64 0]) false:=by
 have c1:=QB;obtain⟨a0,a1,a2,a3⟩:=Qz
 have c2:∀s:Int,bX Tz.prog 96 [.int .i64 2,.int .i64 s] (.fn 126 [.ip [.int .i64 s] 0,.ip [.int .i64 2] 0]) true:=λs=>by
  refine rcK Tz.func96 ?_;simp only[Tryz.results96,Tryz.ntmps96]
  repeat' first|(with_reducible first|apply bH|apply bT|apply bG|intro _)|simp[*]
 have c3:bX Tz.prog 97 [.sl 2 [.int .i64 0,.int .i64 1]] (.sl 2 [.int .i64 0,.int .i64 1]) true:=Qd [0,1] af;unfold rdL qe at *;refine xD Tz.func50 aj rfl (gG aj) ?_;simp only[Tryz.results50,Tryz.ntmps50]
 repeat' first|((with_reducible refine H7 (o:=false) (f:=false) ?_ ?_);(· rfl))|((with_reducible refine H8 (o:=false) (f:=false) ?_ ?_);(· rfl))|((with_reducible refine Qv (o:=false) (f:=false) ?_ ?_);(· rfl))|((with_reducible refine Qw (o:=false) (f:=false) ?_ ?_);(· rfl))|(with_reducible first|apply fM|apply r6|refine H5 40 ?_|apply H6|refine Ho (gf:=126) rfl Tz.func126 aj rfl (gG aj) (λl=>?_)|apply P4|apply P5|refine Qt 40 ?_|apply Qu|refine Qa (id:=3) 1 127 Tz.func127 aj rfl af rfl ?_|refine Qc (id:=6) 12 127 mixed ai ai Tz.func127 aj rfl rfl ?_|refine P9 _ rfl (gG aj) ae rfl ?_|refine P8 (id:=2) 2 af rfl rfl ae ?_|refine P7 _ _ rfl rfl ae ?_|apply Qi|apply Qj|apply fJ|apply Hn|apply gS|apply bH|apply b7|apply bT|apply da|apply bG|refine df (id:=7) 8 mixed ai ?_|refine df (id:=9) 6 mixed ai ?_|apply bQ|refine And.intro ?_ ?_|refine cw (c2 _) ?_|intro _)|simp[*,gC,jZ,pR,oneOf]|(refine bN (c1) ?_ ?_;· simp[*];done)|(refine bN (a0) ?_ ?_;· simp[*];done)|(refine bN (a1) ?_ ?_;· simp[*];done)|(refine bN (a2) ?_ ?_;· simp[*];done)|(refine bN (a3) ?_ ?_;· simp[*];done)|(refine bN (c2 _) ?_ ?_;· simp[*];done)|(refine bN (c3) ?_ ?_;· simp[*];done)
 all_goals first|exact gN af|decide|(simp[touch];done)
noncomputable instance zdk:bI:=LD
theorem QE:bX Tz.prog 15 [] (.bool true) true:=by
 have c9:=TJ;have c8:=Qo;have c10:=Qp;have c11:=Qq;have c12:=Qx;have c13:=Qy;have c14:=QD;have c15:bX Tz.prog 52 [.sl 2 [.int .i64 0,.int .i64 1],.sl 2 [.int .i64 0,.int .i64 1]] (.bool true) true:=PS [0,1] [0,1] af;rw[qL] at *;unfold qe at *;refine rcK Tz.func15 ?_;simp only[Tryz.results15,Tryz.ntmps15]
 repeat' first|(with_reducible first|apply bH|apply bT|apply bG|refine And.intro ?_ ?_|intro _)|simp[*]|(refine bN (c9) ?_ ?_;· simp[*];done)|(refine bN (c8) ?_ ?_;· simp[*];done)|(refine bN (c10) ?_ ?_;· simp[*];done)|(refine bN (c11) ?_ ?_;· simp[*];done)|(refine bN (c12) ?_ ?_;· simp[*];done)|(refine bN (c13) ?_ ?_;· simp[*];done)|(refine bN (c14) ?_ ?_;· simp[*];done)|(refine bN (c15) ?_ ?_;· simp[*];done)
end Go.Proofs.YthpkmilhiganjaaGreat
namespace Go.Proofs.YthpkmilhiganjaaGreat
open Go.ChangeShapes Go.WideShapes Go.ChangeAt Go.RowKit Go.Conc
noncomputable instance zdn:Go.Fi.bI:=LD
theorem TU:ownKnob Tryz.prog.godebug=none:=aj
theorem TV:laidOutB Tryz.prog=true:=aj
section
variable{C:Go.Fc.Cx}{W:World}
theorem Ib{a:Addr}{x:Value}(h:W.cell? a=some x):(Go.Fc.iT C W).cell? a=some x:=by
 unfold World.cell? at h;split at h
 .rename_i c e f hb;unfold World.cell?;rw[Go.Fc.vk hb trivial];exact h
 .cases h
theorem QN{G:Nat->Prop}{p:Go.Fi.PV}{v:Value}(h:Go.Fi.Rep G W p v):Go.Fi.Rep G (Go.Fc.iT C W) p v:=by
 induction h with
 |undef v=>exact .undef v
 |jQ b=>exact .jQ b
 |bool b=>exact .bool b
 |int k n=>exact .int k n
 |str s=>exact .str s
 |agg hl _ ih=>exact .agg hl ih
 |tup hl _ ih=>exact .tup hl ih
 |slnil=>exact .slnil
 |sl vals hn hc hg _ ih=>exact .sl vals hn (λj hj=>Ib (hc j hj)) hg ih
 |slz hn=>exact .slz hn
 |ip vals hc hg _ ih=>exact .ip vals (λj hj=>Ib (hc j hj)) hg ih
 |gX=>exact .gX
 |lL=>exact .lL
 |ifc _ ih=>exact .ifc ih
 |fn hl _ ih=>exact .fn hl ih
 |yl l=>exact .yl l
end
theorem QO(f:Nat)(fn:Func)(hf:Tryz.prog.funcs[f]?=some fn)(hk:Tz.keep f=true)(pvs:List Go.Fi.PV)(ht:Go.Fi.Dk Tz.prog fn (fn.body.getD .skip) pvs (.bool true) true){t:Tmp}(ha:fn.results=#[.tmp t])(W:World)(args:Array Value)(hlen:pvs.length=args.size)(h':∀(j:Nat)(p:Go.Fi.PV)(v:Value),pvs[j]?=some p->args[j]?=some v->Go.Fi.Rep (λ_=>True) W p v)(jg:Value->World->Prop)(h9:∀B,Go.Fi.Bel W.heap.size W B->jg (.bool true) B):∃N last o w' t',runNT Tryz.prog (N+1) (solo (G (Frame.enter Tryz.prog f args .normal) []) W) #[]=(.ended o w',t')/\runN Tryz.prog N (solo (G (Frame.enter Tryz.prog f args .normal) []) W)=.next last/\step Tryz.prog last=.ended o w'/\Go.Conc.Good Tryz.prog jg last o w' t':=by
 obtain⟨h8,c,h1,h2,h3,h4,h5,h6,h7⟩:=Tz.Dh f hk
 have e1:h8=fn:=by rw[hf] at h2;exact (fL h2).symm
 subst e1
 have e2:c=h8.body.getD .skip:=by rw[h4];rfl
 refine @Go.Fc.TP Tz.xfZ LD Tz.prog Tryz.prog Tz.oM sb W (oD _) (λf h=>h) f h8 c args t
  (λv A=>v=.bool true/\Go.Fi.Bel W.heap.size (Go.Fc.iT (@Go.Fc.Cc Tz.xfZ Tz.prog Tryz.prog) W) A) jg hf h4 h5 ⟨⟨h8,h1,h2,h6⟩,h7⟩ ?_ ha ?_ ?_
 .exactλh=>absurd (h.1.symm.trans hk) af
 .have h:=ht (λ_=>True) (Go.Fc.iT (@Go.Fc.Cc Tz.xfZ Tz.prog Tryz.prog) W) args trivial hlen (λj p v hp hv=>QN (h' j p v hp hv));rw[Go.Fc.yq] at h;subst e2;refine Go.Fi.fe h (λe a' w' hq=>?_)
  have fin:∀(X:a'.defers=[]/\∀w1,Go.Fi.EnvD.E w' w1->∃v,(results h8 a'.tmps).run Tz.prog w1=.ok v w1/\∃v',Ending.returned v=.returned v'/\Go.Fi.Bel W.heap.size (Go.Fc.iT (@Go.Fc.Cc Tz.xfZ Tz.prog Tryz.prog) W) w1/\Go.Fi.Rep (λb=>(b<W.heap.size->True)/\(true=true->W.heap.size<=b)) w1 (.bool true) v'),
   a'.defers=[]/\∀w1,Go.Fi.EnvD.E w' w1->∃v,(results h8 a'.tmps).run Tz.prog w1=.ok v w1/\∃v',Ending.returned v=.returned v'/\v'=.bool true/\Go.Fi.Bel W.heap.size (Go.Fc.iT (@Go.Fc.Cc Tz.xfZ Tz.prog Tryz.prog) W) w1:=by
   rintro⟨hd,X⟩
   refine⟨hd,λw1 e1=>?_⟩;obtain⟨v,h1,v',h2,h3,h4⟩:=X w1 e1;refine⟨v,h1,v',h2,?_,h3⟩
   cases h4 with
   |bool=>rfl
  cases e with
  |normal=>exact fin hq
  |ret=>exact fin hq
  |_=>exact hq.elim
 .intro v A B S hv hh hd ho hp;obtain⟨rfl,hb⟩:=hv;exact h9 B (Go.Fc.TO hh hd ho hp hb)
end Go.Proofs.YthpkmilhiganjaaGreat
namespace Go.Proofs.YthpkmilhiganjaaGreat
open Go Go.Fi Go.RowKit Go.ChangeShapes Go.WideShapes Go.ChangeAt
theorem uL:Tryz.prog.cellsOf 3=1:=aj
theorem Ic:Tryz.prog.cellsOf 4=1:=aj
theorem Ie:Tryz.prog.cellsOf 9=1:=aj
theorem QP:Tryz.prog.cellsOf 28=1:=aj
theorem QQ:Tryz.prog.cellsOf 24=1:=aj
theorem Ig:Tryz.prog.cellsOf 89=3:=aj
theorem Ih:Tryz.prog.cellsOf 91=4:=aj
theorem Ii:Tryz.prog.cellsOf 120=2:=aj
theorem QR:Tryz.prog.cellsOf 22=1:=aj
theorem QS:Tryz.prog.cellsOf 23=1:=aj
theorem QT:Tryz.prog.cellsOf 25=1:=aj
theorem QU:Tryz.prog.cellsOf 27=4:=aj
abbrev cI(n:Int):List PV:=[.int .i64 n]
abbrev cB(b:Bool):List PV:=[.bool b]
abbrev cS(s:ByteArray):List PV:=[.str s]
abbrev cU(_:Unit):List PV:=[]
theorem rI:Reads Tryz.prog 3 cI:=QI Tryz.underlying3
theorem rB:Reads Tryz.prog 4 cB:=QK Tryz.underlying4
theorem rS:Reads Tryz.prog 9 cS:=QJ Tryz.underlying9
theorem Ij:∀l:List Int,l.flatMap cI=ints l
 |[]=>rfl
 |x::r=>by rw[oV,Ij r];rfl
abbrev yu(l:List Int):List PV:=[.sl l.length (ints l)]
theorem QV:Reads Tryz.prog 28 yu:=xK (c:=λl:List Int=>[.sl l.length (l.flatMap cI)]) id (λl=>by simp only[id,yu];rw[Ij]) (uK Tryz.underlying28 uL af (λ_=>rfl) rI)
theorem Ik:∀l:List (List Int),l.flatMap yu=dU l
 |[]=>rfl
 |x::r=>by rw[oV,Ik r];rfl
theorem QW:Reads Tryz.prog 24 (λl:List (List Int)=>[.sl l.length (dU l)]):=xK (c:=λl:List (List Int)=>[.sl l.length (l.flatMap yu)]) id (λl=>by simp only[id];rw[Ik]) (uK Tryz.underlying24 QP af (λ_=>rfl) QV)
abbrev cI1(y:Int×Unit):List PV:=cI y.1++cU y.2
abbrev cB1(y:Bool×Unit):List PV:=cB y.1++cU y.2
abbrev cC3(y:ByteArray×Int×Bool×Unit):List PV:=cS y.1++(cI y.2.1++cB1 y.2.2)
theorem QX:Reads Tryz.prog 89 cC3:=by
 refine Ce Tryz.underlying89 Ig ?_;exact mq (s:=1) (S:=2) (c:=cS) (c':=λy:Int×Bool×Unit=>cI y.1++cB1 y.2) rfl Ie rS (mq (s:=1) (S:=1) (c:=cI) (c':=cB1) rfl uL rI (mq (s:=1) (S:=0) (c:=cB) (c':=cU) rfl Ic rB Cb))
theorem QY:Reads Tryz.prog 89 Tw.fq:=xK (c:=cC3) (λy=>(y.1,y.2.1,y.2.2.1)) (λ_=>rfl) QX
theorem QZ:Reads Tryz.prog 22 (λl:List Car=>[.sl l.length (dG l)]):=uK Tryz.underlying22 Ig af (λ_=>rfl) QY
abbrev cO2(y:Bool×Int×Unit):List PV:=cB y.1++cI1 y.2
abbrev cO4(y:ByteArray×Int×Bool×Int×Unit):List PV:=cS y.1++(cI y.2.1++cO2 y.2.2)
theorem Q0:Reads Tryz.prog 91 cO4:=by
 refine Ce Tryz.underlying91 Ih ?_
 exact mq (s:=1) (S:=3) (c:=cS) (c':=λy:Int×Bool×Int×Unit=>cI y.1++cO2 y.2) rfl Ie rS (mq (s:=1) (S:=2) (c:=cI) (c':=cO2) rfl uL rI
  (mq (s:=1) (S:=1) (c:=cB) (c':=cI1) rfl Ic rB (mq (s:=1) (S:=0) (c:=cI) (c':=cU) rfl uL rI Cb)))
theorem Q3:Reads Tryz.prog 91 Tw.dY:=xK (c:=cO4) (λy=>(y.1,y.2.1,y.2.2.1,y.2.2.2.1)) (λ_=>rfl) Q0
theorem Q4:Reads Tryz.prog 23 (λl:List Ord=>[.sl l.length (dE l)]):=uK Tryz.underlying23 Ih af (λ_=>rfl) Q3
theorem Q5:Reads Tryz.prog 120 Tw.eD:=QM (c:=cI) Tryz.underlying120 uL Ii rI
theorem Q6:Reads Tryz.prog 25 (λl:List Par=>[.sl l.length (dI l)]):=uK Tryz.underlying25 Ii af (λ_=>rfl) Q5
abbrev cR1(y:List Par×Unit):List PV:=[.sl y.1.length (dI y.1)]++cU y.2
abbrev cR2(y:List (List Int)×List Par×Unit):List PV:=[.sl y.1.length (dU y.1)]++cR1 y.2
abbrev cR3(y:List Ord×List (List Int)×List Par×Unit):List PV:=[.sl y.1.length (dE y.1)]++cR2 y.2
abbrev cR4(y:List Car×List Ord×List (List Int)×List Par×Unit):List PV:=[.sl y.1.length (dG y.1)]++cR3 y.2
theorem Q7:Reads Tryz.prog 27 cR4:=by
 refine Ce Tryz.underlying27 QU ?_
 exact mq (s:=1) (S:=3) (c:=λl:List Car=>[.sl l.length (dG l)]) (c':=cR3) rfl QR QZ (mq (s:=1) (S:=2) (c:=λl:List Ord=>[.sl l.length (dE l)]) (c':=cR2) rfl QS Q4
  (mq (s:=1) (S:=1) (c:=λl:List (List Int)=>[.sl l.length (dU l)]) (c':=cR1) rfl QQ QW (mq (s:=1) (S:=0) (c:=λl:List Par=>[.sl l.length (dI l)]) (c':=cU) rfl QT Q6 Cb)))
end Go.Proofs.YthpkmilhiganjaaGreat
