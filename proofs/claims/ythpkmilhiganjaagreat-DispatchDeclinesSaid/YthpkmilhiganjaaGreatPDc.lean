/- Lemmas. -/
import Derived.Test.YthpkmilhiganjaaGreatPDb
import Derived.Test.YthpkmilhiganjaaGreatPLg
import Derived.Test.YthpkmilhiganjaaGreatPDa
import Derived.Test.YthpkmilhiganjaaGreatRows
import Derived.Conc.LeavingOf
import Derived.Test.YthpkmilhiganjaaGreatPMc
import Derived.Test.YthpkmilhiganjaaGreatPLf
import Derived.ProofKit
set_option linter.all false
set_option maxHeartbeats 32000000
set_option maxRecDepth 100000
namespace Go.Proofs.YthpkmilhiganjaaGreat
open Go Go.Fi
noncomputable instance zaw:ak:=LD
def rdL:PV:=.ip [.sl 1 [.str ⟨#[97]⟩,.int .i64 4,.bool false],.sl 2 [.str ⟨#[112]⟩,.int .i64 1,.bool false,.int .i64 0,.str ⟨#[113]⟩,.int .i64 1,.bool false,.int .i64 0],.sl 2 [.sl 1 [.int .i64 100],.sl 1 [.int .i64 150]],.sl 0 [],.sl 2 [.sl 1 [.bool true],.sl 1 [.bool true]]] 0
theorem OR:aB Tz.prog 95 [rdL,.sl 0 []] (.sl 0 []) true/\aB Tz.prog 95 [rdL,.sl 1 [.int .i64 0]] (.sl 1 [.int .i64 0]) true/\aB Tz.prog 95 [rdL,.sl 1 [.int .i64 1]] (.sl 1 [.int .i64 0]) true/\aB Tz.prog 95 [rdL,.sl 2 [.int .i64 0,.int .i64 1]] (.sl 1 [.int .i64 0]) true:=by
 have f:∀i:Int,(i=0\/i=1)->aB Tz.prog 125 [.int .i64 i,.ip [rdL] 0,.ip [.int .i64 0] 0] (.bool true) true:=λi h=>by
  unfold rdL
  rcases h with rfl|rfl
  all_goals
   refine rcK Tz.func125 ?_;simp only[Tryz.results125,Tryz.ntmps125]
   repeat' first|(with_reducible first|apply aj|apply av|apply af|refine bm (id:=1) 11 mixed (by decide +kernel) ?_|intro _)|(simp[*])
 have f0:=f 0 (.inl rfl);have f1:=f 1 (.inr rfl);clear f;unfold rdL at *
 have a:∀l:List PV,(l=[]\/l=[.int .i64 0]\/l=[.int .i64 1]\/l=[.int .i64 0,.int .i64 1])->aB Tz.prog 93 [.sl l.length l,.fn 125 [.ip [.ip [.sl 1 [.str ⟨#[97]⟩,.int .i64 4,.bool false],.sl 2 [.str ⟨#[112]⟩,.int .i64 1,.bool false,.int .i64 0,.str ⟨#[113]⟩,.int .i64 1,.bool false,.int .i64 0],.sl 2 [.sl 1 [.int .i64 100],.sl 1 [.int .i64 150]],.sl 0 [],.sl 2 [.sl 1 [.bool true],.sl 1 [.bool true]]] 0] 0,.ip [.int .i64 0] 0]] (.bool (decide (0<l.length))) true:=λl h=>by
  have b:aB Tz.prog 124 [.sl l.length l,.fn 125 [.ip [.ip [.sl 1 [.str ⟨#[97]⟩,.int .i64 4,.bool false],.sl 2 [.str ⟨#[112]⟩,.int .i64 1,.bool false,.int .i64 0,.str ⟨#[113]⟩,.int .i64 1,.bool false,.int .i64 0],.sl 2 [.sl 1 [.int .i64 100],.sl 1 [.int .i64 150]],.sl 0 [],.sl 2 [.sl 1 [.bool true],.sl 1 [.bool true]]] 0] 0,.ip [.int .i64 0] 0]] (.int .i64 (if 0<l.length then 0 else -1)) true:=by
   rcases h with rfl|rfl|rfl|rfl
   all_goals
    simp only[gu,jJ,cY,Nat.reduceAdd,Nat.lt_irrefl,decide_false,Nat.zero_lt_succ,decide_true,aJ,aQ];refine rcK Tz.func124 ?_;simp only[Tryz.results124,Tryz.ntmps124]
    repeat' first|(with_reducible first|refine iX 40 ?_|apply jh|apply fT|apply aj|apply aE|apply av|apply aK|apply af|apply au|refine And.intro ?_ ?_|refine cw (f0) ?_|refine cw (f1) ?_|intro _)|(simp[*])|(refine ar (f0) ?_ ?_;(· (simp[*];done)))|(refine ar (f1) ?_ ?_;(· (simp[*];done)))
   all_goals first|exact fw (by decide)|(simp[touch];done)
  rcases h with rfl|rfl|rfl|rfl
  all_goals
   simp only[gu,jJ,cY,Nat.reduceAdd,Nat.lt_irrefl,decide_false,Nat.zero_lt_succ,decide_true,aJ,aQ] at b ⊢;clear f0 f1;refine rcK Tz.func93 ?_;simp only[Tryz.results93,Tryz.ntmps93]
   repeat' first|(with_reducible first|apply aj|apply av|apply af|refine And.intro ?_ ?_|refine cw (b) ?_|intro _)|(simp[*])|(refine ar (b) ?_ ?_;(· (simp[*];done)))
 have a0:=a _ (.inl rfl);have a1:=a _ (.inr (.inl rfl));have a2:=a _ (.inr (.inr (.inl rfl)));have a3:=a _ (.inr (.inr (.inr rfl)));clear a f0 f1;refine⟨?_,?_,?_,?_⟩
 all_goals
  refine rcK Tz.func95 ?_;simp only[Tryz.results95,Tryz.ntmps95]
  repeat' first|(with_reducible first|refine iX 40 ?_|apply jh|apply fT|apply aj|apply aE|apply av|apply aK|apply af|apply au|refine And.intro ?_ ?_|refine cw (a0) ?_|refine cw (a1) ?_|refine cw (a2) ?_|refine cw (a3) ?_|intro _)|(simp[*])|(refine ar (a0) ?_ ?_;(· (simp[*];done)))|(refine ar (a1) ?_ ?_;(· (simp[*];done)))|(refine ar (a2) ?_ ?_;(· (simp[*];done)))|(refine ar (a3) ?_ ?_;(· (simp[*];done)))
 all_goals first|exact fw (by decide)|(simp[touch];done)
noncomputable instance zay:ak:=LD
def Cg:Tw.RND where
 ab:=[(⟨#[97]⟩,4,false)]
 os:=[(⟨#[112]⟩,1,false,0),(⟨#[113]⟩,1,false,0)]
 wt:=[[100],[150]]
 zs:=[]
 dT:=by
  refine⟨?_,?_,?_,by decide,by decide,by decide,by decide⟩
  .intro c hc;simp only[db,lL,or_false] at hc
   rcases hc with rfl|rfl<;>decide
  .intro c hc;simp only[db,lL,or_false] at hc
   rcases hc with rfl|rfl<;>decide
  .intro c hc;simp only[db,lL,or_false] at hc
   rcases hc with rfl|rfl<;>decide
theorem OS:ceR Cg=0:=by kernel_rfl
theorem OT:aB Tz.prog 69 [oU] (.tup [rdL,.int .i64 0]) false:=by
 have c:=nG Cg;rw[qJ Cg OS] at c;exact c
@[simp]theorem zaz:dW Tz.prog 160=some [.w false false .undef]:=by kernel_rfl
theorem OU:aB Tz.prog 50 [oU] (.tup [.sl 2 [.int .i64 0,.int .i64 1],.int .i64 0]) false:=by
 have c1:=OT;obtain⟨a0,a1,a2,a3⟩:=OR
 have c2:∀s:Int,aB Tz.prog 96 [.int .i64 2,.int .i64 s] (.fn 126 [.ip [.int .i64 s] 0,.ip [.int .i64 2] 0]) true:=λs=>by
  refine rcK Tz.func96 ?_;simp only[Tryz.results96,Tryz.ntmps96]
  repeat' first|(with_reducible first|apply aj|apply av|apply af|intro _)|(simp[*])
 have c3:aB Tz.prog 97 [.sl 2 [.int .i64 0,.int .i64 1]] (.sl 2 [.int .i64 0,.int .i64 1]) true:=Oi [0,1] (by decide);unfold rdL oU at *;refine wo Tz.func50 (by kernel_rfl) rfl (ga (by kernel_rfl)) ?_;simp only[Tryz.results50,Tryz.ntmps50]
 repeat' first|((with_reducible refine GH (o:=false) (f:=false) ?_ ?_);(· rfl))|((with_reducible refine GJ (o:=false) (f:=false) ?_ ?_);(· rfl))|((with_reducible refine ON (o:=false) (f:=false) ?_ ?_);(· rfl))|((with_reducible refine OO (o:=false) (f:=false) ?_ ?_);(· rfl))|(with_reducible first|apply mY|apply wm|refine GF 40 ?_|apply GG|refine F6 (gf:=126) rfl Tz.func126 (by kernel_rfl) rfl (ga (by kernel_rfl)) (λl=>?_)|apply Oz|apply OA|refine OL 40 ?_|apply OM|refine OG (id:=3) 1 127 Tz.func127 (by kernel_rfl) rfl (by decide) rfl ?_|refine OI (id:=6) 12 127 mixed (by decide +kernel) (by decide +kernel) Tz.func127 (by kernel_rfl) rfl rfl ?_|refine OF _ rfl (ga (by kernel_rfl)) (by simp) rfl ?_|refine OE (id:=2) 2 (by decide) rfl rfl (by simp) ?_|refine OC _ _ rfl rfl (by simp) ?_|apply Om|apply On|apply mX|apply F5|apply fT|apply aj|apply aE|apply av|apply aK|apply af|refine bm (id:=7) 8 mixed (by decide +kernel) ?_|refine bm (id:=9) 6 mixed (by decide +kernel) ?_|apply au|refine And.intro ?_ ?_|refine cw (c1) ?_|refine cw (a0) ?_|refine cw (a1) ?_|refine cw (a2) ?_|refine cw (a3) ?_|refine cw (c2 _) ?_|refine cw (c3) ?_|intro _)|(simp[*,fI,iM,nD,oneOf])|(refine ar (c1) ?_ ?_;(· (simp[*];done)))|(refine ar (a0) ?_ ?_;(· (simp[*];done)))|(refine ar (a1) ?_ ?_;(· (simp[*];done)))|(refine ar (a2) ?_ ?_;(· (simp[*];done)))|(refine ar (a3) ?_ ?_;(· (simp[*];done)))|(refine ar (c2 _) ?_ ?_;(· (simp[*];done)))|(refine ar (c3) ?_ ?_;(· (simp[*];done)))
 all_goals first|exact fw (by decide)|decide|(simp[touch];done)
noncomputable instance za1:ak:=LD
theorem OV:aB Tz.prog 15 [] (.bool true) true:=by
 have c9:=R4;have c8:=Ov;have c10:=Ow;have c11:=Ox;have c12:=OP;have c13:=OQ;have c14:=OU;have c15:aB Tz.prog 52 [.sl 2 [.int .i64 0,.int .i64 1],.sl 2 [.int .i64 0,.int .i64 1]] (.bool true) true:=Gf [0,1] [0,1] (by decide);rw[pE] at *;unfold oU at *;refine rcK Tz.func15 ?_;simp only[Tryz.results15,Tryz.ntmps15]
 repeat' first|(with_reducible first|apply aj|apply av|apply af|refine And.intro ?_ ?_|refine cw (c9) ?_|refine cw (c8) ?_|refine cw (c10) ?_|refine cw (c11) ?_|refine cw (c12) ?_|refine cw (c13) ?_|refine cw (c14) ?_|refine cw (c15) ?_|intro _)|(simp[*])|(refine ar (c9) ?_ ?_;(· (simp[*];done)))|(refine ar (c8) ?_ ?_;(· (simp[*];done)))|(refine ar (c10) ?_ ?_;(· (simp[*];done)))|(refine ar (c11) ?_ ?_;(· (simp[*];done)))|(refine ar (c12) ?_ ?_;(· (simp[*];done)))|(refine ar (c13) ?_ ?_;(· (simp[*];done)))|(refine ar (c14) ?_ ?_;(· (simp[*];done)))|(refine ar (c15) ?_ ?_;(· (simp[*];done)))
end Go.Proofs.YthpkmilhiganjaaGreat
namespace Go.Proofs.YthpkmilhiganjaaGreat
open Go.ChangeShapes Go.WideShapes Go.ChangeAt Go.RowKit Go.Conc
noncomputable instance za4:Go.Fi.ak:=LD
theorem Se:ownKnob Tryz.prog.godebug=none:=by kernel_rfl
theorem Sf:laidOutB Tryz.prog=true:=by kernel_rfl
section
variable{C:Go.Fc.Cx}{W:World}
theorem GN{a:Addr}{x:Value}(h:W.cell? a=some x):(Go.Fc.hY C W).cell? a=some x:=by
 unfold World.cell? at h;split at h
 .rename_i c e f hb;unfold World.cell?;rw[Go.Fc.tW hb trivial];exact h
 .cases h
theorem O6{G:Nat->Prop}{p:Go.Fi.PV}{v:Value}(h:Go.Fi.Rep G W p v):Go.Fi.Rep G (Go.Fc.hY C W) p v:=by
 induction h with
 |undef v=>exact .undef v
 |iI b=>exact .iI b
 |bool b=>exact .bool b
 |int k n=>exact .int k n
 |str s=>exact .str s
 |agg hl _ ih=>exact .agg hl ih
 |tup hl _ ih=>exact .tup hl ih
 |slnil=>exact .slnil
 |sl vals hn hc hg _ ih=>exact .sl vals hn (λj hj=>GN (hc j hj)) hg ih
 |slz hn=>exact .slz hn
 |ip vals hc hg _ ih=>exact .ip vals (λj hj=>GN (hc j hj)) hg ih
 |gl=>exact .gl
 |jS=>exact .jS
 |ifc _ ih=>exact .ifc ih
 |fn hl _ ih=>exact .fn hl ih
 |yl l=>exact .yl l
end
theorem O7(f:Nat)(fn:Func)(hf:Tryz.prog.funcs[f]?=some fn)(hk:Tz.keep f=true)(pvs:List Go.Fi.PV)(ht:Go.Fi.BY Tz.prog fn (fn.body.getD .skip) pvs (.bool true) true){t:Tmp}(ha:fn.results=#[.tmp t])(W:World)(args:Array Value)(hlen:pvs.length=args.size)(h':∀(j:Nat)(p:Go.Fi.PV)(v:Value),pvs[j]?=some p->args[j]?=some v->Go.Fi.Rep (λ_=>True) W p v)(ir:Value->World->Prop)(h9:∀B,Go.Fi.Bel W.heap.size W B->ir (.bool true) B):∃N last o w' t',runNT Tryz.prog (N+1) (solo (G (Frame.enter Tryz.prog f args .normal) []) W) #[]=(.ended o w',t')/\runN Tryz.prog N (solo (G (Frame.enter Tryz.prog f args .normal) []) W)=.next last/\step Tryz.prog last=.ended o w'/\Go.Conc.Good Tryz.prog ir last o w' t':=by
 obtain⟨h8,c,h1,h2,h3,h4,h5,h6,h7⟩:=Tz.BW f hk
 have e1:h8=fn:=by rw[hf] at h2;exact (eJ h2).symm
 subst e1
 have e2:c=h8.body.getD .skip:=by rw[h4];rfl
 refine @Go.Fc.Sb Tz.xfZ LD Tz.prog Tryz.prog Tz.nC qM W (ny _) (λf h=>h) f h8 c args t
  (λv A=>v=.bool true/\Go.Fi.Bel W.heap.size (Go.Fc.hY (@Go.Fc.Cc Tz.xfZ Tz.prog Tryz.prog) W) A) ir hf h4 h5 ⟨⟨h8,h1,h2,h6⟩,h7⟩ ?_ ha ?_ ?_
 .exactλh=>absurd (h.1.symm.trans hk) (by decide)
 .have h:=ht (λ_=>True) (Go.Fc.hY (@Go.Fc.Cc Tz.xfZ Tz.prog Tryz.prog) W) args trivial hlen (λj p v hp hv=>O6 (h' j p v hp hv));rw[Go.Fc.xg] at h;subst e2;refine Go.Fi.dK h (λe a' w' hq=>?_)
  have fin:∀(X:a'.defers=[]/\∀w1,Go.Fi.EnvD.E w' w1->∃v,(results h8 a'.tmps).run Tz.prog w1=.ok v w1/\∃v',Ending.returned v=.returned v'/\Go.Fi.Bel W.heap.size (Go.Fc.hY (@Go.Fc.Cc Tz.xfZ Tz.prog Tryz.prog) W) w1/\Go.Fi.Rep (λb=>(b<W.heap.size->True)/\(true=true->W.heap.size<=b)) w1 (.bool true) v'),
   a'.defers=[]/\∀w1,Go.Fi.EnvD.E w' w1->∃v,(results h8 a'.tmps).run Tz.prog w1=.ok v w1/\∃v',Ending.returned v=.returned v'/\v'=.bool true/\Go.Fi.Bel W.heap.size (Go.Fc.hY (@Go.Fc.Cc Tz.xfZ Tz.prog Tryz.prog) W) w1:=by
   rintro⟨hd,X⟩
   refine⟨hd,λw1 e1=>?_⟩;obtain⟨v,h1,v',h2,h3,h4⟩:=X w1 e1;refine⟨v,h1,v',h2,?_,h3⟩
   cases h4 with
   |bool=>rfl
  cases e with
  |normal=>exact fin hq
  |ret=>exact fin hq
  |_=>exact hq.elim
 .intro v A B S hv hh hd ho hp;obtain⟨rfl,hb⟩:=hv;exact h9 B (Go.Fc.Sa hh hd ho hp hb)
end Go.Proofs.YthpkmilhiganjaaGreat
namespace Go.Proofs.YthpkmilhiganjaaGreat
open Go Go.Fi Go.RowKit Go.ChangeShapes Go.WideShapes Go.ChangeAt
theorem tg:Tryz.prog.cellsOf 3=1:=by kernel_rfl
theorem GO:Tryz.prog.cellsOf 4=1:=by kernel_rfl
theorem GP:Tryz.prog.cellsOf 9=1:=by kernel_rfl
theorem O8:Tryz.prog.cellsOf 28=1:=by kernel_rfl
theorem O9:Tryz.prog.cellsOf 24=1:=by kernel_rfl
theorem GQ:Tryz.prog.cellsOf 89=3:=by kernel_rfl
theorem GR:Tryz.prog.cellsOf 91=4:=by kernel_rfl
theorem GU:Tryz.prog.cellsOf 120=2:=by kernel_rfl
theorem Pa:Tryz.prog.cellsOf 22=1:=by kernel_rfl
theorem Pb:Tryz.prog.cellsOf 23=1:=by kernel_rfl
theorem Pd:Tryz.prog.cellsOf 25=1:=by kernel_rfl
theorem Pe:Tryz.prog.cellsOf 27=4:=by kernel_rfl
abbrev cI(n:Int):List PV:=[.int .i64 n]
abbrev cB(b:Bool):List PV:=[.bool b]
abbrev cS(s:ByteArray):List PV:=[.str s]
abbrev cU(_:Unit):List PV:=[]
theorem rI:Reads Tryz.prog 3 cI:=OZ Tryz.underlying3
theorem rB:Reads Tryz.prog 4 cB:=O3 Tryz.underlying4
theorem rS:Reads Tryz.prog 9 cS:=O0 Tryz.underlying9
theorem GV:∀l:List Int,l.flatMap cI=ints l
 |[]=>rfl
 |x::r=>by rw[mG,GV r];rfl
abbrev xi(l:List Int):List PV:=[.sl l.length (ints l)]
theorem Pf:Reads Tryz.prog 28 xi:=wB (c:=λl:List Int=>[.sl l.length (l.flatMap cI)]) id (λl=>by simp only[id,xi];rw[GV]) (te Tryz.underlying28 tg (by decide) (λ_=>rfl) rI)
theorem GW:∀l:List (List Int),l.flatMap xi=bP l
 |[]=>rfl
 |x::r=>by rw[mG,GW r];rfl
theorem Pg:Reads Tryz.prog 24 (λl:List (List Int)=>[.sl l.length (bP l)]):=wB (c:=λl:List (List Int)=>[.sl l.length (l.flatMap xi)]) id (λl=>by simp only[id];rw[GW]) (te Tryz.underlying24 O8 (by decide) (λ_=>rfl) Pf)
abbrev cI1(y:Int×Unit):List PV:=cI y.1++cU y.2
abbrev cB1(y:Bool×Unit):List PV:=cB y.1++cU y.2
abbrev cC3(y:ByteArray×Int×Bool×Unit):List PV:=cS y.1++(cI y.2.1++cB1 y.2.2)
theorem Ph:Reads Tryz.prog 89 cC3:=by
 refine AY Tryz.underlying89 GQ ?_;exact kU (s:=1) (S:=2) (c:=cS) (c':=λy:Int×Bool×Unit=>cI y.1++cB1 y.2) rfl GP rS (kU (s:=1) (S:=1) (c:=cI) (c':=cB1) rfl tg rI (kU (s:=1) (S:=0) (c:=cB) (c':=cU) rfl GO rB AX))
theorem Pj:Reads Tryz.prog 89 Tw.dM:=wB (c:=cC3) (λy=>(y.1,y.2.1,y.2.2.1)) (λ_=>rfl) Ph
theorem Pk:Reads Tryz.prog 22 (λl:List Car=>[.sl l.length (bf l)]):=te Tryz.underlying22 GQ (by decide) (λ_=>rfl) Pj
abbrev cO2(y:Bool×Int×Unit):List PV:=cB y.1++cI1 y.2
abbrev cO4(y:ByteArray×Int×Bool×Int×Unit):List PV:=cS y.1++(cI y.2.1++cO2 y.2.2)
theorem Pl:Reads Tryz.prog 91 cO4:=by
 refine AY Tryz.underlying91 GR ?_
 exact kU (s:=1) (S:=3) (c:=cS) (c':=λy:Int×Bool×Int×Unit=>cI y.1++cO2 y.2) rfl GP rS (kU (s:=1) (S:=2) (c:=cI) (c':=cO2) rfl tg rI
  (kU (s:=1) (S:=1) (c:=cB) (c':=cI1) rfl GO rB (kU (s:=1) (S:=0) (c:=cI) (c':=cU) rfl tg rI AX)))
theorem Pm:Reads Tryz.prog 91 Tw.cJ:=wB (c:=cO4) (λy=>(y.1,y.2.1,y.2.2.1,y.2.2.2.1)) (λ_=>rfl) Pl
theorem Pn:Reads Tryz.prog 23 (λl:List Ord=>[.sl l.length (ba l)]):=te Tryz.underlying23 GR (by decide) (λ_=>rfl) Pm
theorem Po:Reads Tryz.prog 120 Tw.cg:=O5 (c:=cI) Tryz.underlying120 tg GU rI
theorem Pp:Reads Tryz.prog 25 (λl:List Par=>[.sl l.length (aZ l)]):=te Tryz.underlying25 GU (by decide) (λ_=>rfl) Po
abbrev cR1(y:List Par×Unit):List PV:=[.sl y.1.length (aZ y.1)]++cU y.2
abbrev cR2(y:List (List Int)×List Par×Unit):List PV:=[.sl y.1.length (bP y.1)]++cR1 y.2
abbrev cR3(y:List Ord×List (List Int)×List Par×Unit):List PV:=[.sl y.1.length (ba y.1)]++cR2 y.2
abbrev cR4(y:List Car×List Ord×List (List Int)×List Par×Unit):List PV:=[.sl y.1.length (bf y.1)]++cR3 y.2
theorem Pq:Reads Tryz.prog 27 cR4:=by
 refine AY Tryz.underlying27 Pe ?_
 exact kU (s:=1) (S:=3) (c:=λl:List Car=>[.sl l.length (bf l)]) (c':=cR3) rfl Pa Pk (kU (s:=1) (S:=2) (c:=λl:List Ord=>[.sl l.length (ba l)]) (c':=cR2) rfl Pb Pn
  (kU (s:=1) (S:=1) (c:=λl:List (List Int)=>[.sl l.length (bP l)]) (c':=cR1) rfl O9 Pg (kU (s:=1) (S:=0) (c:=λl:List Par=>[.sl l.length (aZ l)]) (c':=cU) rfl Pd Pp AX)))
end Go.Proofs.YthpkmilhiganjaaGreat
