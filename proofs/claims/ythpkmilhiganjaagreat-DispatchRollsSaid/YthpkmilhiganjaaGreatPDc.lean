/- Lemmas. -/
import Derived.Test.YthpkmilhiganjaaGreatPDb
import Derived.Test.YthpkmilhiganjaaGreatPLg
import Derived.Test.YthpkmilhiganjaaGreatPDa
import Derived.Test.YthpkmilhiganjaaGreatRows
import Derived.Conc.LeavingOf
import Derived.Test.YthpkmilhiganjaaGreatPMc
import Derived.Test.YthpkmilhiganjaaGreatPLf
import Derived.ProofKit
set_option linter.all false
set_option maxHeartbeats 32000000
set_option maxRecDepth 100000
namespace Go.Proofs.YthpkmilhiganjaaGreat
open Go Go.Fi
noncomputable instance zbx:bJ:=LD
def rdL:PV:=.ip [.sl 1 [.str ⟨#[97]⟩,.int .i64 4,.bool false],.sl 2 [.str ⟨#[112]⟩,.int .i64 1,.bool false,.int .i64 0,.str ⟨#[113]⟩,.int .i64 1,.bool false,.int .i64 0],.sl 2 [.sl 1 [.int .i64 100],.sl 1 [.int .i64 150]],.sl 0 [],.sl 2 [.sl 1 [.bool true],.sl 1 [.bool true]]] 0
theorem Pp:bT Tz.prog 95 [rdL,.sl 0 []] (.sl 0 []) true/\bT Tz.prog 95 [rdL,.sl 1 [.int .i64 0]] (.sl 1 [.int .i64 0]) true/\bT Tz.prog 95 [rdL,.sl 1 [.int .i64 1]] (.sl 1 [.int .i64 0]) true/\bT Tz.prog 95 [rdL,.sl 2 [.int .i64 0,.int .i64 1]] (.sl 1 [.int .i64 0]) true:=by
 have f:∀i:Int,(i=0\/i=1)->bT Tz.prog 125 [.int .i64 i,.ip [rdL] 0,.ip [.int .i64 0] 0] (.bool true) true:=λi h=>by
  unfold rdL
  rcases h with rfl|rfl
  all_goals
   refine rcK Tz.func125 ?_;simp only[Tryz.results125,Tryz.ntmps125]
   repeat' first|(with_reducible first|apply bG|apply bU|apply bE|refine cT (id:=1) 11 mixed ai ?_|intro _)|simp[*]
 have f0:=f 0 (.inl rfl);have f1:=f 1 (.inr rfl);clear f;unfold rdL at *
 have a:∀l:List PV,(l=[]\/l=[.int .i64 0]\/l=[.int .i64 1]\/l=[.int .i64 0,.int .i64 1])->bT Tz.prog 93 [.sl l.length l,.fn 125 [.ip [.ip [.sl 1 [.str ⟨#[97]⟩,.int .i64 4,.bool false],.sl 2 [.str ⟨#[112]⟩,.int .i64 1,.bool false,.int .i64 0,.str ⟨#[113]⟩,.int .i64 1,.bool false,.int .i64 0],.sl 2 [.sl 1 [.int .i64 100],.sl 1 [.int .i64 150]],.sl 0 [],.sl 2 [.sl 1 [.bool true],.sl 1 [.bool true]]] 0] 0,.ip [.int .i64 0] 0]] (.bool (decide (0<l.length))) true:=λl h=>by
  have b:bT Tz.prog 124 [.sl l.length l,.fn 125 [.ip [.ip [.sl 1 [.str ⟨#[97]⟩,.int .i64 4,.bool false],.sl 2 [.str ⟨#[112]⟩,.int .i64 1,.bool false,.int .i64 0,.str ⟨#[113]⟩,.int .i64 1,.bool false,.int .i64 0],.sl 2 [.sl 1 [.int .i64 100],.sl 1 [.int .i64 150]],.sl 0 [],.sl 2 [.sl 1 [.bool true],.sl 1 [.bool true]]] 0] 0,.ip [.int .i64 0] 0]] (.int .i64 (if 0<l.length then 0 else -1)) true:=by
   rcases h with rfl|rfl|rfl|rfl
   all_goals
    simp only[gw,lg,eo,Nat.reduceAdd,Nat.lt_irrefl,decide_false,Nat.zero_lt_succ,decide_true,cD,cP];refine rcK Tz.func124 ?_;simp only[Tryz.results124,Tryz.ntmps124]
    repeat' first|(with_reducible first|refine jL 40 ?_|apply jX|apply gS|apply bG|apply bS|apply bU|apply cK|apply bE|apply bP|refine And.intro ?_ ?_|intro _)|simp[*]|(refine bN (f0) ?_ ?_;· simp[*];done)|(refine bN (f1) ?_ ?_;· simp[*];done)
   all_goals first|exact gP af|(simp[touch];done)
  rcases h with rfl|rfl|rfl|rfl
  all_goals
   simp only[gw,lg,eo,Nat.reduceAdd,Nat.lt_irrefl,decide_false,Nat.zero_lt_succ,decide_true,cD,cP] at b ⊢;clear f0 f1;refine rcK Tz.func93 ?_;simp only[Tryz.results93,Tryz.ntmps93]
   repeat' first|(with_reducible first|apply bG|apply bU|apply bE|refine And.intro ?_ ?_|intro _)|simp[*]|(refine bN (b) ?_ ?_;· simp[*];done)
 have a0:=a _ (.inl rfl);have a1:=a _ (.inr (.inl rfl));have a2:=a _ (.inr (.inr (.inl rfl)));have a3:=a _ (.inr (.inr (.inr rfl)));clear a f0 f1;refine⟨?_,?_,?_,?_⟩
 all_goals
  refine rcK Tz.func95 ?_;simp only[Tryz.results95,Tryz.ntmps95]
  repeat' first|(with_reducible first|refine jL 40 ?_|apply jX|apply gS|apply bG|apply bS|apply bU|apply cK|apply bE|apply bP|refine And.intro ?_ ?_|intro _)|simp[*]|(refine bN (a0) ?_ ?_;· simp[*];done)|(refine bN (a1) ?_ ?_;· simp[*];done)|(refine bN (a2) ?_ ?_;· simp[*];done)|(refine bN (a3) ?_ ?_;· simp[*];done)
 all_goals first|exact gP af|(simp[touch];done)
noncomputable instance zbz:bJ:=LD
def CY:Tw.RND where
 bz:=[(⟨#[97]⟩,4,false)]
 os:=[(⟨#[112]⟩,1,false,0),(⟨#[113]⟩,1,false,0)]
 wt:=[[100],[150]]
 zs:=[]
 eU:=by
  refine⟨?_,?_,?_,af,af,af,af⟩
  .intro c hc;simp only[ew,mX,or_false] at hc
   rcases hc with rfl|rfl<;>decide
  .intro c hc;simp only[ew,mX,or_false] at hc
   rcases hc with rfl|rfl<;>decide
  .intro c hc;simp only[ew,mX,or_false] at hc
   rcases hc with rfl|rfl<;>decide
theorem Pq:ceR CY=0:=aj
theorem Pr:bT Tz.prog 69 [pN] (.tup [rdL,.int .i64 0]) false:=by
 have c:=qI CY;rw[xi CY Pq] at c;exact c
@[simp]theorem zb0:fE Tz.prog 160=some [.w false false .undef]:=aj
theorem Ps:bT Tz.prog 50 [pN] (.tup [.sl 2 [.int .i64 0,.int .i64 1],.int .i64 0]) false:=by
 have c1:=Pr;obtain⟨a0,a1,a2,a3⟩:=Pp
 have c2:∀s:Int,bT Tz.prog 96 [.int .i64 2,.int .i64 s] (.fn 126 [.ip [.int .i64 s] 0,.ip [.int .i64 2] 0]) true:=λs=>by
  refine rcK Tz.func96 ?_;simp only[Tryz.results96,Tryz.ntmps96]
  repeat' first|(with_reducible first|apply bG|apply bU|apply bE|intro _)|simp[*]
 have c3:bT Tz.prog 97 [.sl 2 [.int .i64 0,.int .i64 1]] (.sl 2 [.int .i64 0,.int .i64 1]) true:=OR [0,1] af;unfold rdL pN at *;refine ug Tz.func50 aj rfl (gH aj) ?_;simp only[Tryz.results50,Tryz.ntmps50]
 repeat' first|((with_reducible refine Hi (o:=false) (f:=false) ?_ ?_);(· rfl))|((with_reducible refine Hj (o:=false) (f:=false) ?_ ?_);(· rfl))|((with_reducible refine Pl (o:=false) (f:=false) ?_ ?_);(· rfl))|((with_reducible refine Pm (o:=false) (f:=false) ?_ ?_);(· rfl))|(with_reducible first|apply iF|apply ua|refine Hg 40 ?_|apply Hh|refine GG (gf:=126) rfl Tz.func126 aj rfl (gH aj) (λl=>?_)|apply OU|apply OV|refine Pj 40 ?_|apply Pk|refine O3 (id:=3) 1 127 Tz.func127 aj rfl af rfl ?_|refine O5 (id:=6) 12 127 mixed ai ai Tz.func127 aj rfl rfl ?_|refine O0 _ rfl (gH aj) ae rfl ?_|refine OZ (id:=2) 2 af rfl rfl ae ?_|refine OY _ _ rfl rfl ae ?_|apply O7|apply O8|apply iE|apply GF|apply gS|apply bG|apply bS|apply bU|apply cK|apply bE|refine cT (id:=7) 8 mixed ai ?_|refine cT (id:=9) 6 mixed ai ?_|apply bP|refine And.intro ?_ ?_|refine cw (c2 _) ?_|intro _)|simp[*,gq,jW,pG,oneOf]|(refine bN (c1) ?_ ?_;· simp[*];done)|(refine bN (a0) ?_ ?_;· simp[*];done)|(refine bN (a1) ?_ ?_;· simp[*];done)|(refine bN (a2) ?_ ?_;· simp[*];done)|(refine bN (a3) ?_ ?_;· simp[*];done)|(refine bN (c2 _) ?_ ?_;· simp[*];done)|(refine bN (c3) ?_ ?_;· simp[*];done)
 all_goals first|exact gP af|decide|(simp[touch];done)
noncomputable instance zb2:bJ:=LD
theorem Pt:bT Tz.prog 15 [] (.bool true) true:=by
 have c9:=SE;have c8:=Pe;have c10:=Pf;have c11:=Pg;have c12:=Pn;have c13:=Po;have c14:=Ps;have c15:bT Tz.prog 52 [.sl 2 [.int .i64 0,.int .i64 1],.sl 2 [.int .i64 0,.int .i64 1]] (.bool true) true:=GR [0,1] [0,1] af;rw[qv] at *;unfold pN at *;refine rcK Tz.func15 ?_;simp only[Tryz.results15,Tryz.ntmps15]
 repeat' first|(with_reducible first|apply bG|apply bU|apply bE|refine And.intro ?_ ?_|intro _)|simp[*]|(refine bN (c9) ?_ ?_;· simp[*];done)|(refine bN (c8) ?_ ?_;· simp[*];done)|(refine bN (c10) ?_ ?_;· simp[*];done)|(refine bN (c11) ?_ ?_;· simp[*];done)|(refine bN (c12) ?_ ?_;· simp[*];done)|(refine bN (c13) ?_ ?_;· simp[*];done)|(refine bN (c14) ?_ ?_;· simp[*];done)|(refine bN (c15) ?_ ?_;· simp[*];done)
end Go.Proofs.YthpkmilhiganjaaGreat
namespace Go.Proofs.YthpkmilhiganjaaGreat
open Go.ChangeShapes Go.WideShapes Go.ChangeAt Go.RowKit Go.Conc
noncomputable instance zb5:Go.Fi.bJ:=LD
theorem SP:ownKnob Tryz.prog.godebug=none:=aj
theorem SQ:laidOutB Tryz.prog=true:=aj
section
variable{C:Go.Fc.Cx}{W:World}
theorem Hm{a:Addr}{x:Value}(h:W.cell? a=some x):(Go.Fc.iT C W).cell? a=some x:=by
 unfold World.cell? at h;split at h
 .rename_i c e f hb;unfold World.cell?;rw[Go.Fc.uP hb trivial];exact h
 .cases h
theorem PG{G:Nat->Prop}{p:Go.Fi.PV}{v:Value}(h:Go.Fi.Rep G W p v):Go.Fi.Rep G (Go.Fc.iT C W) p v:=by
 induction h with
 |undef v=>exact .undef v
 |jO b=>exact .jO b
 |bool b=>exact .bool b
 |int k n=>exact .int k n
 |str s=>exact .str s
 |agg hl _ ih=>exact .agg hl ih
 |tup hl _ ih=>exact .tup hl ih
 |slnil=>exact .slnil
 |sl vals hn hc hg _ ih=>exact .sl vals hn (λj hj=>Hm (hc j hj)) hg ih
 |slz hn=>exact .slz hn
 |ip vals hc hg _ ih=>exact .ip vals (λj hj=>Hm (hc j hj)) hg ih
 |gJ=>exact .gJ
 |lE=>exact .lE
 |ifc _ ih=>exact .ifc ih
 |fn hl _ ih=>exact .fn hl ih
 |yl l=>exact .yl l
end
theorem PH(f:Nat)(fn:Func)(hf:Tryz.prog.funcs[f]?=some fn)(hk:Tz.keep f=true)(pvs:List Go.Fi.PV)(ht:Go.Fi.CL Tz.prog fn (fn.body.getD .skip) pvs (.bool true) true){t:Tmp}(ha:fn.results=#[.tmp t])(W:World)(args:Array Value)(hlen:pvs.length=args.size)(h':∀(j:Nat)(p:Go.Fi.PV)(v:Value),pvs[j]?=some p->args[j]?=some v->Go.Fi.Rep (λ_=>True) W p v)(jc:Value->World->Prop)(h9:∀B,Go.Fi.Bel W.heap.size W B->jc (.bool true) B):∃N last o w' t',runNT Tryz.prog (N+1) (solo (G (Frame.enter Tryz.prog f args .normal) []) W) #[]=(.ended o w',t')/\runN Tryz.prog N (solo (G (Frame.enter Tryz.prog f args .normal) []) W)=.next last/\step Tryz.prog last=.ended o w'/\Go.Conc.Good Tryz.prog jc last o w' t':=by
 obtain⟨h8,c,h1,h2,h3,h4,h5,h6,h7⟩:=Tz.CI f hk
 have e1:h8=fn:=by rw[hf] at h2;exact (fO h2).symm
 subst e1
 have e2:c=h8.body.getD .skip:=by rw[h4];rfl
 refine @Go.Fc.SK Tz.xfZ LD Tz.prog Tryz.prog Tz.oC rJ W (oz _) (λf h=>h) f h8 c args t
  (λv A=>v=.bool true/\Go.Fi.Bel W.heap.size (Go.Fc.iT (@Go.Fc.Cc Tz.xfZ Tz.prog Tryz.prog) W) A) jc hf h4 h5 ⟨⟨h8,h1,h2,h6⟩,h7⟩ ?_ ha ?_ ?_
 .exactλh=>absurd (h.1.symm.trans hk) af
 .have h:=ht (λ_=>True) (Go.Fc.iT (@Go.Fc.Cc Tz.xfZ Tz.prog Tryz.prog) W) args trivial hlen (λj p v hp hv=>PG (h' j p v hp hv));rw[Go.Fc.xU] at h;subst e2;refine Go.Fi.fo h (λe a' w' hq=>?_)
  have fin:∀(X:a'.defers=[]/\∀w1,Go.Fi.EnvD.E w' w1->∃v,(results h8 a'.tmps).run Tz.prog w1=.ok v w1/\∃v',Ending.returned v=.returned v'/\Go.Fi.Bel W.heap.size (Go.Fc.iT (@Go.Fc.Cc Tz.xfZ Tz.prog Tryz.prog) W) w1/\Go.Fi.Rep (λb=>(b<W.heap.size->True)/\(true=true->W.heap.size<=b)) w1 (.bool true) v'),
   a'.defers=[]/\∀w1,Go.Fi.EnvD.E w' w1->∃v,(results h8 a'.tmps).run Tz.prog w1=.ok v w1/\∃v',Ending.returned v=.returned v'/\v'=.bool true/\Go.Fi.Bel W.heap.size (Go.Fc.iT (@Go.Fc.Cc Tz.xfZ Tz.prog Tryz.prog) W) w1:=by
   rintro⟨hd,X⟩
   refine⟨hd,λw1 e1=>?_⟩;obtain⟨v,h1,v',h2,h3,h4⟩:=X w1 e1;refine⟨v,h1,v',h2,?_,h3⟩
   cases h4 with
   |bool=>rfl
  cases e with
  |normal=>exact fin hq
  |ret=>exact fin hq
  |_=>exact hq.elim
 .intro v A B S hv hh hd ho hp;obtain⟨rfl,hb⟩:=hv;exact h9 B (Go.Fc.SJ hh hd ho hp hb)
end Go.Proofs.YthpkmilhiganjaaGreat
namespace Go.Proofs.YthpkmilhiganjaaGreat
open Go Go.Fi Go.RowKit Go.ChangeShapes Go.WideShapes Go.ChangeAt
theorem uk:Tryz.prog.cellsOf 3=1:=aj
theorem Hn:Tryz.prog.cellsOf 4=1:=aj
theorem Ho:Tryz.prog.cellsOf 9=1:=aj
theorem PM:Tryz.prog.cellsOf 28=1:=aj
theorem PN:Tryz.prog.cellsOf 24=1:=aj
theorem Hq:Tryz.prog.cellsOf 89=3:=aj
theorem Hr:Tryz.prog.cellsOf 91=4:=aj
theorem Ht:Tryz.prog.cellsOf 120=2:=aj
theorem PQ:Tryz.prog.cellsOf 22=1:=aj
theorem PR:Tryz.prog.cellsOf 23=1:=aj
theorem PS:Tryz.prog.cellsOf 25=1:=aj
theorem PT:Tryz.prog.cellsOf 27=4:=aj
abbrev cI(n:Int):List PV:=[.int .i64 n]
abbrev cB(b:Bool):List PV:=[.bool b]
abbrev cS(s:ByteArray):List PV:=[.str s]
abbrev cU(_:Unit):List PV:=[]
theorem rI:Reads Tryz.prog 3 cI:=Pw Tryz.underlying3
theorem rB:Reads Tryz.prog 4 cB:=Py Tryz.underlying4
theorem rS:Reads Tryz.prog 9 cS:=Px Tryz.underlying9
theorem Hu:∀l:List Int,l.flatMap cI=ints l
 |[]=>rfl
 |x::r=>by rw[jq,Hu r];rfl
abbrev xW(l:List Int):List PV:=[.sl l.length (ints l)]
theorem Hv:Reads Tryz.prog 28 xW:=xn (c:=λl:List Int=>[.sl l.length (l.flatMap cI)]) id (λl=>by simp only[id,xW];rw[Hu]) (uj Tryz.underlying28 uk af (λ_=>rfl) rI)
theorem Hw:∀l:List (List Int),l.flatMap xW=dQ l
 |[]=>rfl
 |x::r=>by rw[jq,Hw r];rfl
theorem PU:Reads Tryz.prog 24 (λl:List (List Int)=>[.sl l.length (dQ l)]):=xn (c:=λl:List (List Int)=>[.sl l.length (l.flatMap xW)]) id (λl=>by simp only[id];rw[Hw]) (uj Tryz.underlying24 PM af (λ_=>rfl) Hv)
abbrev cI1(y:Int×Unit):List PV:=cI y.1++cU y.2
abbrev cB1(y:Bool×Unit):List PV:=cB y.1++cU y.2
abbrev cC3(y:ByteArray×Int×Bool×Unit):List PV:=cS y.1++(cI y.2.1++cB1 y.2.2)
theorem PW:Reads Tryz.prog 89 cC3:=by
 refine BJ Tryz.underlying89 Hq ?_;exact mf (s:=1) (S:=2) (c:=cS) (c':=λy:Int×Bool×Unit=>cI y.1++cB1 y.2) rfl Ho rS (mf (s:=1) (S:=1) (c:=cI) (c':=cB1) rfl uk rI (mf (s:=1) (S:=0) (c:=cB) (c':=cU) rfl Hn rB BI))
theorem PX:Reads Tryz.prog 89 Tw.eX:=xn (c:=cC3) (λy=>(y.1,y.2.1,y.2.2.1)) (λ_=>rfl) PW
theorem PY:Reads Tryz.prog 22 (λl:List Car=>[.sl l.length (dk l)]):=uj Tryz.underlying22 Hq af (λ_=>rfl) PX
abbrev cO2(y:Bool×Int×Unit):List PV:=cB y.1++cI1 y.2
abbrev cO4(y:ByteArray×Int×Bool×Int×Unit):List PV:=cS y.1++(cI y.2.1++cO2 y.2.2)
theorem PZ:Reads Tryz.prog 91 cO4:=by
 refine BJ Tryz.underlying91 Hr ?_
 exact mf (s:=1) (S:=3) (c:=cS) (c':=λy:Int×Bool×Int×Unit=>cI y.1++cO2 y.2) rfl Ho rS (mf (s:=1) (S:=2) (c:=cI) (c':=cO2) rfl uk rI
  (mf (s:=1) (S:=1) (c:=cB) (c':=cI1) rfl Hn rB (mf (s:=1) (S:=0) (c:=cI) (c':=cU) rfl uk rI BI)))
theorem P4:Reads Tryz.prog 91 Tw.dW:=xn (c:=cO4) (λy=>(y.1,y.2.1,y.2.2.1,y.2.2.2.1)) (λ_=>rfl) PZ
theorem P5:Reads Tryz.prog 23 (λl:List Ord=>[.sl l.length (dj l)]):=uj Tryz.underlying23 Hr af (λ_=>rfl) P4
theorem P6:Reads Tryz.prog 120 Tw.dP:=PD (c:=cI) Tryz.underlying120 uk Ht rI
theorem P7:Reads Tryz.prog 25 (λl:List Par=>[.sl l.length (dm l)]):=uj Tryz.underlying25 Ht af (λ_=>rfl) P6
abbrev cR1(y:List Par×Unit):List PV:=[.sl y.1.length (dm y.1)]++cU y.2
abbrev cR2(y:List (List Int)×List Par×Unit):List PV:=[.sl y.1.length (dQ y.1)]++cR1 y.2
abbrev cR3(y:List Ord×List (List Int)×List Par×Unit):List PV:=[.sl y.1.length (dj y.1)]++cR2 y.2
abbrev cR4(y:List Car×List Ord×List (List Int)×List Par×Unit):List PV:=[.sl y.1.length (dk y.1)]++cR3 y.2
theorem P8:Reads Tryz.prog 27 cR4:=by
 refine BJ Tryz.underlying27 PT ?_
 exact mf (s:=1) (S:=3) (c:=λl:List Car=>[.sl l.length (dk l)]) (c':=cR3) rfl PQ PY (mf (s:=1) (S:=2) (c:=λl:List Ord=>[.sl l.length (dj l)]) (c':=cR2) rfl PR P5
  (mf (s:=1) (S:=1) (c:=λl:List (List Int)=>[.sl l.length (dQ l)]) (c':=cR1) rfl PN PU (mf (s:=1) (S:=0) (c:=λl:List Par=>[.sl l.length (dm l)]) (c':=cU) rfl PS P7 BI)))
end Go.Proofs.YthpkmilhiganjaaGreat
