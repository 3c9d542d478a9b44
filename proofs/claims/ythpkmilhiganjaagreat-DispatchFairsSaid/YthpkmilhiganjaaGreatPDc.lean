/- Lemmas. -/
import Derived.Test.YthpkmilhiganjaaGreatPDa
import Derived.Test.YthpkmilhiganjaaGreatRows
import Derived.Conc.LeavingOf
import Derived.Test.YthpkmilhiganjaaGreatPMc
import Derived.Test.YthpkmilhiganjaaGreatPLf
import Derived.ProofKit
set_option linter.all false
set_option maxHeartbeats 32000000
set_option maxRecDepth 100000
namespace Go.Proofs.YthpkmilhiganjaaGreat
open Go.ChangeShapes Go.WideShapes Go.ChangeAt Go.RowKit Go.Conc
noncomputable instance zdw:Go.Fi.bE:=LD
theorem TI:ownKnob Tryz.prog.godebug=none:=aj
theorem TJ:laidOutB Tryz.prog=true:=aj
section
variable{C:Go.Fc.Cx}{W:World}
theorem HK{a:Addr}{x:Value}(h:W.cell? a=some x):(Go.Fc.iI C W).cell? a=some x:=by
 unfold World.cell? at h;split at h
 .rename_i c e f hb;unfold World.cell?;rw[Go.Fc.uR hb trivial];exact h
 .cases h
theorem QB{G:Nat->Prop}{p:Go.Fi.PV}{v:Value}(h:Go.Fi.Rep G W p v):Go.Fi.Rep G (Go.Fc.iI C W) p v:=by
 induction h with
 |undef v=>exact .undef v
 |jE b=>exact .jE b
 |bool b=>exact .bool b
 |int k n=>exact .int k n
 |str s=>exact .str s
 |agg hl _ ih=>exact .agg hl ih
 |tup hl _ ih=>exact .tup hl ih
 |slnil=>exact .slnil
 |sl vals hn hc hg _ ih=>exact .sl vals hn (λj hj=>HK (hc j hj)) hg ih
 |slz hn=>exact .slz hn
 |ip vals hc hg _ ih=>exact .ip vals (λj hj=>HK (hc j hj)) hg ih
 |gN=>exact .gN
 |lh=>exact .lh
 |ifc _ ih=>exact .ifc ih
 |fn hl _ ih=>exact .fn hl ih
 |yl l=>exact .yl l
end
theorem QD(f:Nat)(fn:Func)(hf:Tryz.prog.funcs[f]?=some fn)(hk:Tz.keep f=true)(pvs:List Go.Fi.PV)(ht:Go.Fi.Cw Tz.prog fn (fn.body.getD .skip) pvs (.bool true) true){t:Tmp}(ha:fn.results=#[.tmp t])(W:World)(args:Array Value)(hlen:pvs.length=args.size)(h':∀(j:Nat)(p:Go.Fi.PV)(v:Value),pvs[j]?=some p->args[j]?=some v->Go.Fi.Rep (λ_=>True) W p v)(iP:Value->World->Prop)(h9:∀B,Go.Fi.Bel W.heap.size W B->iP (.bool true) B):∃N last o w' t',runNT Tryz.prog (N+1) (solo (G (Frame.enter Tryz.prog f args .normal) []) W) #[]=(.ended o w',t')/\runN Tryz.prog N (solo (G (Frame.enter Tryz.prog f args .normal) []) W)=.next last/\step Tryz.prog last=.ended o w'/\Go.Conc.Good Tryz.prog iP last o w' t':=by
 obtain⟨h8,c,h1,h2,h3,h4,h5,h6,h7⟩:=Tz.Cu f hk
 have e1:h8=fn:=by rw[hf] at h2;exact (fK h2).symm
 subst e1
 have e2:c=h8.body.getD .skip:=by rw[h4];rfl
 refine @Go.Fc.TE Tz.xfZ LD Tz.prog Tryz.prog Tz.oC rK W (ou _) (λf h=>h) f h8 c args t
  (λv A=>v=.bool true/\Go.Fi.Bel W.heap.size (Go.Fc.iI (@Go.Fc.Cc Tz.xfZ Tz.prog Tryz.prog) W) A) iP hf h4 h5 ⟨⟨h8,h1,h2,h6⟩,h7⟩ ?_ ha ?_ ?_
 .exactλh=>absurd (h.1.symm.trans hk) af
 .have h:=ht (λ_=>True) (Go.Fc.iI (@Go.Fc.Cc Tz.xfZ Tz.prog Tryz.prog) W) args trivial hlen (λj p v hp hv=>QB (h' j p v hp hv));rw[Go.Fc.xQ] at h;subst e2;refine Go.Fi.eT h (λe a' w' hq=>?_)
  have fin:∀(X:a'.defers=[]/\∀w1,Go.Fi.EnvD.E w' w1->∃v,(results h8 a'.tmps).run Tz.prog w1=.ok v w1/\∃v',Ending.returned v=.returned v'/\Go.Fi.Bel W.heap.size (Go.Fc.iI (@Go.Fc.Cc Tz.xfZ Tz.prog Tryz.prog) W) w1/\Go.Fi.Rep (λb=>(b<W.heap.size->True)/\(true=true->W.heap.size<=b)) w1 (.bool true) v'),
   a'.defers=[]/\∀w1,Go.Fi.EnvD.E w' w1->∃v,(results h8 a'.tmps).run Tz.prog w1=.ok v w1/\∃v',Ending.returned v=.returned v'/\v'=.bool true/\Go.Fi.Bel W.heap.size (Go.Fc.iI (@Go.Fc.Cc Tz.xfZ Tz.prog Tryz.prog) W) w1:=by
   rintro⟨hd,X⟩
   refine⟨hd,λw1 e1=>?_⟩;obtain⟨v,h1,v',h2,h3,h4⟩:=X w1 e1;refine⟨v,h1,v',h2,?_,h3⟩
   cases h4 with
   |bool=>rfl
  cases e with
  |normal=>exact fin hq
  |ret=>exact fin hq
  |_=>exact hq.elim
 .intro v A B S hv hh hd ho hp;obtain⟨rfl,hb⟩:=hv;exact h9 B (Go.Fc.TD hh hd ho hp hb)
end Go.Proofs.YthpkmilhiganjaaGreat
namespace Go.Proofs.YthpkmilhiganjaaGreat
open Go Go.Fi Go.RowKit Go.ChangeShapes Go.WideShapes Go.ChangeAt
theorem um:Tryz.prog.cellsOf 3=1:=aj
theorem HL:Tryz.prog.cellsOf 4=1:=aj
theorem HM:Tryz.prog.cellsOf 9=1:=aj
theorem QE:Tryz.prog.cellsOf 28=1:=aj
theorem QG:Tryz.prog.cellsOf 24=1:=aj
theorem HN:Tryz.prog.cellsOf 89=3:=aj
theorem HO:Tryz.prog.cellsOf 91=4:=aj
theorem HP:Tryz.prog.cellsOf 120=2:=aj
theorem QH:Tryz.prog.cellsOf 22=1:=aj
theorem QI:Tryz.prog.cellsOf 23=1:=aj
theorem QJ:Tryz.prog.cellsOf 25=1:=aj
theorem QK:Tryz.prog.cellsOf 27=4:=aj
abbrev cI(n:Int):List PV:=[.int .i64 n]
abbrev cB(b:Bool):List PV:=[.bool b]
abbrev cS(s:ByteArray):List PV:=[.str s]
abbrev cU(_:Unit):List PV:=[]
theorem rI:Reads Tryz.prog 3 cI:=Qv Tryz.underlying3
theorem rB:Reads Tryz.prog 4 cB:=Qx Tryz.underlying4
theorem rS:Reads Tryz.prog 9 cS:=Qw Tryz.underlying9
theorem HQ:∀l:List Int,l.flatMap cI=ints l
 |[]=>rfl
 |x::r=>by rw[pQ,HQ r];rfl
abbrev xS(l:List Int):List PV:=[.sl l.length (ints l)]
theorem HT:Reads Tryz.prog 28 xS:=xj (c:=λl:List Int=>[.sl l.length (l.flatMap cI)]) id (λl=>by simp only[id,xS];rw[HQ]) (uk Tryz.underlying28 um af (λ_=>rfl) rI)
theorem HU:∀l:List (List Int),l.flatMap xS=dH l
 |[]=>rfl
 |x::r=>by rw[pQ,HU r];rfl
theorem QL:Reads Tryz.prog 24 (λl:List (List Int)=>[.sl l.length (dH l)]):=xj (c:=λl:List (List Int)=>[.sl l.length (l.flatMap xS)]) id (λl=>by simp only[id];rw[HU]) (uk Tryz.underlying24 QE af (λ_=>rfl) HT)
abbrev cI1(y:Int×Unit):List PV:=cI y.1++cU y.2
abbrev cB1(y:Bool×Unit):List PV:=cB y.1++cU y.2
abbrev cC3(y:ByteArray×Int×Bool×Unit):List PV:=cS y.1++(cI y.2.1++cB1 y.2.2)
theorem QM:Reads Tryz.prog 89 cC3:=by
 refine BA Tryz.underlying89 HN ?_;exact lY (s:=1) (S:=2) (c:=cS) (c':=λy:Int×Bool×Unit=>cI y.1++cB1 y.2) rfl HM rS (lY (s:=1) (S:=1) (c:=cI) (c':=cB1) rfl um rI (lY (s:=1) (S:=0) (c:=cB) (c':=cU) rfl HL rB Bz))
theorem QN:Reads Tryz.prog 89 Tw.fA:=xj (c:=cC3) (λy=>(y.1,y.2.1,y.2.2.1)) (λ_=>rfl) QM
theorem QO:Reads Tryz.prog 22 (λl:List Car=>[.sl l.length (di l)]):=uk Tryz.underlying22 HN af (λ_=>rfl) QN
abbrev cO2(y:Bool×Int×Unit):List PV:=cB y.1++cI1 y.2
abbrev cO4(y:ByteArray×Int×Bool×Int×Unit):List PV:=cS y.1++(cI y.2.1++cO2 y.2.2)
theorem QP:Reads Tryz.prog 91 cO4:=by
 refine BA Tryz.underlying91 HO ?_
 exact lY (s:=1) (S:=3) (c:=cS) (c':=λy:Int×Bool×Int×Unit=>cI y.1++cO2 y.2) rfl HM rS (lY (s:=1) (S:=2) (c:=cI) (c':=cO2) rfl um rI
  (lY (s:=1) (S:=1) (c:=cB) (c':=cI1) rfl HL rB (lY (s:=1) (S:=0) (c:=cI) (c':=cU) rfl um rI Bz)))
theorem QQ:Reads Tryz.prog 91 Tw.eH:=xj (c:=cO4) (λy=>(y.1,y.2.1,y.2.2.1,y.2.2.2.1)) (λ_=>rfl) QP
theorem QR:Reads Tryz.prog 23 (λl:List Ord=>[.sl l.length (dh l)]):=uk Tryz.underlying23 HO af (λ_=>rfl) QQ
theorem QS:Reads Tryz.prog 120 Tw.eI:=Qz (c:=cI) Tryz.underlying120 um HP rI
theorem QT:Reads Tryz.prog 25 (λl:List Par=>[.sl l.length (dc l)]):=uk Tryz.underlying25 HP af (λ_=>rfl) QS
abbrev cR1(y:List Par×Unit):List PV:=[.sl y.1.length (dc y.1)]++cU y.2
abbrev cR2(y:List (List Int)×List Par×Unit):List PV:=[.sl y.1.length (dH y.1)]++cR1 y.2
abbrev cR3(y:List Ord×List (List Int)×List Par×Unit):List PV:=[.sl y.1.length (dh y.1)]++cR2 y.2
abbrev cR4(y:List Car×List Ord×List (List Int)×List Par×Unit):List PV:=[.sl y.1.length (di y.1)]++cR3 y.2
theorem QU:Reads Tryz.prog 27 cR4:=by
 refine BA Tryz.underlying27 QK ?_
 exact lY (s:=1) (S:=3) (c:=λl:List Car=>[.sl l.length (di l)]) (c':=cR3) rfl QH QO (lY (s:=1) (S:=2) (c:=λl:List Ord=>[.sl l.length (dh l)]) (c':=cR2) rfl QI QR
  (lY (s:=1) (S:=1) (c:=λl:List (List Int)=>[.sl l.length (dH l)]) (c':=cR1) rfl QG QL (lY (s:=1) (S:=0) (c:=λl:List Par=>[.sl l.length (dc l)]) (c':=cU) rfl QJ QT Bz)))
end Go.Proofs.YthpkmilhiganjaaGreat
