/- Lemmas. -/
import Derived.Test.YtmaaehaedfemaaaGreatProg
import Derived.Conc.WgGenN3
import Derived.KernelRfl
set_option linter.unusedSimpArgs false
set_option linter.unusedVariables false
set_option linter.unusedSectionVars false
set_option maxHeartbeats 32000000
set_option maxRecDepth 100000
namespace Go.Proofs.Tw
open Go
abbrev link:Go.Conc.Lib.WgLink:={ add:=38,done:=40,wait:=42,relMerge:=62,disable:=63,enable:=64,inBubble:=65,associate:=66,fatal:=67,uOr:=68,uAdd:=69,raceRead:=70,uLoad:=71,uStore:=72,disassociate:=73,semrelease:=74,acquire:=76,isAssociated:=77,uCas:=78,raceWrite:=79,semacquire:=80,orU64:=101,addU64:=102,loadU64:=103,storeU64:=104,casU64:=105,tWgP:=119,tUP:=121,tAssoc:=122,tWg:=94,tAU:=91,tU64:=89,tUint:=99,tU32:=92,tPU32:=126,tPAU:=155,tPU64:=157,tNoCopy:=86,tANoCopy:=87,tAlign64:=88 }
theorem na:Go.Conc.Lib.WgLib Tryz.prog link:=
 ⟨Tryz.func38,Tryz.func40,Tryz.func42,Tryz.func62,Tryz.func63,Tryz.func64,Tryz.func65,Tryz.func66,Tryz.func67,Tryz.func68,Tryz.func69,Tryz.func70,Tryz.func71,Tryz.func72,Tryz.func73,Tryz.func74,Tryz.func76,Tryz.func77,Tryz.func78,Tryz.func79,Tryz.func80,Tryz.func101,Tryz.func102,Tryz.func103,Tryz.func104,Tryz.func105,Tryz.underlying119,Tryz.runUnderlying119,Tryz.sizeOf119,Tryz.isAgg119,Tryz.zeroValue119,Tryz.underlying121,Tryz.runUnderlying121,Tryz.sizeOf121,Tryz.isAgg121,Tryz.zeroValue121,Tryz.underlying122,Tryz.runUnderlying122,Tryz.sizeOf122,Tryz.isAgg122,Tryz.zeroValue122,Tryz.underlying94,Tryz.runUnderlying94,Tryz.sizeOf94,Tryz.isAgg94,Tryz.zeroValue94,Tryz.underlying91,Tryz.runUnderlying91,Tryz.sizeOf91,Tryz.isAgg91,Tryz.zeroValue91,Tryz.underlying89,Tryz.runUnderlying89,Tryz.sizeOf89,Tryz.isAgg89,Tryz.zeroValue89,Tryz.underlying99,Tryz.runUnderlying99,Tryz.sizeOf99,Tryz.isAgg99,Tryz.zeroValue99,Tryz.underlying92,Tryz.runUnderlying92,Tryz.sizeOf92,Tryz.isAgg92,Tryz.zeroValue92,Tryz.underlying126,Tryz.runUnderlying126,Tryz.sizeOf126,Tryz.isAgg126,Tryz.zeroValue126,Tryz.underlying155,Tryz.runUnderlying155,Tryz.sizeOf155,Tryz.isAgg155,Tryz.zeroValue155,Tryz.underlying157,Tryz.runUnderlying157,Tryz.sizeOf157,Tryz.isAgg157,Tryz.zeroValue157,Tryz.underlying0,Tryz.runUnderlying0,Tryz.sizeOf0,Tryz.isAgg0,Tryz.zeroValue0,Tryz.underlying3,Tryz.runUnderlying3,Tryz.sizeOf3,Tryz.isAgg3,Tryz.zeroValue3,Tryz.underlying4,Tryz.runUnderlying4,Tryz.sizeOf4,Tryz.isAgg4,Tryz.zeroValue4,Tryz.underlying9,Tryz.runUnderlying9,Tryz.sizeOf9,Tryz.isAgg9,Tryz.zeroValue9,Tryz.underlying20,Tryz.runUnderlying20,Tryz.sizeOf20,Tryz.isAgg20,Tryz.zeroValue20,Tryz.underlying21,Tryz.runUnderlying21,Tryz.sizeOf21,Tryz.isAgg21,Tryz.zeroValue21,(by kernel_rfl),(by kernel_rfl)⟩
end Go.Proofs.Tw
