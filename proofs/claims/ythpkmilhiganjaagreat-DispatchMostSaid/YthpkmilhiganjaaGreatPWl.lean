/- Lemmas. -/
import Derived.Test.YthpkmilhiganjaaGreatPAa
import Derived.Test.YthpkmilhiganjaaGreatProg
import Derived.Conc.WgGenN3
import Derived.KernelRfl
set_option linter.all false
set_option maxHeartbeats 32000000
set_option maxRecDepth 100000
namespace Go.Proofs.Tw
open Go
abbrev link:Go.Conc.Lib.WgLink:={ add:=112,done:=114,wait:=115,relMerge:=135,disable:=136,enable:=137,inBubble:=138,associate:=139,fatal:=140,uOr:=141,uAdd:=142,raceRead:=143,uLoad:=144,uStore:=145,disassociate:=146,semrelease:=147,acquire:=148,isAssociated:=149,uCas:=150,raceWrite:=151,semacquire:=152,orU64:=169,addU64:=170,loadU64:=171,storeU64:=172,casU64:=173,tWgP:=167,tUP:=169,tAssoc:=170,tWg:=147,tAU:=144,tU64:=142,tUint:=150,tU32:=145,tPU32:=174,tPAU:=199,tPU64:=201,tNoCopy:=139,tANoCopy:=140,tAlign64:=141 }
theorem qU:Go.Conc.Lib.WgLib Tryz.prog link:=
 ⟨Tryz.func112,Tryz.func114,Tryz.func115,Tryz.func135,Tryz.func136,Tryz.func137,Tryz.func138,Tryz.func139,Tryz.func140,Tryz.func141,Tryz.func142,Tryz.func143,Tryz.func144,Tryz.func145,Tryz.func146,Tryz.func147,Tryz.func148,Tryz.func149,Tryz.func150,Tryz.func151,Tryz.func152,Tryz.func169,Tryz.func170,Tryz.func171,Tryz.func172,Tryz.func173,Tryz.underlying167,Tryz.runUnderlying167,Tryz.sizeOf167,Tryz.isAgg167,Tryz.zeroValue167,Tryz.underlying169,Tryz.runUnderlying169,Tryz.sizeOf169,Tryz.isAgg169,Tryz.zeroValue169,Tryz.underlying170,Tryz.runUnderlying170,Tryz.sizeOf170,Tryz.isAgg170,Tryz.zeroValue170,Tryz.underlying147,Tryz.runUnderlying147,Tryz.sizeOf147,Tryz.isAgg147,Tryz.zeroValue147,Tryz.underlying144,Tryz.runUnderlying144,Tryz.sizeOf144,Tryz.isAgg144,Tryz.zeroValue144,Tryz.underlying142,Tryz.runUnderlying142,Tryz.sizeOf142,Tryz.isAgg142,Tryz.zeroValue142,Tryz.underlying150,Tryz.runUnderlying150,Tryz.sizeOf150,Tryz.isAgg150,Tryz.zeroValue150,Tryz.underlying145,Tryz.runUnderlying145,Tryz.sizeOf145,Tryz.isAgg145,Tryz.zeroValue145,Tryz.underlying174,Tryz.runUnderlying174,Tryz.sizeOf174,Tryz.isAgg174,Tryz.zeroValue174,Tryz.underlying199,Tryz.runUnderlying199,Tryz.sizeOf199,Tryz.isAgg199,Tryz.zeroValue199,Tryz.underlying201,Tryz.runUnderlying201,Tryz.sizeOf201,Tryz.isAgg201,Tryz.zeroValue201,Tryz.underlying0,Tryz.runUnderlying0,Tryz.sizeOf0,Tryz.isAgg0,Tryz.zeroValue0,Tryz.underlying3,Tryz.runUnderlying3,Tryz.sizeOf3,Tryz.isAgg3,Tryz.zeroValue3,Tryz.underlying4,Tryz.runUnderlying4,Tryz.sizeOf4,Tryz.isAgg4,Tryz.zeroValue4,Tryz.underlying9,Tryz.runUnderlying9,Tryz.sizeOf9,Tryz.isAgg9,Tryz.zeroValue9,Tryz.underlying20,Tryz.runUnderlying20,Tryz.sizeOf20,Tryz.isAgg20,Tryz.zeroValue20,Tryz.underlying21,Tryz.runUnderlying21,Tryz.sizeOf21,Tryz.isAgg21,Tryz.zeroValue21,aj,aj⟩
end Go.Proofs.Tw
