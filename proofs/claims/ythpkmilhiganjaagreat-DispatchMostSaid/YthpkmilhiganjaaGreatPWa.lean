/- Lemmas. -/
import Derived.Test.YthpkmilhiganjaaGreatProg
import Derived.Test.YthpkmilhiganjaaGreatPMd
import Derived.KernelRfl
set_option linter.all false
set_option maxHeartbeats 32000000
set_option maxRecDepth 100000
namespace Go.Proofs.Tw
open Go
def keep(i:Nat):Bool:=i==107 || i==133
def gw(f:Func):Func:={ f with body:=some (.refuse "known by its contract alone"),name := "" }
noncomputable def prog:Program:={ Tryz.prog with funcs:=Tryz.prog.funcs.mapIdx λi f=>if keep i then f else gw f }
@[simp]theorem call107(args:Array Value)(w:World):Sem.run prog (callFunc 107 args) w=.ok (.enter 107 args) w:=aj
@[simp]theorem zbn(args:Array Value)(w:World)(es:Array Event):Sem.events prog (callFunc 107 args) w es=es:=aj
@[simp]theorem func107:prog.funcs[107]?=some Tryz.f107:=aj
@[simp]theorem call133(args:Array Value)(w:World):Sem.run prog (callFunc 133 args) w=.ok (.enter 133 args) w:=aj
@[simp]theorem zbo(args:Array Value)(w:World)(es:Array Event):Sem.events prog (callFunc 133 args) w es=es:=aj
@[simp]theorem func133:prog.funcs[133]?=some Tryz.f133:=aj
@[simp]theorem eqGuardType120:prog.eqGuardType prog.depth 120=Bool.false:=aj
@[simp]theorem isAgg103(w):Sem.run prog (isAgg 103) w=.ok false w:=aj
@[simp]theorem isAgg120(w):Sem.run prog (isAgg 120) w=.ok true w:=aj
@[simp]theorem isAgg136(w):Sem.run prog (isAgg 136) w=.ok false w:=aj
@[simp]theorem isAgg147(w):Sem.run prog (isAgg 147) w=.ok true w:=aj
@[simp]theorem isAgg22(w):Sem.run prog (isAgg 22) w=.ok false w:=aj
@[simp]theorem isAgg23(w):Sem.run prog (isAgg 23) w=.ok false w:=aj
@[simp]theorem isAgg25(w):Sem.run prog (isAgg 25) w=.ok false w:=aj
@[simp]theorem isAgg27(w):Sem.run prog (isAgg 27) w=.ok true w:=aj
@[simp]theorem isAgg3(w):Sem.run prog (isAgg 3) w=.ok false w:=aj
@[simp]theorem isAgg4(w):Sem.run prog (isAgg 4) w=.ok false w:=aj
@[simp]theorem isAgg89(w):Sem.run prog (isAgg 89) w=.ok true w:=aj
@[simp]theorem isAgg91(w):Sem.run prog (isAgg 91) w=.ok true w:=aj
@[simp]theorem isAgg92(w):Sem.run prog (isAgg 92) w=.ok false w:=aj
@[simp]theorem runUnderlying103(w):Sem.run prog (underlying 103) w=.ok (Go.TypeDesc.slice 136) w:=aj
@[simp]theorem runUnderlying105(w):Sem.run prog (underlying 105) w=.ok (Go.TypeDesc.struct #[{ name := "DispatchRound",type:=27,offset:=0,embedded:=Bool.true,tag := "",pkgPath := "",byteOffset:=0 },{ name := "fit",type:=103,offset:=4,embedded:=Bool.false,tag := "",pkgPath := "fiacre/dispatch",byteOffset:=96 }]) w:=aj
@[simp]theorem runUnderlying120(w):Sem.run prog (underlying 120) w=.ok (Go.TypeDesc.array 2 3) w:=aj
@[simp]theorem runUnderlying136(w):Sem.run prog (underlying 136) w=.ok (Go.TypeDesc.slice 4) w:=aj
@[simp]theorem runUnderlying147(w):Sem.run prog (underlying 147) w=.ok (Go.TypeDesc.struct #[{ name := "noCopy",type:=139,offset:=0,embedded:=Bool.false,tag := "",pkgPath := "sync",byteOffset:=0 },{ name := "state",type:=144,offset:=0,embedded:=Bool.false,tag := "",pkgPath := "sync",byteOffset:=0 },{ name := "sema",type:=145,offset:=1,embedded:=Bool.false,tag := "",pkgPath := "sync",byteOffset:=8 }]) w:=aj
@[simp]theorem runUnderlying27(w):Sem.run prog (underlying 27) w=.ok (Go.TypeDesc.struct #[{ name := "Cars",type:=22,offset:=0,embedded:=Bool.false,tag := "",pkgPath := "",byteOffset:=0 },{ name := "Orders",type:=23,offset:=1,embedded:=Bool.false,tag := "",pkgPath := "",byteOffset:=24 },{ name := "Wait",type:=24,offset:=2,embedded:=Bool.false,tag := "",pkgPath := "",byteOffset:=48 },{ name := "Forbidden",type:=25,offset:=3,embedded:=Bool.false,tag := "",pkgPath := "",byteOffset:=72 }]) w:=aj
@[simp]theorem runUnderlying3(w):Sem.run prog (underlying 3) w=.ok (Go.TypeDesc.int Go.IntKind.i64) w:=aj
@[simp]theorem runUnderlying4(w):Sem.run prog (underlying 4) w=.ok Go.TypeDesc.bool w:=aj
@[simp]theorem runUnderlying89(w):Sem.run prog (underlying 89) w=.ok (Go.TypeDesc.struct #[{ name := "Name",type:=9,offset:=0,embedded:=Bool.false,tag := "",pkgPath := "",byteOffset:=0 },{ name := "Seats",type:=3,offset:=1,embedded:=Bool.false,tag := "",pkgPath := "",byteOffset:=16 },{ name := "Chair",type:=4,offset:=2,embedded:=Bool.false,tag := "",pkgPath := "",byteOffset:=24 }]) w:=aj
@[simp]theorem runUnderlying91(w):Sem.run prog (underlying 91) w=.ok (Go.TypeDesc.struct #[{ name := "Name",type:=9,offset:=0,embedded:=Bool.false,tag := "",pkgPath := "",byteOffset:=0 },{ name := "Seats",type:=3,offset:=1,embedded:=Bool.false,tag := "",pkgPath := "",byteOffset:=16 },{ name := "Chair",type:=4,offset:=2,embedded:=Bool.false,tag := "",pkgPath := "",byteOffset:=24 },{ name := "Priority",type:=3,offset:=3,embedded:=Bool.false,tag := "",pkgPath := "",byteOffset:=32 }]) w:=aj
@[simp]theorem sizeOf103(w):Sem.run prog (sizeOf 103) w=.ok 1 w:=aj
@[simp]theorem sizeOf120(w):Sem.run prog (sizeOf 120) w=.ok 2 w:=aj
@[simp]theorem sizeOf136(w):Sem.run prog (sizeOf 136) w=.ok 1 w:=aj
@[simp]theorem sizeOf147(w):Sem.run prog (sizeOf 147) w=.ok 2 w:=aj
@[simp]theorem sizeOf22(w):Sem.run prog (sizeOf 22) w=.ok 1 w:=aj
@[simp]theorem sizeOf23(w):Sem.run prog (sizeOf 23) w=.ok 1 w:=aj
@[simp]theorem sizeOf25(w):Sem.run prog (sizeOf 25) w=.ok 1 w:=aj
@[simp]theorem sizeOf27(w):Sem.run prog (sizeOf 27) w=.ok 4 w:=aj
@[simp]theorem sizeOf3(w):Sem.run prog (sizeOf 3) w=.ok 1 w:=aj
@[simp]theorem sizeOf4(w):Sem.run prog (sizeOf 4) w=.ok 1 w:=aj
@[simp]theorem sizeOf89(w):Sem.run prog (sizeOf 89) w=.ok 3 w:=aj
@[simp]theorem sizeOf91(w):Sem.run prog (sizeOf 91) w=.ok 4 w:=aj
@[simp]theorem sizeOf92(w):Sem.run prog (sizeOf 92) w=.ok 1 w:=aj
@[simp]theorem typeInfo136(w):Sem.run prog (typeInfo 136) w=.ok Go.Proofs.Tryz.t136 w:=aj
@[simp]theorem underlying103:prog.underlying 103=Option.some (Go.TypeDesc.slice 136):=aj
@[simp]theorem underlying120:prog.underlying 120=Option.some (Go.TypeDesc.array 2 3):=aj
@[simp]theorem underlying136:prog.underlying 136=Option.some (Go.TypeDesc.slice 4):=aj
@[simp]theorem underlying147:prog.underlying 147=Option.some (Go.TypeDesc.struct #[{ name := "noCopy",type:=139,offset:=0,embedded:=Bool.false,tag := "",pkgPath := "sync",byteOffset:=0 },{ name := "state",type:=144,offset:=0,embedded:=Bool.false,tag := "",pkgPath := "sync",byteOffset:=0 },{ name := "sema",type:=145,offset:=1,embedded:=Bool.false,tag := "",pkgPath := "sync",byteOffset:=8 }]):=aj
@[simp]theorem underlying22:prog.underlying 22=Option.some (Go.TypeDesc.slice 89):=aj
@[simp]theorem underlying23:prog.underlying 23=Option.some (Go.TypeDesc.slice 91):=aj
@[simp]theorem underlying25:prog.underlying 25=Option.some (Go.TypeDesc.slice 120):=aj
@[simp]theorem underlying27:prog.underlying 27=Option.some (Go.TypeDesc.struct #[{ name := "Cars",type:=22,offset:=0,embedded:=Bool.false,tag := "",pkgPath := "",byteOffset:=0 },{ name := "Orders",type:=23,offset:=1,embedded:=Bool.false,tag := "",pkgPath := "",byteOffset:=24 },{ name := "Wait",type:=24,offset:=2,embedded:=Bool.false,tag := "",pkgPath := "",byteOffset:=48 },{ name := "Forbidden",type:=25,offset:=3,embedded:=Bool.false,tag := "",pkgPath := "",byteOffset:=72 }]):=aj
@[simp]theorem underlying3:prog.underlying 3=Option.some (Go.TypeDesc.int Go.IntKind.i64):=aj
@[simp]theorem underlying4:prog.underlying 4=Option.some Go.TypeDesc.bool:=aj
@[simp]theorem underlying89:prog.underlying 89=Option.some (Go.TypeDesc.struct #[{ name := "Name",type:=9,offset:=0,embedded:=Bool.false,tag := "",pkgPath := "",byteOffset:=0 },{ name := "Seats",type:=3,offset:=1,embedded:=Bool.false,tag := "",pkgPath := "",byteOffset:=16 },{ name := "Chair",type:=4,offset:=2,embedded:=Bool.false,tag := "",pkgPath := "",byteOffset:=24 }]):=aj
@[simp]theorem underlying91:prog.underlying 91=Option.some (Go.TypeDesc.struct #[{ name := "Name",type:=9,offset:=0,embedded:=Bool.false,tag := "",pkgPath := "",byteOffset:=0 },{ name := "Seats",type:=3,offset:=1,embedded:=Bool.false,tag := "",pkgPath := "",byteOffset:=16 },{ name := "Chair",type:=4,offset:=2,embedded:=Bool.false,tag := "",pkgPath := "",byteOffset:=24 },{ name := "Priority",type:=3,offset:=3,embedded:=Bool.false,tag := "",pkgPath := "",byteOffset:=32 }]):=aj
@[simp]theorem zeroValue105(w):Sem.run prog (zeroValue 105) w=.ok (Go.Value.agg #[Go.Value.slice Option.none 0 0,Go.Value.slice Option.none 0 0,Go.Value.slice Option.none 0 0,Go.Value.slice Option.none 0 0,Go.Value.slice Option.none 0 0]) w:=aj
@[simp]theorem zeroValue136(w):Sem.run prog (zeroValue 136) w=.ok (Go.Value.slice Option.none 0 0) w:=aj
@[simp]theorem zeroValue147(w):Sem.run prog (zeroValue 147) w=.ok (Go.Value.agg #[Go.Value.int Go.IntKind.u64 0,Go.Value.int Go.IntKind.u32 0]) w:=aj
@[simp]theorem zeroValue3(w):Sem.run prog (zeroValue 3) w=.ok (Go.Value.int Go.IntKind.i64 0) w:=aj
@[simp]theorem zeroValue4(w):Sem.run prog (zeroValue 4) w=.ok (Go.Value.bool Bool.false) w:=aj
@[simp]theorem zeroValue89(w):Sem.run prog (zeroValue 89) w=.ok (Go.Value.agg #[Go.Value.string { data:=#[] },Go.Value.int Go.IntKind.i64 0,Go.Value.bool Bool.false]) w:=aj
@[simp]theorem zeroValue91(w):Sem.run prog (zeroValue 91) w=.ok (Go.Value.agg #[Go.Value.string { data:=#[] },Go.Value.int Go.IntKind.i64 0,Go.Value.bool Bool.false,Go.Value.int Go.IntKind.i64 0]) w:=aj
end Go.Proofs.Tw
