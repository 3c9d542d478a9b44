/- Lemmas. -/
import Derived.Test.YtmaaehaedfemaaaGreatProg
import Derived.Test.YtmaaehaedfemaaaGreatPMd
import Derived.KernelRfl
set_option linter.unusedSimpArgs false
set_option linter.unusedVariables false
set_option linter.unusedSectionVars false
set_option maxHeartbeats 32000000
set_option maxRecDepth 100000
namespace Go.Proofs.Tw
open Go
def keep(i:Nat):Bool:=i==41 || i==75
def ea(f:Func):Func:={ f with body:=some (.refuse "known by its contract alone"),name := "" }
noncomputable def prog:Program:={ Tryz.prog with funcs:=Tryz.prog.funcs.mapIdx fun i f=>if keep i then f else ea f }
@[simp] theorem call41(args:Array Value)(w:World):Sem.run prog (callFunc 41 args) w=.ok (.enter 41 args) w:=by kernel_rfl
@[simp] theorem MK(args:Array Value)(w:World)(es:Array Event):Sem.events prog (callFunc 41 args) w es=es:=by kernel_rfl
@[simp] theorem func41:prog.funcs[41]?=some Tryz.f41:=by kernel_rfl
@[simp] theorem call75(args:Array Value)(w:World):Sem.run prog (callFunc 75 args) w=.ok (.enter 75 args) w:=by kernel_rfl
@[simp] theorem ML(args:Array Value)(w:World)(es:Array Event):Sem.events prog (callFunc 75 args) w es=es:=by kernel_rfl
@[simp] theorem func75:prog.funcs[75]?=some Tryz.f75:=by kernel_rfl
@[simp] theorem eqGuardType98:prog.eqGuardType prog.depth 98=Bool.false:=by kernel_rfl
@[simp] theorem isAgg3:∀(w:Go.World),Go.Sem.run prog (Go.isAgg 3) w=Go.Result.ok Bool.false w:=by intro w;kernel_rfl
@[simp] theorem isAgg30:∀(w:Go.World),Go.Sem.run prog (Go.isAgg 30) w=Go.Result.ok Bool.false w:=by intro w;kernel_rfl
@[simp] theorem isAgg31:∀(w:Go.World),Go.Sem.run prog (Go.isAgg 31) w=Go.Result.ok Bool.false w:=by intro w;kernel_rfl
@[simp] theorem isAgg33:∀(w:Go.World),Go.Sem.run prog (Go.isAgg 33) w=Go.Result.ok Bool.false w:=by intro w;kernel_rfl
@[simp] theorem isAgg35:∀(w:Go.World),Go.Sem.run prog (Go.isAgg 35) w=Go.Result.ok Bool.true w:=by intro w;kernel_rfl
@[simp] theorem isAgg4:∀(w:Go.World),Go.Sem.run prog (Go.isAgg 4) w=Go.Result.ok Bool.false w:=by intro w;kernel_rfl
@[simp] theorem isAgg52:∀(w:Go.World),Go.Sem.run prog (Go.isAgg 52) w=Go.Result.ok Bool.false w:=by intro w;kernel_rfl
@[simp] theorem isAgg57:∀(w:Go.World),Go.Sem.run prog (Go.isAgg 57) w=Go.Result.ok Bool.true w:=by intro w;kernel_rfl
@[simp] theorem isAgg59:∀(w:Go.World),Go.Sem.run prog (Go.isAgg 59) w=Go.Result.ok Bool.true w:=by intro w;kernel_rfl
@[simp] theorem isAgg61:∀(w:Go.World),Go.Sem.run prog (Go.isAgg 61) w=Go.Result.ok Bool.false w:=by intro w;kernel_rfl
@[simp] theorem isAgg94:∀(w:Go.World),Go.Sem.run prog (Go.isAgg 94) w=Go.Result.ok Bool.true w:=by intro w;kernel_rfl
@[simp] theorem isAgg96:∀(w:Go.World),Go.Sem.run prog (Go.isAgg 96) w=Go.Result.ok Bool.false w:=by intro w;kernel_rfl
@[simp] theorem isAgg98:∀(w:Go.World),Go.Sem.run prog (Go.isAgg 98) w=Go.Result.ok Bool.true w:=by intro w;kernel_rfl
@[simp] theorem runUnderlying3:∀(w:Go.World),Go.Sem.run prog (Go.underlying 3) w=Go.Result.ok (Go.TypeDesc.int Go.IntKind.i64) w:=by intro w;kernel_rfl
@[simp] theorem runUnderlying35:∀(w:Go.World),Go.Sem.run prog (Go.underlying 35) w=Go.Result.ok (Go.TypeDesc.struct #[{ name := "Cars",type:=30,offset:=0,embedded:=Bool.false,tag := "",pkgPath := "",byteOffset:=0 },{ name := "Orders",type:=31,offset:=1,embedded:=Bool.false,tag := "",pkgPath := "",byteOffset:=24 },{ name := "Wait",type:=32,offset:=2,embedded:=Bool.false,tag := "",pkgPath := "",byteOffset:=48 },{ name := "Forbidden",type:=33,offset:=3,embedded:=Bool.false,tag := "",pkgPath := "",byteOffset:=72 }]) w:=by intro w;kernel_rfl
@[simp] theorem runUnderlying4:∀(w:Go.World),Go.Sem.run prog (Go.underlying 4) w=Go.Result.ok Go.TypeDesc.bool w:=by intro w;kernel_rfl
@[simp] theorem runUnderlying57:∀(w:Go.World),Go.Sem.run prog (Go.underlying 57) w=Go.Result.ok (Go.TypeDesc.struct #[{ name := "Name",type:=9,offset:=0,embedded:=Bool.false,tag := "",pkgPath := "",byteOffset:=0 },{ name := "Seats",type:=3,offset:=1,embedded:=Bool.false,tag := "",pkgPath := "",byteOffset:=16 },{ name := "Chair",type:=4,offset:=2,embedded:=Bool.false,tag := "",pkgPath := "",byteOffset:=24 }]) w:=by intro w;kernel_rfl
@[simp] theorem runUnderlying59:∀(w:Go.World),Go.Sem.run prog (Go.underlying 59) w=Go.Result.ok (Go.TypeDesc.struct #[{ name := "Name",type:=9,offset:=0,embedded:=Bool.false,tag := "",pkgPath := "",byteOffset:=0 },{ name := "Seats",type:=3,offset:=1,embedded:=Bool.false,tag := "",pkgPath := "",byteOffset:=16 },{ name := "Chair",type:=4,offset:=2,embedded:=Bool.false,tag := "",pkgPath := "",byteOffset:=24 },{ name := "Priority",type:=3,offset:=3,embedded:=Bool.false,tag := "",pkgPath := "",byteOffset:=32 }]) w:=by intro w;kernel_rfl
@[simp] theorem runUnderlying61:∀(w:Go.World),Go.Sem.run prog (Go.underlying 61) w=Go.Result.ok (Go.TypeDesc.slice 96) w:=by intro w;kernel_rfl
@[simp] theorem runUnderlying63:∀(w:Go.World),Go.Sem.run prog (Go.underlying 63) w=Go.Result.ok (Go.TypeDesc.struct #[{ name := "DispatchRound",type:=35,offset:=0,embedded:=Bool.true,tag := "",pkgPath := "",byteOffset:=0 },{ name := "fit",type:=61,offset:=4,embedded:=Bool.false,tag := "",pkgPath := "fiacre/dispatch",byteOffset:=96 }]) w:=by intro w;kernel_rfl
@[simp] theorem runUnderlying94:∀(w:Go.World),Go.Sem.run prog (Go.underlying 94) w=Go.Result.ok (Go.TypeDesc.struct #[{ name := "noCopy",type:=86,offset:=0,embedded:=Bool.false,tag := "",pkgPath := "sync",byteOffset:=0 },{ name := "state",type:=91,offset:=0,embedded:=Bool.false,tag := "",pkgPath := "sync",byteOffset:=0 },{ name := "sema",type:=92,offset:=1,embedded:=Bool.false,tag := "",pkgPath := "sync",byteOffset:=8 }]) w:=by intro w;kernel_rfl
@[simp] theorem runUnderlying96:∀(w:Go.World),Go.Sem.run prog (Go.underlying 96) w=Go.Result.ok (Go.TypeDesc.slice 4) w:=by intro w;kernel_rfl
@[simp] theorem runUnderlying98:∀(w:Go.World),Go.Sem.run prog (Go.underlying 98) w=Go.Result.ok (Go.TypeDesc.array 2 3) w:=by intro w;kernel_rfl
@[simp] theorem sizeOf3:∀(w:Go.World),Go.Sem.run prog (Go.sizeOf 3) w=Go.Result.ok 1 w:=by intro w;kernel_rfl
@[simp] theorem sizeOf30:∀(w:Go.World),Go.Sem.run prog (Go.sizeOf 30) w=Go.Result.ok 1 w:=by intro w;kernel_rfl
@[simp] theorem sizeOf31:∀(w:Go.World),Go.Sem.run prog (Go.sizeOf 31) w=Go.Result.ok 1 w:=by intro w;kernel_rfl
@[simp] theorem sizeOf33:∀(w:Go.World),Go.Sem.run prog (Go.sizeOf 33) w=Go.Result.ok 1 w:=by intro w;kernel_rfl
@[simp] theorem sizeOf35:∀(w:Go.World),Go.Sem.run prog (Go.sizeOf 35) w=Go.Result.ok 4 w:=by intro w;kernel_rfl
@[simp] theorem sizeOf4:∀(w:Go.World),Go.Sem.run prog (Go.sizeOf 4) w=Go.Result.ok 1 w:=by intro w;kernel_rfl
@[simp] theorem sizeOf52:∀(w:Go.World),Go.Sem.run prog (Go.sizeOf 52) w=Go.Result.ok 1 w:=by intro w;kernel_rfl
@[simp] theorem sizeOf57:∀(w:Go.World),Go.Sem.run prog (Go.sizeOf 57) w=Go.Result.ok 3 w:=by intro w;kernel_rfl
@[simp] theorem sizeOf59:∀(w:Go.World),Go.Sem.run prog (Go.sizeOf 59) w=Go.Result.ok 4 w:=by intro w;kernel_rfl
@[simp] theorem sizeOf61:∀(w:Go.World),Go.Sem.run prog (Go.sizeOf 61) w=Go.Result.ok 1 w:=by intro w;kernel_rfl
@[simp] theorem sizeOf94:∀(w:Go.World),Go.Sem.run prog (Go.sizeOf 94) w=Go.Result.ok 2 w:=by intro w;kernel_rfl
@[simp] theorem sizeOf96:∀(w:Go.World),Go.Sem.run prog (Go.sizeOf 96) w=Go.Result.ok 1 w:=by intro w;kernel_rfl
@[simp] theorem sizeOf98:∀(w:Go.World),Go.Sem.run prog (Go.sizeOf 98) w=Go.Result.ok 2 w:=by intro w;kernel_rfl
@[simp] theorem typeInfo96:∀(w:Go.World),Go.Sem.run prog (Go.typeInfo 96) w=Go.Result.ok Go.Proofs.Tryz.t96 w:=by intro w;kernel_rfl
@[simp] theorem underlying3:prog.underlying 3=Option.some (Go.TypeDesc.int Go.IntKind.i64):=by kernel_rfl
@[simp] theorem underlying30:prog.underlying 30=Option.some (Go.TypeDesc.slice 57):=by kernel_rfl
@[simp] theorem underlying31:prog.underlying 31=Option.some (Go.TypeDesc.slice 59):=by kernel_rfl
@[simp] theorem underlying33:prog.underlying 33=Option.some (Go.TypeDesc.slice 98):=by kernel_rfl
@[simp] theorem underlying4:prog.underlying 4=Option.some Go.TypeDesc.bool:=by kernel_rfl
@[simp] theorem underlying61:prog.underlying 61=Option.some (Go.TypeDesc.slice 96):=by kernel_rfl
@[simp] theorem underlying94:prog.underlying 94=Option.some (Go.TypeDesc.struct #[{ name := "noCopy",type:=86,offset:=0,embedded:=Bool.false,tag := "",pkgPath := "sync",byteOffset:=0 },{ name := "state",type:=91,offset:=0,embedded:=Bool.false,tag := "",pkgPath := "sync",byteOffset:=0 },{ name := "sema",type:=92,offset:=1,embedded:=Bool.false,tag := "",pkgPath := "sync",byteOffset:=8 }]):=by kernel_rfl
@[simp] theorem underlying96:prog.underlying 96=Option.some (Go.TypeDesc.slice 4):=by kernel_rfl
@[simp] theorem zeroValue3:∀(w:Go.World),Go.Sem.run prog (Go.zeroValue 3) w=Go.Result.ok (Go.Value.int Go.IntKind.i64 0) w:=by intro w;kernel_rfl
@[simp] theorem zeroValue4:∀(w:Go.World),Go.Sem.run prog (Go.zeroValue 4) w=Go.Result.ok (Go.Value.bool Bool.false) w:=by intro w;kernel_rfl
@[simp] theorem zeroValue52:∀(w:Go.World),Go.Sem.run prog (Go.zeroValue 52) w=Go.Result.ok (Go.Value.pointer Option.none) w:=by intro w;kernel_rfl
@[simp] theorem zeroValue57:∀(w:Go.World),Go.Sem.run prog (Go.zeroValue 57) w=Go.Result.ok (Go.Value.agg #[Go.Value.string { data:=#[] },Go.Value.int Go.IntKind.i64 0,Go.Value.bool Bool.false]) w:=by intro w;kernel_rfl
@[simp] theorem zeroValue59:∀(w:Go.World),Go.Sem.run prog (Go.zeroValue 59) w=Go.Result.ok (Go.Value.agg #[Go.Value.string { data:=#[] },Go.Value.int Go.IntKind.i64 0,Go.Value.bool Bool.false,Go.Value.int Go.IntKind.i64 0]) w:=by intro w;kernel_rfl
@[simp] theorem zeroValue63:∀(w:Go.World),Go.Sem.run prog (Go.zeroValue 63) w=Go.Result.ok (Go.Value.agg #[Go.Value.slice Option.none 0 0,Go.Value.slice Option.none 0 0,Go.Value.slice Option.none 0 0,Go.Value.slice Option.none 0 0,Go.Value.slice Option.none 0 0]) w:=by intro w;kernel_rfl
@[simp] theorem zeroValue94:∀(w:Go.World),Go.Sem.run prog (Go.zeroValue 94) w=Go.Result.ok (Go.Value.agg #[Go.Value.int Go.IntKind.u64 0,Go.Value.int Go.IntKind.u32 0]) w:=by intro w;kernel_rfl
@[simp] theorem zeroValue96:∀(w:Go.World),Go.Sem.run prog (Go.zeroValue 96) w=Go.Result.ok (Go.Value.slice Option.none 0 0) w:=by intro w;kernel_rfl
@[simp] theorem zeroValue98:∀(w:Go.World),Go.Sem.run prog (Go.zeroValue 98) w=Go.Result.ok (Go.Value.agg #[Go.Value.int Go.IntKind.i64 0,Go.Value.int Go.IntKind.i64 0]) w:=by intro w;kernel_rfl
end Go.Proofs.Tw
