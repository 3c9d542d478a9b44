/- Lemmas. -/
import Derived.Test.YtmaaehaedfemaaaGreatPWz
import Derived.Test.YtmaaehaedfemaaaGreatPLd
import Derived.KernelRfl
set_option linter.unusedSimpArgs false
set_option linter.unusedVariables false
set_option linter.unusedSectionVars false
set_option maxHeartbeats 32000000
set_option maxRecDepth 100000
namespace Go.Proofs.YtmaaehaedfemaaaGreat
open Go Go.Fi
@[simp] theorem XO:tyL Go.Proofs.Tz.prog 3=some (1,false):=by kernel_rfl
@[simp] theorem Sr:cf Go.Proofs.Tz.prog 3=some [.w false false (.int .i64 (0))]:=by kernel_rfl
@[simp] theorem Ss:lI Go.Proofs.Tz.prog 3=some .i64:=by kernel_rfl
@[simp] theorem Su:jh Go.Proofs.Tz.prog 3=none:=by kernel_rfl
@[simp] theorem XP:tyL Go.Proofs.Tz.prog 4=some (1,false):=by kernel_rfl
@[simp] theorem Sv:cf Go.Proofs.Tz.prog 4=some [.w false false (.bool false)]:=by kernel_rfl
@[simp] theorem XQ:tyL Go.Proofs.Tz.prog 5=some (1,false):=by kernel_rfl
@[simp] theorem Sw:lI Go.Proofs.Tz.prog 5=some .u8:=by kernel_rfl
@[simp] theorem Sx:jh Go.Proofs.Tz.prog 5=none:=by kernel_rfl
@[simp] theorem XR:tyL Go.Proofs.Tz.prog 9=some (1,false):=by kernel_rfl
@[simp] theorem Sy:isStr Go.Proofs.Tz.prog 9=true:=by kernel_rfl
@[simp] theorem Sz:jh Go.Proofs.Tz.prog 9=none:=by kernel_rfl
@[simp] theorem SB:tyL Go.Proofs.Tz.prog 23=some (1,false):=by kernel_rfl
@[simp] theorem SC:cf Go.Proofs.Tz.prog 23=some [.w false false (.int .i64 (0))]:=by kernel_rfl
@[simp] theorem SD:jh Go.Proofs.Tz.prog 23=none:=by kernel_rfl
@[simp] theorem SE:tyL Go.Proofs.Tz.prog 30=some (1,false):=by kernel_rfl
@[simp] theorem SF:slE Go.Proofs.Tz.prog 30=some (57,3):=by kernel_rfl
@[simp] theorem SG:byE Go.Proofs.Tz.prog 57=some 32:=by kernel_rfl
@[simp] theorem SH:tyL Go.Proofs.Tz.prog 31=some (1,false):=by kernel_rfl
@[simp] theorem SI:slE Go.Proofs.Tz.prog 31=some (59,4):=by kernel_rfl
@[simp] theorem SJ:byE Go.Proofs.Tz.prog 59=some 40:=by kernel_rfl
@[simp] theorem SK:tyL Go.Proofs.Tz.prog 32=some (1,false):=by kernel_rfl
@[simp] theorem SL:slE Go.Proofs.Tz.prog 32=some (37,1):=by kernel_rfl
@[simp] theorem SN:byE Go.Proofs.Tz.prog 37=some 24:=by kernel_rfl
@[simp] theorem SO:tyL Go.Proofs.Tz.prog 33=some (1,false):=by kernel_rfl
@[simp] theorem SP:slE Go.Proofs.Tz.prog 33=some (98,2):=by kernel_rfl
@[simp] theorem SQ:byE Go.Proofs.Tz.prog 98=some 16:=by kernel_rfl
@[simp] theorem SR:tyL Go.Proofs.Tz.prog 35=some (4,true):=by kernel_rfl
@[simp] theorem SS:cf Go.Proofs.Tz.prog 35=some [.w true true (.sl 0 []),.w true true (.sl 0 []),.w true true (.sl 0 []),.w true true (.sl 0 [])]:=by kernel_rfl
@[simp] theorem SU:fOf Go.Proofs.Tz.prog 35 0=some (0,1,false):=by kernel_rfl
@[simp] theorem SV:fOf Go.Proofs.Tz.prog 35 1=some (1,1,false):=by kernel_rfl
@[simp] theorem SW:fOf Go.Proofs.Tz.prog 35 2=some (2,1,false):=by kernel_rfl
@[simp] theorem SX:fOf Go.Proofs.Tz.prog 35 3=some (3,1,false):=by kernel_rfl
@[simp] theorem SY:pls Go.Proofs.Tz.prog 35=some [(0,1),(1,1),(2,1),(3,1)]:=by kernel_rfl
@[simp] theorem SZ:tyL Go.Proofs.Tz.prog 37=some (1,false):=by kernel_rfl
@[simp] theorem S1:cf Go.Proofs.Tz.prog 37=some [.w true true (.sl 0 [])]:=by kernel_rfl
@[simp] theorem S3:slE Go.Proofs.Tz.prog 37=some (3,1):=by kernel_rfl
@[simp] theorem XS:byE Go.Proofs.Tz.prog 3=some 8:=by kernel_rfl
@[simp] theorem S4:cf Go.Proofs.Tz.prog 39=some [.w true true (.sl 0 []),.w true true (.sl 0 [])]:=by kernel_rfl
@[simp] theorem S5:fOf Go.Proofs.Tz.prog 39 0=some (0,1,false):=by kernel_rfl
@[simp] theorem S6:fOf Go.Proofs.Tz.prog 39 1=some (1,1,false):=by kernel_rfl
@[simp] theorem S7:pls Go.Proofs.Tz.prog 39=some [(0,1),(1,1)]:=by kernel_rfl
@[simp] theorem S8:tyL Go.Proofs.Tz.prog 41=some (4,true):=by kernel_rfl
@[simp] theorem Ta:cf Go.Proofs.Tz.prog 41=some [.w true true (.sl 0 []),.w false false (.int .i64 (0)),.w true true (.sl 0 []),.w true true (.sl 0 [])]:=by kernel_rfl
@[simp] theorem Tb:fOf Go.Proofs.Tz.prog 41 0=some (0,1,false):=by kernel_rfl
@[simp] theorem Tc:fOf Go.Proofs.Tz.prog 41 1=some (1,1,false):=by kernel_rfl
@[simp] theorem Td:fOf Go.Proofs.Tz.prog 41 2=some (2,2,true):=by kernel_rfl
@[simp] theorem Te:tyL Go.Proofs.Tz.prog 52=some (1,false):=by kernel_rfl
@[simp] theorem Tf:cf Go.Proofs.Tz.prog 52=some [.w true false .dQ]:=by kernel_rfl
@[simp] theorem Tg:tyL Go.Proofs.Tz.prog 57=some (3,true):=by kernel_rfl
@[simp] theorem Ti:cf Go.Proofs.Tz.prog 57=some [.w false false (.str ByteArray.empty),.w false false (.int .i64 (0)),.w false false (.bool false)]:=by kernel_rfl
@[simp] theorem Tj:fOf Go.Proofs.Tz.prog 57 0=some (0,1,false):=by kernel_rfl
@[simp] theorem Tk:fOf Go.Proofs.Tz.prog 57 1=some (1,1,false):=by kernel_rfl
@[simp] theorem Tl:pls Go.Proofs.Tz.prog 57=some [(0,1),(1,1),(2,1)]:=by kernel_rfl
@[simp] theorem Tm:tyL Go.Proofs.Tz.prog 59=some (4,true):=by kernel_rfl
@[simp] theorem Tn:cf Go.Proofs.Tz.prog 59=some [.w false false (.str ByteArray.empty),.w false false (.int .i64 (0)),.w false false (.bool false),.w false false (.int .i64 (0))]:=by kernel_rfl
@[simp] theorem To:fOf Go.Proofs.Tz.prog 59 0=some (0,1,false):=by kernel_rfl
@[simp] theorem Tp:fOf Go.Proofs.Tz.prog 59 1=some (1,1,false):=by kernel_rfl
@[simp] theorem Tq:fOf Go.Proofs.Tz.prog 59 3=some (3,1,false):=by kernel_rfl
@[simp] theorem Ts:pls Go.Proofs.Tz.prog 59=some [(0,1),(1,1),(2,1),(3,1)]:=by kernel_rfl
@[simp] theorem Tt:tyL Go.Proofs.Tz.prog 61=some (1,false):=by kernel_rfl
@[simp] theorem Tu:slE Go.Proofs.Tz.prog 61=some (96,1):=by kernel_rfl
@[simp] theorem Tx:fOf Go.Proofs.Tz.prog 63 0=some (0,4,true):=by kernel_rfl
@[simp] theorem Ty:fOf Go.Proofs.Tz.prog 63 1=some (4,1,false):=by kernel_rfl
@[simp] theorem TA:cf Go.Proofs.Tz.prog 69=some [.w true true (.sl 0 []),.w true true (.sl 0 []),.w true true (.sl 0 []),.w true true (.sl 0 []),.w true true (.sl 0 [])]:=by kernel_rfl
@[simp] theorem TB:fOf Go.Proofs.Tz.prog 69 0=some (0,1,false):=by kernel_rfl
@[simp] theorem TC:fOf Go.Proofs.Tz.prog 69 1=some (1,1,false):=by kernel_rfl
@[simp] theorem TD:fOf Go.Proofs.Tz.prog 69 2=some (2,1,false):=by kernel_rfl
@[simp] theorem TE:fOf Go.Proofs.Tz.prog 69 3=some (3,1,false):=by kernel_rfl
@[simp] theorem TF:fOf Go.Proofs.Tz.prog 69 4=some (4,1,false):=by kernel_rfl
@[simp] theorem TG:pls Go.Proofs.Tz.prog 69=some [(0,1),(1,1),(2,1),(3,1),(4,1)]:=by kernel_rfl
@[simp] theorem TH:lI Go.Proofs.Tz.prog 89=some .u64:=by kernel_rfl
@[simp] theorem TI:jh Go.Proofs.Tz.prog 89=none:=by kernel_rfl
@[simp] theorem TJ:tyL Go.Proofs.Tz.prog 96=some (1,false):=by kernel_rfl
@[simp] theorem TK:slE Go.Proofs.Tz.prog 96=some (4,1):=by kernel_rfl
@[simp] theorem XT:byE Go.Proofs.Tz.prog 4=some 1:=by kernel_rfl
@[simp] theorem TL:tyL Go.Proofs.Tz.prog 98=some (2,true):=by kernel_rfl
@[simp] theorem TM:cf Go.Proofs.Tz.prog 98=some [.w false false (.int .i64 (0)),.w false false (.int .i64 (0))]:=by kernel_rfl
@[simp] theorem TO:slE Go.Proofs.Tz.prog 98=none:=by kernel_rfl
@[simp] theorem TP:arE Go.Proofs.Tz.prog 98=some (2,1):=by kernel_rfl
@[simp] theorem TR:pls Go.Proofs.Tz.prog 98=some [(0,1),(1,1)]:=by kernel_rfl
@[simp] theorem TT:jh Go.Proofs.Tz.prog 98=some [1,1]:=by kernel_rfl
@[simp] theorem TU:lI Go.Proofs.Tz.prog 99=some .u64:=by kernel_rfl
@[simp] theorem TV:jh Go.Proofs.Tz.prog 99=none:=by kernel_rfl
@[simp] theorem TW:slE Go.Proofs.Tz.prog 102=some (23,1):=by kernel_rfl
@[simp] theorem TX:tyL Go.Proofs.Tz.prog 105=some (1,false):=by kernel_rfl
@[simp] theorem TY:tyL Go.Proofs.Tz.prog 110=some (1,false):=by kernel_rfl
@[simp] theorem TZ:tyL Go.Proofs.Tz.prog 111=some (1,false):=by kernel_rfl
@[simp] theorem T0:tyL Go.Proofs.Tz.prog 114=some (1,false):=by kernel_rfl
@[simp] theorem T3:tyL Go.Proofs.Tz.prog 117=some (1,false):=by kernel_rfl
@[simp] theorem T4:slE Go.Proofs.Tz.prog 167=some (5,1):=by kernel_rfl
@[simp] theorem T5:oD Go.Proofs.Tz.prog 9 167=true:=by kernel_rfl
end Go.Proofs.YtmaaehaedfemaaaGreat
