/- Lemmas. -/
import Derived.Test.YthpkmilhiganjaaGreatPWz
import Derived.Test.YthpkmilhiganjaaGreatPLd
import Derived.KernelRfl
set_option linter.unusedSimpArgs false
set_option linter.unusedVariables false
set_option linter.unusedSectionVars false
set_option maxHeartbeats 32000000
set_option maxRecDepth 100000
namespace Go.Proofs.YthpkmilhiganjaaGreat
open Go Go.Fi
@[simp] theorem X3:tyL Go.Proofs.Tz.prog 3=some (1,false):=by kernel_rfl
@[simp] theorem SH:cL Go.Proofs.Tz.prog 3=some [.w false false (.int .i64 (0))]:=by kernel_rfl
@[simp] theorem SI:lQ Go.Proofs.Tz.prog 3=some .i64:=by kernel_rfl
@[simp] theorem SJ:gG Go.Proofs.Tz.prog 3=none:=by kernel_rfl
@[simp] theorem X4:tyL Go.Proofs.Tz.prog 4=some (1,false):=by kernel_rfl
@[simp] theorem SK:cL Go.Proofs.Tz.prog 4=some [.w false false (.bool false)]:=by kernel_rfl
@[simp] theorem SL:isBool Go.Proofs.Tz.prog 4=true:=by kernel_rfl
@[simp] theorem SN:gG Go.Proofs.Tz.prog 4=none:=by kernel_rfl
@[simp] theorem X5:tyL Go.Proofs.Tz.prog 5=some (1,false):=by kernel_rfl
@[simp] theorem SO:lQ Go.Proofs.Tz.prog 5=some .u8:=by kernel_rfl
@[simp] theorem SP:gG Go.Proofs.Tz.prog 5=none:=by kernel_rfl
@[simp] theorem X6:tyL Go.Proofs.Tz.prog 9=some (1,false):=by kernel_rfl
@[simp] theorem SQ:isStr Go.Proofs.Tz.prog 9=true:=by kernel_rfl
@[simp] theorem SR:gG Go.Proofs.Tz.prog 9=none:=by kernel_rfl
@[simp] theorem SS:tyL Go.Proofs.Tz.prog 22=some (1,false):=by kernel_rfl
@[simp] theorem SU:slE Go.Proofs.Tz.prog 22=some (89,3):=by kernel_rfl
@[simp] theorem SV:byE Go.Proofs.Tz.prog 89=some 32:=by kernel_rfl
@[simp] theorem SW:tyL Go.Proofs.Tz.prog 23=some (1,false):=by kernel_rfl
@[simp] theorem SX:slE Go.Proofs.Tz.prog 23=some (91,4):=by kernel_rfl
@[simp] theorem SY:byE Go.Proofs.Tz.prog 91=some 40:=by kernel_rfl
@[simp] theorem SZ:tyL Go.Proofs.Tz.prog 24=some (1,false):=by kernel_rfl
@[simp] theorem S1:slE Go.Proofs.Tz.prog 24=some (28,1):=by kernel_rfl
@[simp] theorem S3:byE Go.Proofs.Tz.prog 28=some 24:=by kernel_rfl
@[simp] theorem S4:tyL Go.Proofs.Tz.prog 25=some (1,false):=by kernel_rfl
@[simp] theorem S5:slE Go.Proofs.Tz.prog 25=some (120,2):=by kernel_rfl
@[simp] theorem S6:byE Go.Proofs.Tz.prog 120=some 16:=by kernel_rfl
@[simp] theorem S7:tyL Go.Proofs.Tz.prog 27=some (4,true):=by kernel_rfl
@[simp] theorem S8:cL Go.Proofs.Tz.prog 27=some [.w true true (.sl 0 []),.w true true (.sl 0 []),.w true true (.sl 0 []),.w true true (.sl 0 [])]:=by kernel_rfl
@[simp] theorem Ta:fOf Go.Proofs.Tz.prog 27 0=some (0,1,false):=by kernel_rfl
@[simp] theorem Tb:fOf Go.Proofs.Tz.prog 27 1=some (1,1,false):=by kernel_rfl
@[simp] theorem Tc:fOf Go.Proofs.Tz.prog 27 2=some (2,1,false):=by kernel_rfl
@[simp] theorem Td:fOf Go.Proofs.Tz.prog 27 3=some (3,1,false):=by kernel_rfl
@[simp] theorem Te:pls Go.Proofs.Tz.prog 27=some [(0,1),(1,1),(2,1),(3,1)]:=by kernel_rfl
@[simp] theorem Tf:tyL Go.Proofs.Tz.prog 28=some (1,false):=by kernel_rfl
@[simp] theorem Tg:cL Go.Proofs.Tz.prog 28=some [.w true true (.sl 0 [])]:=by kernel_rfl
@[simp] theorem Ti:slE Go.Proofs.Tz.prog 28=some (3,1):=by kernel_rfl
@[simp] theorem X7:byE Go.Proofs.Tz.prog 3=some 8:=by kernel_rfl
@[simp] theorem Tj:isStr Go.Proofs.Tz.prog 28=false:=by kernel_rfl
@[simp] theorem Tk:tyL Go.Proofs.Tz.prog 30=some (2,true):=by kernel_rfl
@[simp] theorem Tl:cL Go.Proofs.Tz.prog 30=some [.w true true (.sl 0 []),.w true true (.sl 0 [])]:=by kernel_rfl
@[simp] theorem Tm:fOf Go.Proofs.Tz.prog 30 0=some (0,1,false):=by kernel_rfl
@[simp] theorem Tn:fOf Go.Proofs.Tz.prog 30 1=some (1,1,false):=by kernel_rfl
@[simp] theorem To:pls Go.Proofs.Tz.prog 30=some [(0,1),(1,1)]:=by kernel_rfl
@[simp] theorem Tp:tyL Go.Proofs.Tz.prog 33=some (1,false):=by kernel_rfl
@[simp] theorem Tq:cL Go.Proofs.Tz.prog 33=some [.w false false (.int .i64 (0))]:=by kernel_rfl
@[simp] theorem Ts:gG Go.Proofs.Tz.prog 33=none:=by kernel_rfl
@[simp] theorem Tt:tyL Go.Proofs.Tz.prog 47=some (4,true):=by kernel_rfl
@[simp] theorem Tu:cL Go.Proofs.Tz.prog 47=some [.w true true (.sl 0 []),.w false false (.int .i64 (0)),.w true true (.sl 0 []),.w true true (.sl 0 [])]:=by kernel_rfl
@[simp] theorem Tx:fOf Go.Proofs.Tz.prog 47 0=some (0,1,false):=by kernel_rfl
@[simp] theorem Ty:fOf Go.Proofs.Tz.prog 47 1=some (1,1,false):=by kernel_rfl
@[simp] theorem TA:fOf Go.Proofs.Tz.prog 47 2=some (2,2,true):=by kernel_rfl
@[simp] theorem TB:pls Go.Proofs.Tz.prog 47=some [(0,1),(1,1),(2,2)]:=by kernel_rfl
@[simp] theorem TC:tyL Go.Proofs.Tz.prog 89=some (3,true):=by kernel_rfl
@[simp] theorem TD:cL Go.Proofs.Tz.prog 89=some [.w false false (.str ByteArray.empty),.w false false (.int .i64 (0)),.w false false (.bool false)]:=by kernel_rfl
@[simp] theorem TE:fOf Go.Proofs.Tz.prog 89 0=some (0,1,false):=by kernel_rfl
@[simp] theorem TF:fOf Go.Proofs.Tz.prog 89 1=some (1,1,false):=by kernel_rfl
@[simp] theorem TG:fOf Go.Proofs.Tz.prog 89 2=some (2,1,false):=by kernel_rfl
@[simp] theorem TH:pls Go.Proofs.Tz.prog 89=some [(0,1),(1,1),(2,1)]:=by kernel_rfl
@[simp] theorem TI:gG Go.Proofs.Tz.prog 89=some [2,1,0]:=by kernel_rfl
@[simp] theorem TJ:tyL Go.Proofs.Tz.prog 91=some (4,true):=by kernel_rfl
@[simp] theorem TK:cL Go.Proofs.Tz.prog 91=some [.w false false (.str ByteArray.empty),.w false false (.int .i64 (0)),.w false false (.bool false),.w false false (.int .i64 (0))]:=by kernel_rfl
@[simp] theorem TL:fOf Go.Proofs.Tz.prog 91 0=some (0,1,false):=by kernel_rfl
@[simp] theorem TM:fOf Go.Proofs.Tz.prog 91 1=some (1,1,false):=by kernel_rfl
@[simp] theorem TO:fOf Go.Proofs.Tz.prog 91 2=some (2,1,false):=by kernel_rfl
@[simp] theorem TP:fOf Go.Proofs.Tz.prog 91 3=some (3,1,false):=by kernel_rfl
@[simp] theorem TR:pls Go.Proofs.Tz.prog 91=some [(0,1),(1,1),(2,1),(3,1)]:=by kernel_rfl
@[simp] theorem TT:gG Go.Proofs.Tz.prog 91=some [2,1,0,1]:=by kernel_rfl
@[simp] theorem TU:tyL Go.Proofs.Tz.prog 92=some (1,false):=by kernel_rfl
@[simp] theorem TV:cL Go.Proofs.Tz.prog 92=some [.w true false .dP]:=by kernel_rfl
@[simp] theorem TW:tyL Go.Proofs.Tz.prog 103=some (1,false):=by kernel_rfl
@[simp] theorem TX:slE Go.Proofs.Tz.prog 103=some (136,1):=by kernel_rfl
@[simp] theorem TY:fOf Go.Proofs.Tz.prog 105 0=some (0,4,true):=by kernel_rfl
@[simp] theorem TZ:fOf Go.Proofs.Tz.prog 105 1=some (4,1,false):=by kernel_rfl
@[simp] theorem T0:cL Go.Proofs.Tz.prog 111=some [.w true true (.sl 0 []),.w true true (.sl 0 []),.w true true (.sl 0 []),.w true true (.sl 0 []),.w true true (.sl 0 [])]:=by kernel_rfl
@[simp] theorem T3:fOf Go.Proofs.Tz.prog 111 0=some (0,1,false):=by kernel_rfl
@[simp] theorem T4:fOf Go.Proofs.Tz.prog 111 1=some (1,1,false):=by kernel_rfl
@[simp] theorem T5:fOf Go.Proofs.Tz.prog 111 2=some (2,1,false):=by kernel_rfl
@[simp] theorem T6:fOf Go.Proofs.Tz.prog 111 3=some (3,1,false):=by kernel_rfl
@[simp] theorem T7:fOf Go.Proofs.Tz.prog 111 4=some (4,1,false):=by kernel_rfl
@[simp] theorem T8:pls Go.Proofs.Tz.prog 111=some [(0,1),(1,1),(2,1),(3,1),(4,1)]:=by kernel_rfl
@[simp] theorem T9:tyL Go.Proofs.Tz.prog 120=some (2,true):=by kernel_rfl
@[simp] theorem Ua:cL Go.Proofs.Tz.prog 120=some [.w false false (.int .i64 (0)),.w false false (.int .i64 (0))]:=by kernel_rfl
@[simp] theorem Ub:slE Go.Proofs.Tz.prog 120=none:=by kernel_rfl
@[simp] theorem Uc:arE Go.Proofs.Tz.prog 120=some (2,1):=by kernel_rfl
@[simp] theorem Ud:pls Go.Proofs.Tz.prog 120=some [(0,1),(1,1)]:=by kernel_rfl
@[simp] theorem Ue:gG Go.Proofs.Tz.prog 120=some [1,1]:=by kernel_rfl
@[simp] theorem Uf:tyL Go.Proofs.Tz.prog 130=some (1,false):=by kernel_rfl
@[simp] theorem Ug:tyL Go.Proofs.Tz.prog 133=some (1,false):=by kernel_rfl
@[simp] theorem Uh:tyL Go.Proofs.Tz.prog 136=some (1,false):=by kernel_rfl
@[simp] theorem Ui:slE Go.Proofs.Tz.prog 136=some (4,1):=by kernel_rfl
@[simp] theorem X8:byE Go.Proofs.Tz.prog 4=some 1:=by kernel_rfl
@[simp] theorem Uj:lQ Go.Proofs.Tz.prog 142=some .u64:=by kernel_rfl
@[simp] theorem Uk:gG Go.Proofs.Tz.prog 142=none:=by kernel_rfl
@[simp] theorem Ul:slE Go.Proofs.Tz.prog 149=some (33,1):=by kernel_rfl
@[simp] theorem Um:lQ Go.Proofs.Tz.prog 150=some .u64:=by kernel_rfl
@[simp] theorem Un:gG Go.Proofs.Tz.prog 150=none:=by kernel_rfl
@[simp] theorem Uo:tyL Go.Proofs.Tz.prog 153=some (1,false):=by kernel_rfl
@[simp] theorem Up:tyL Go.Proofs.Tz.prog 159=some (1,false):=by kernel_rfl
@[simp] theorem Uq:tyL Go.Proofs.Tz.prog 160=some (1,false):=by kernel_rfl
@[simp] theorem Ur:slE Go.Proofs.Tz.prog 197=some (5,1):=by kernel_rfl
@[simp] theorem Us:oJ Go.Proofs.Tz.prog 9 197=true:=by kernel_rfl
end Go.Proofs.YthpkmilhiganjaaGreat
