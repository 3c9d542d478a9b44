/- Lemmas. -/
import Derived.Test.YthpkmilhiganjaaGreatPWz
import Derived.Test.YthpkmilhiganjaaGreatPLd
import Derived.KernelRfl
set_option linter.unusedSimpArgs false
set_option linter.unusedVariables false
set_option linter.unusedSectionVars false
set_option maxHeartbeats 32000000
set_option maxRecDepth 100000
namespace Go.Proofs.YthpkmilhiganjaaGreat
open Go Go.Fi
@[simp] theorem Vk:tyL Go.Proofs.Tz.prog 3=some (1,false):=by kernel_rfl
@[simp] theorem PY:bM Go.Proofs.Tz.prog 3=some [.w false false (.int .i64 (0))]:=by kernel_rfl
@[simp] theorem PZ:jB Go.Proofs.Tz.prog 3=some .i64:=by kernel_rfl
@[simp] theorem P2:gL Go.Proofs.Tz.prog 3=none:=by kernel_rfl
@[simp] theorem Vl:tyL Go.Proofs.Tz.prog 4=some (1,false):=by kernel_rfl
@[simp] theorem P3:bM Go.Proofs.Tz.prog 4=some [.w false false (.bool false)]:=by kernel_rfl
@[simp] theorem Vm:tyL Go.Proofs.Tz.prog 5=some (1,false):=by kernel_rfl
@[simp] theorem P4:jB Go.Proofs.Tz.prog 5=some .u8:=by kernel_rfl
@[simp] theorem P5:gL Go.Proofs.Tz.prog 5=none:=by kernel_rfl
@[simp] theorem Vn:tyL Go.Proofs.Tz.prog 9=some (1,false):=by kernel_rfl
@[simp] theorem P6:isStr Go.Proofs.Tz.prog 9=true:=by kernel_rfl
@[simp] theorem P7:gL Go.Proofs.Tz.prog 9=none:=by kernel_rfl
@[simp] theorem P8:tyL Go.Proofs.Tz.prog 22=some (1,false):=by kernel_rfl
@[simp] theorem P9:slE Go.Proofs.Tz.prog 22=some (89,3):=by kernel_rfl
@[simp] theorem Qa:byE Go.Proofs.Tz.prog 89=some 32:=by kernel_rfl
@[simp] theorem Qb:tyL Go.Proofs.Tz.prog 23=some (1,false):=by kernel_rfl
@[simp] theorem Qc:slE Go.Proofs.Tz.prog 23=some (91,4):=by kernel_rfl
@[simp] theorem Qd:byE Go.Proofs.Tz.prog 91=some 40:=by kernel_rfl
@[simp] theorem Qe:tyL Go.Proofs.Tz.prog 24=some (1,false):=by kernel_rfl
@[simp] theorem Qf:slE Go.Proofs.Tz.prog 24=some (28,1):=by kernel_rfl
@[simp] theorem Qg:byE Go.Proofs.Tz.prog 28=some 24:=by kernel_rfl
@[simp] theorem Qh:tyL Go.Proofs.Tz.prog 25=some (1,false):=by kernel_rfl
@[simp] theorem Qi:slE Go.Proofs.Tz.prog 25=some (120,2):=by kernel_rfl
@[simp] theorem Qj:byE Go.Proofs.Tz.prog 120=some 16:=by kernel_rfl
@[simp] theorem Qk:tyL Go.Proofs.Tz.prog 27=some (4,true):=by kernel_rfl
@[simp] theorem Ql:bM Go.Proofs.Tz.prog 27=some [.w true true (.sl 0 []),.w true true (.sl 0 []),.w true true (.sl 0 []),.w true true (.sl 0 [])]:=by kernel_rfl
@[simp] theorem Qm:fOf Go.Proofs.Tz.prog 27 0=some (0,1,false):=by kernel_rfl
@[simp] theorem Qn:fOf Go.Proofs.Tz.prog 27 1=some (1,1,false):=by kernel_rfl
@[simp] theorem Qo:fOf Go.Proofs.Tz.prog 27 2=some (2,1,false):=by kernel_rfl
@[simp] theorem Qp:fOf Go.Proofs.Tz.prog 27 3=some (3,1,false):=by kernel_rfl
@[simp] theorem Qq:pls Go.Proofs.Tz.prog 27=some [(0,1),(1,1),(2,1),(3,1)]:=by kernel_rfl
@[simp] theorem Qr:tyL Go.Proofs.Tz.prog 28=some (1,false):=by kernel_rfl
@[simp] theorem Qt:bM Go.Proofs.Tz.prog 28=some [.w true true (.sl 0 [])]:=by kernel_rfl
@[simp] theorem Qu:slE Go.Proofs.Tz.prog 28=some (3,1):=by kernel_rfl
@[simp] theorem Vo:byE Go.Proofs.Tz.prog 3=some 8:=by kernel_rfl
@[simp] theorem Qv:isStr Go.Proofs.Tz.prog 28=false:=by kernel_rfl
@[simp] theorem Qw:tyL Go.Proofs.Tz.prog 30=some (2,true):=by kernel_rfl
@[simp] theorem Qx:bM Go.Proofs.Tz.prog 30=some [.w true true (.sl 0 []),.w true true (.sl 0 [])]:=by kernel_rfl
@[simp] theorem Qy:fOf Go.Proofs.Tz.prog 30 0=some (0,1,false):=by kernel_rfl
@[simp] theorem Qz:fOf Go.Proofs.Tz.prog 30 1=some (1,1,false):=by kernel_rfl
@[simp] theorem QA:pls Go.Proofs.Tz.prog 30=some [(0,1),(1,1)]:=by kernel_rfl
@[simp] theorem QB:tyL Go.Proofs.Tz.prog 33=some (1,false):=by kernel_rfl
@[simp] theorem QD:bM Go.Proofs.Tz.prog 33=some [.w false false (.int .i64 (0))]:=by kernel_rfl
@[simp] theorem QE:gL Go.Proofs.Tz.prog 33=none:=by kernel_rfl
@[simp] theorem QG:tyL Go.Proofs.Tz.prog 47=some (4,true):=by kernel_rfl
@[simp] theorem QH:bM Go.Proofs.Tz.prog 47=some [.w true true (.sl 0 []),.w false false (.int .i64 (0)),.w true true (.sl 0 []),.w true true (.sl 0 [])]:=by kernel_rfl
@[simp] theorem QI:fOf Go.Proofs.Tz.prog 47 0=some (0,1,false):=by kernel_rfl
@[simp] theorem QJ:fOf Go.Proofs.Tz.prog 47 1=some (1,1,false):=by kernel_rfl
@[simp] theorem QK:fOf Go.Proofs.Tz.prog 47 2=some (2,2,true):=by kernel_rfl
@[simp] theorem QL:tyL Go.Proofs.Tz.prog 89=some (3,true):=by kernel_rfl
@[simp] theorem QM:bM Go.Proofs.Tz.prog 89=some [.w false false (.str ByteArray.empty),.w false false (.int .i64 (0)),.w false false (.bool false)]:=by kernel_rfl
@[simp] theorem QN:fOf Go.Proofs.Tz.prog 89 0=some (0,1,false):=by kernel_rfl
@[simp] theorem QO:fOf Go.Proofs.Tz.prog 89 1=some (1,1,false):=by kernel_rfl
@[simp] theorem QP:pls Go.Proofs.Tz.prog 89=some [(0,1),(1,1),(2,1)]:=by kernel_rfl
@[simp] theorem QQ:tyL Go.Proofs.Tz.prog 91=some (4,true):=by kernel_rfl
@[simp] theorem QR:bM Go.Proofs.Tz.prog 91=some [.w false false (.str ByteArray.empty),.w false false (.int .i64 (0)),.w false false (.bool false),.w false false (.int .i64 (0))]:=by kernel_rfl
@[simp] theorem QS:fOf Go.Proofs.Tz.prog 91 0=some (0,1,false):=by kernel_rfl
@[simp] theorem QT:fOf Go.Proofs.Tz.prog 91 1=some (1,1,false):=by kernel_rfl
@[simp] theorem QU:fOf Go.Proofs.Tz.prog 91 3=some (3,1,false):=by kernel_rfl
@[simp] theorem QV:pls Go.Proofs.Tz.prog 91=some [(0,1),(1,1),(2,1),(3,1)]:=by kernel_rfl
@[simp] theorem QW:tyL Go.Proofs.Tz.prog 92=some (1,false):=by kernel_rfl
@[simp] theorem QX:bM Go.Proofs.Tz.prog 92=some [.w true false .cJ]:=by kernel_rfl
@[simp] theorem QY:tyL Go.Proofs.Tz.prog 103=some (1,false):=by kernel_rfl
@[simp] theorem QZ:slE Go.Proofs.Tz.prog 103=some (136,1):=by kernel_rfl
@[simp] theorem Q0:fOf Go.Proofs.Tz.prog 105 0=some (0,4,true):=by kernel_rfl
@[simp] theorem Q3:fOf Go.Proofs.Tz.prog 105 1=some (4,1,false):=by kernel_rfl
@[simp] theorem Q4:bM Go.Proofs.Tz.prog 111=some [.w true true (.sl 0 []),.w true true (.sl 0 []),.w true true (.sl 0 []),.w true true (.sl 0 []),.w true true (.sl 0 [])]:=by kernel_rfl
@[simp] theorem Q5:fOf Go.Proofs.Tz.prog 111 0=some (0,1,false):=by kernel_rfl
@[simp] theorem Q6:fOf Go.Proofs.Tz.prog 111 1=some (1,1,false):=by kernel_rfl
@[simp] theorem Q7:fOf Go.Proofs.Tz.prog 111 2=some (2,1,false):=by kernel_rfl
@[simp] theorem Q8:fOf Go.Proofs.Tz.prog 111 3=some (3,1,false):=by kernel_rfl
@[simp] theorem Q9:fOf Go.Proofs.Tz.prog 111 4=some (4,1,false):=by kernel_rfl
@[simp] theorem Ra:pls Go.Proofs.Tz.prog 111=some [(0,1),(1,1),(2,1),(3,1),(4,1)]:=by kernel_rfl
@[simp] theorem Rb:tyL Go.Proofs.Tz.prog 120=some (2,true):=by kernel_rfl
@[simp] theorem Rc:bM Go.Proofs.Tz.prog 120=some [.w false false (.int .i64 (0)),.w false false (.int .i64 (0))]:=by kernel_rfl
@[simp] theorem Re:slE Go.Proofs.Tz.prog 120=none:=by kernel_rfl
@[simp] theorem Rf:arE Go.Proofs.Tz.prog 120=some (2,1):=by kernel_rfl
@[simp] theorem Rg:gL Go.Proofs.Tz.prog 120=some [1,1]:=by kernel_rfl
@[simp] theorem Rh:tyL Go.Proofs.Tz.prog 130=some (1,false):=by kernel_rfl
@[simp] theorem Ri:tyL Go.Proofs.Tz.prog 133=some (1,false):=by kernel_rfl
@[simp] theorem Rj:tyL Go.Proofs.Tz.prog 136=some (1,false):=by kernel_rfl
@[simp] theorem Rk:slE Go.Proofs.Tz.prog 136=some (4,1):=by kernel_rfl
@[simp] theorem Vp:byE Go.Proofs.Tz.prog 4=some 1:=by kernel_rfl
@[simp] theorem Rl:jB Go.Proofs.Tz.prog 142=some .u64:=by kernel_rfl
@[simp] theorem Rm:gL Go.Proofs.Tz.prog 142=none:=by kernel_rfl
@[simp] theorem Rn:slE Go.Proofs.Tz.prog 149=some (33,1):=by kernel_rfl
@[simp] theorem Ro:jB Go.Proofs.Tz.prog 150=some .u64:=by kernel_rfl
@[simp] theorem Rp:gL Go.Proofs.Tz.prog 150=none:=by kernel_rfl
@[simp] theorem Rq:tyL Go.Proofs.Tz.prog 153=some (1,false):=by kernel_rfl
@[simp] theorem Rr:tyL Go.Proofs.Tz.prog 159=some (1,false):=by kernel_rfl
@[simp] theorem Rs:tyL Go.Proofs.Tz.prog 160=some (1,false):=by kernel_rfl
@[simp] theorem Rt:slE Go.Proofs.Tz.prog 197=some (5,1):=by kernel_rfl
@[simp] theorem Ru:lX Go.Proofs.Tz.prog 9 197=true:=by kernel_rfl
end Go.Proofs.YthpkmilhiganjaaGreat
