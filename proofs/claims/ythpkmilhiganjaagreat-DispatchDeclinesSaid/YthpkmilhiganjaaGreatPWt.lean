/- Lemmas. -/
import Derived.Test.YthpkmilhiganjaaGreatPWz
import Derived.Test.YthpkmilhiganjaaGreatPLd
import Derived.KernelRfl
set_option linter.all false
set_option maxHeartbeats 32000000
set_option maxRecDepth 100000
namespace Go.Proofs.YthpkmilhiganjaaGreat
open Go Go.Fi
@[simp]theorem Z1:tyL Tz.prog 3=some (1,false):=by kernel_rfl
@[simp]theorem U6:dW Tz.prog 3=some [.w false false (.int .i64 (0))]:=by kernel_rfl
@[simp]theorem U7:oz Tz.prog 3=some .i64:=by kernel_rfl
@[simp]theorem U8:jT Tz.prog 3=none:=by kernel_rfl
@[simp]theorem Z2:tyL Tz.prog 4=some (1,false):=by kernel_rfl
@[simp]theorem U9:dW Tz.prog 4=some [.w false false (.bool false)]:=by kernel_rfl
@[simp]theorem Z3:tyL Tz.prog 5=some (1,false):=by kernel_rfl
@[simp]theorem Va:oz Tz.prog 5=some .u8:=by kernel_rfl
@[simp]theorem Vb:jT Tz.prog 5=none:=by kernel_rfl
@[simp]theorem Z4:tyL Tz.prog 9=some (1,false):=by kernel_rfl
@[simp]theorem Vd:isStr Tz.prog 9=true:=by kernel_rfl
@[simp]theorem Ve:jT Tz.prog 9=none:=by kernel_rfl
@[simp]theorem Vf:tyL Tz.prog 22=some (1,false):=by kernel_rfl
@[simp]theorem Vg:slE Tz.prog 22=some (89,3):=by kernel_rfl
@[simp]theorem Vh:byE Tz.prog 89=some 32:=by kernel_rfl
@[simp]theorem Vi:tyL Tz.prog 23=some (1,false):=by kernel_rfl
@[simp]theorem Vj:slE Tz.prog 23=some (91,4):=by kernel_rfl
@[simp]theorem Vk:byE Tz.prog 91=some 40:=by kernel_rfl
@[simp]theorem Vl:tyL Tz.prog 24=some (1,false):=by kernel_rfl
@[simp]theorem Vm:slE Tz.prog 24=some (28,1):=by kernel_rfl
@[simp]theorem Vn:byE Tz.prog 28=some 24:=by kernel_rfl
@[simp]theorem Vo:tyL Tz.prog 25=some (1,false):=by kernel_rfl
@[simp]theorem Vp:slE Tz.prog 25=some (120,2):=by kernel_rfl
@[simp]theorem Vq:byE Tz.prog 120=some 16:=by kernel_rfl
@[simp]theorem Vr:tyL Tz.prog 27=some (4,true):=by kernel_rfl
@[simp]theorem Vs:dW Tz.prog 27=some [.w true true (.sl 0 []),.w true true (.sl 0 []),.w true true (.sl 0 []),.w true true (.sl 0 [])]:=by kernel_rfl
@[simp]theorem Vt:fOf Tz.prog 27 0=some (0,1,false):=by kernel_rfl
@[simp]theorem Vu:fOf Tz.prog 27 1=some (1,1,false):=by kernel_rfl
@[simp]theorem Vv:fOf Tz.prog 27 2=some (2,1,false):=by kernel_rfl
@[simp]theorem Vw:fOf Tz.prog 27 3=some (3,1,false):=by kernel_rfl
@[simp]theorem Vx:pls Tz.prog 27=some [(0,1),(1,1),(2,1),(3,1)]:=by kernel_rfl
@[simp]theorem Vy:tyL Tz.prog 28=some (1,false):=by kernel_rfl
@[simp]theorem Vz:dW Tz.prog 28=some [.w true true (.sl 0 [])]:=by kernel_rfl
@[simp]theorem VA:slE Tz.prog 28=some (3,1):=by kernel_rfl
@[simp]theorem Z5:byE Tz.prog 3=some 8:=by kernel_rfl
@[simp]theorem VB:isStr Tz.prog 28=false:=by kernel_rfl
@[simp]theorem VC:dW Tz.prog 30=some [.w true true (.sl 0 []),.w true true (.sl 0 [])]:=by kernel_rfl
@[simp]theorem VD:fOf Tz.prog 30 0=some (0,1,false):=by kernel_rfl
@[simp]theorem VE:fOf Tz.prog 30 1=some (1,1,false):=by kernel_rfl
@[simp]theorem VF:pls Tz.prog 30=some [(0,1),(1,1)]:=by kernel_rfl
@[simp]theorem VG:tyL Tz.prog 33=some (1,false):=by kernel_rfl
@[simp]theorem VH:dW Tz.prog 33=some [.w false false (.int .i64 (0))]:=by kernel_rfl
@[simp]theorem VI:jT Tz.prog 33=none:=by kernel_rfl
@[simp]theorem VJ:tyL Tz.prog 47=some (4,true):=by kernel_rfl
@[simp]theorem VK:dW Tz.prog 47=some [.w true true (.sl 0 []),.w false false (.int .i64 (0)),.w true true (.sl 0 []),.w true true (.sl 0 [])]:=by kernel_rfl
@[simp]theorem VL:fOf Tz.prog 47 0=some (0,1,false):=by kernel_rfl
@[simp]theorem VM:fOf Tz.prog 47 1=some (1,1,false):=by kernel_rfl
@[simp]theorem VN:fOf Tz.prog 47 2=some (2,2,true):=by kernel_rfl
@[simp]theorem VO:tyL Tz.prog 89=some (3,true):=by kernel_rfl
@[simp]theorem VP:dW Tz.prog 89=some [.w false false (.str ByteArray.empty),.w false false (.int .i64 (0)),.w false false (.bool false)]:=by kernel_rfl
@[simp]theorem VQ:fOf Tz.prog 89 0=some (0,1,false):=by kernel_rfl
@[simp]theorem VR:fOf Tz.prog 89 1=some (1,1,false):=by kernel_rfl
@[simp]theorem VS:pls Tz.prog 89=some [(0,1),(1,1),(2,1)]:=by kernel_rfl
@[simp]theorem VT:jT Tz.prog 89=some [2,1,0]:=by kernel_rfl
@[simp]theorem VU:tyL Tz.prog 91=some (4,true):=by kernel_rfl
@[simp]theorem VV:dW Tz.prog 91=some [.w false false (.str ByteArray.empty),.w false false (.int .i64 (0)),.w false false (.bool false),.w false false (.int .i64 (0))]:=by kernel_rfl
@[simp]theorem VW:fOf Tz.prog 91 0=some (0,1,false):=by kernel_rfl
@[simp]theorem VX:fOf Tz.prog 91 1=some (1,1,false):=by kernel_rfl
@[simp]theorem VY:fOf Tz.prog 91 3=some (3,1,false):=by kernel_rfl
@[simp]theorem VZ:pls Tz.prog 91=some [(0,1),(1,1),(2,1),(3,1)]:=by kernel_rfl
@[simp]theorem V0:jT Tz.prog 91=some [2,1,0,1]:=by kernel_rfl
@[simp]theorem V1:tyL Tz.prog 92=some (1,false):=by kernel_rfl
@[simp]theorem V2:dW Tz.prog 92=some [.w true false .gl]:=by kernel_rfl
@[simp]theorem V3:tyL Tz.prog 103=some (1,false):=by kernel_rfl
@[simp]theorem V4:slE Tz.prog 103=some (136,1):=by kernel_rfl
@[simp]theorem V5:fOf Tz.prog 105 0=some (0,4,true):=by kernel_rfl
@[simp]theorem V6:fOf Tz.prog 105 1=some (4,1,false):=by kernel_rfl
@[simp]theorem V7:dW Tz.prog 111=some [.w true true (.sl 0 []),.w true true (.sl 0 []),.w true true (.sl 0 []),.w true true (.sl 0 []),.w true true (.sl 0 [])]:=by kernel_rfl
@[simp]theorem V8:fOf Tz.prog 111 0=some (0,1,false):=by kernel_rfl
@[simp]theorem V9:fOf Tz.prog 111 1=some (1,1,false):=by kernel_rfl
@[simp]theorem Wa:fOf Tz.prog 111 2=some (2,1,false):=by kernel_rfl
@[simp]theorem Wb:fOf Tz.prog 111 3=some (3,1,false):=by kernel_rfl
@[simp]theorem Wc:fOf Tz.prog 111 4=some (4,1,false):=by kernel_rfl
@[simp]theorem Wd:pls Tz.prog 111=some [(0,1),(1,1),(2,1),(3,1),(4,1)]:=by kernel_rfl
@[simp]theorem We:tyL Tz.prog 120=some (2,true):=by kernel_rfl
@[simp]theorem Wf:dW Tz.prog 120=some [.w false false (.int .i64 (0)),.w false false (.int .i64 (0))]:=by kernel_rfl
@[simp]theorem Wh:slE Tz.prog 120=none:=by kernel_rfl
@[simp]theorem Wi:arE Tz.prog 120=some (2,1):=by kernel_rfl
@[simp]theorem Wj:pls Tz.prog 120=some [(0,1),(1,1)]:=by kernel_rfl
@[simp]theorem Wl:jT Tz.prog 120=some [1,1]:=by kernel_rfl
@[simp]theorem Wm:tyL Tz.prog 130=some (1,false):=by kernel_rfl
@[simp]theorem Wn:tyL Tz.prog 133=some (1,false):=by kernel_rfl
@[simp]theorem Wo:tyL Tz.prog 136=some (1,false):=by kernel_rfl
@[simp]theorem Wp:slE Tz.prog 136=some (4,1):=by kernel_rfl
@[simp]theorem Z6:byE Tz.prog 4=some 1:=by kernel_rfl
@[simp]theorem Wq:oz Tz.prog 142=some .u64:=by kernel_rfl
@[simp]theorem Wr:jT Tz.prog 142=none:=by kernel_rfl
@[simp]theorem Wt:slE Tz.prog 149=some (33,1):=by kernel_rfl
@[simp]theorem Wu:oz Tz.prog 150=some .u64:=by kernel_rfl
@[simp]theorem Wv:jT Tz.prog 150=none:=by kernel_rfl
@[simp]theorem Ww:tyL Tz.prog 153=some (1,false):=by kernel_rfl
@[simp]theorem Wx:tyL Tz.prog 159=some (1,false):=by kernel_rfl
@[simp]theorem Wy:tyL Tz.prog 160=some (1,false):=by kernel_rfl
@[simp]theorem Wz:slE Tz.prog 197=some (5,1):=by kernel_rfl
@[simp]theorem WA:qR Tz.prog 9 197=true:=by kernel_rfl
end Go.Proofs.YthpkmilhiganjaaGreat
