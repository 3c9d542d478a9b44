/- Lemmas. -/
import Derived.Test.YthpkmilhiganjaaGreatPWz
import Derived.Test.YthpkmilhiganjaaGreatPLd
import Derived.KernelRfl
set_option linter.all false
set_option maxHeartbeats 32000000
set_option maxRecDepth 100000
namespace Go.Proofs.YthpkmilhiganjaaGreat
open Go Go.Fi
@[simp]theorem za0:tyL Tz.prog 3=some (1,false):=by kernel_rfl
@[simp]theorem Vv:dK Tz.prog 3=some [.w false false (.int .i64 (0))]:=by kernel_rfl
@[simp]theorem Vw:oY Tz.prog 3=some .i64:=by kernel_rfl
@[simp]theorem Vx:jB Tz.prog 3=none:=by kernel_rfl
@[simp]theorem za1:tyL Tz.prog 4=some (1,false):=by kernel_rfl
@[simp]theorem Vy:dK Tz.prog 4=some [.w false false (.bool false)]:=by kernel_rfl
@[simp]theorem Vz:isBool Tz.prog 4=true:=by kernel_rfl
@[simp]theorem VA:jB Tz.prog 4=none:=by kernel_rfl
@[simp]theorem za2:tyL Tz.prog 5=some (1,false):=by kernel_rfl
@[simp]theorem VB:oY Tz.prog 5=some .u8:=by kernel_rfl
@[simp]theorem VC:jB Tz.prog 5=none:=by kernel_rfl
@[simp]theorem za3:tyL Tz.prog 9=some (1,false):=by kernel_rfl
@[simp]theorem VD:isStr Tz.prog 9=true:=by kernel_rfl
@[simp]theorem VE:jB Tz.prog 9=none:=by kernel_rfl
@[simp]theorem VF:tyL Tz.prog 22=some (1,false):=by kernel_rfl
@[simp]theorem VG:slE Tz.prog 22=some (89,3):=by kernel_rfl
@[simp]theorem VH:byE Tz.prog 89=some 32:=by kernel_rfl
@[simp]theorem VI:tyL Tz.prog 23=some (1,false):=by kernel_rfl
@[simp]theorem VJ:slE Tz.prog 23=some (91,4):=by kernel_rfl
@[simp]theorem VK:byE Tz.prog 91=some 40:=by kernel_rfl
@[simp]theorem VL:tyL Tz.prog 24=some (1,false):=by kernel_rfl
@[simp]theorem VM:slE Tz.prog 24=some (28,1):=by kernel_rfl
@[simp]theorem VN:byE Tz.prog 28=some 24:=by kernel_rfl
@[simp]theorem VO:tyL Tz.prog 25=some (1,false):=by kernel_rfl
@[simp]theorem VP:slE Tz.prog 25=some (120,2):=by kernel_rfl
@[simp]theorem VQ:byE Tz.prog 120=some 16:=by kernel_rfl
@[simp]theorem VR:tyL Tz.prog 27=some (4,true):=by kernel_rfl
@[simp]theorem VS:dK Tz.prog 27=some [.w true true (.sl 0 []),.w true true (.sl 0 []),.w true true (.sl 0 []),.w true true (.sl 0 [])]:=by kernel_rfl
@[simp]theorem VT:fOf Tz.prog 27 0=some (0,1,false):=by kernel_rfl
@[simp]theorem VU:fOf Tz.prog 27 1=some (1,1,false):=by kernel_rfl
@[simp]theorem VV:fOf Tz.prog 27 2=some (2,1,false):=by kernel_rfl
@[simp]theorem VW:fOf Tz.prog 27 3=some (3,1,false):=by kernel_rfl
@[simp]theorem VX:pls Tz.prog 27=some [(0,1),(1,1),(2,1),(3,1)]:=by kernel_rfl
@[simp]theorem VY:tyL Tz.prog 28=some (1,false):=by kernel_rfl
@[simp]theorem VZ:dK Tz.prog 28=some [.w true true (.sl 0 [])]:=by kernel_rfl
@[simp]theorem V0:slE Tz.prog 28=some (3,1):=by kernel_rfl
@[simp]theorem za4:byE Tz.prog 3=some 8:=by kernel_rfl
@[simp]theorem V1:isStr Tz.prog 28=false:=by kernel_rfl
@[simp]theorem V2:tyL Tz.prog 30=some (2,true):=by kernel_rfl
@[simp]theorem V3:dK Tz.prog 30=some [.w true true (.sl 0 []),.w true true (.sl 0 [])]:=by kernel_rfl
@[simp]theorem V4:fOf Tz.prog 30 0=some (0,1,false):=by kernel_rfl
@[simp]theorem V5:fOf Tz.prog 30 1=some (1,1,false):=by kernel_rfl
@[simp]theorem V6:pls Tz.prog 30=some [(0,1),(1,1)]:=by kernel_rfl
@[simp]theorem V7:tyL Tz.prog 33=some (1,false):=by kernel_rfl
@[simp]theorem V8:dK Tz.prog 33=some [.w false false (.int .i64 (0))]:=by kernel_rfl
@[simp]theorem V9:jB Tz.prog 33=none:=by kernel_rfl
@[simp]theorem Wa:tyL Tz.prog 47=some (4,true):=by kernel_rfl
@[simp]theorem Wb:dK Tz.prog 47=some [.w true true (.sl 0 []),.w false false (.int .i64 (0)),.w true true (.sl 0 []),.w true true (.sl 0 [])]:=by kernel_rfl
@[simp]theorem Wc:fOf Tz.prog 47 0=some (0,1,false):=by kernel_rfl
@[simp]theorem Wd:fOf Tz.prog 47 1=some (1,1,false):=by kernel_rfl
@[simp]theorem We:fOf Tz.prog 47 2=some (2,2,true):=by kernel_rfl
@[simp]theorem Wf:pls Tz.prog 47=some [(0,1),(1,1),(2,2)]:=by kernel_rfl
@[simp]theorem Wh:tyL Tz.prog 89=some (3,true):=by kernel_rfl
@[simp]theorem Wi:dK Tz.prog 89=some [.w false false (.str ByteArray.empty),.w false false (.int .i64 (0)),.w false false (.bool false)]:=by kernel_rfl
@[simp]theorem Wj:fOf Tz.prog 89 0=some (0,1,false):=by kernel_rfl
@[simp]theorem Wl:fOf Tz.prog 89 1=some (1,1,false):=by kernel_rfl
@[simp]theorem Wm:fOf Tz.prog 89 2=some (2,1,false):=by kernel_rfl
@[simp]theorem Wn:pls Tz.prog 89=some [(0,1),(1,1),(2,1)]:=by kernel_rfl
@[simp]theorem Wo:jB Tz.prog 89=some [2,1,0]:=by kernel_rfl
@[simp]theorem Wp:tyL Tz.prog 91=some (4,true):=by kernel_rfl
@[simp]theorem Wq:dK Tz.prog 91=some [.w false false (.str ByteArray.empty),.w false false (.int .i64 (0)),.w false false (.bool false),.w false false (.int .i64 (0))]:=by kernel_rfl
@[simp]theorem Wr:fOf Tz.prog 91 0=some (0,1,false):=by kernel_rfl
@[simp]theorem Wt:fOf Tz.prog 91 1=some (1,1,false):=by kernel_rfl
@[simp]theorem Wu:fOf Tz.prog 91 2=some (2,1,false):=by kernel_rfl
@[simp]theorem Wv:fOf Tz.prog 91 3=some (3,1,false):=by kernel_rfl
@[simp]theorem Ww:pls Tz.prog 91=some [(0,1),(1,1),(2,1),(3,1)]:=by kernel_rfl
@[simp]theorem Wx:jB Tz.prog 91=some [2,1,0,1]:=by kernel_rfl
@[simp]theorem Wy:tyL Tz.prog 92=some (1,false):=by kernel_rfl
@[simp]theorem Wz:dK Tz.prog 92=some [.w true false .fQ]:=by kernel_rfl
@[simp]theorem WA:tyL Tz.prog 103=some (1,false):=by kernel_rfl
@[simp]theorem WB:slE Tz.prog 103=some (136,1):=by kernel_rfl
@[simp]theorem WC:fOf Tz.prog 105 0=some (0,4,true):=by kernel_rfl
@[simp]theorem WG:fOf Tz.prog 105 1=some (4,1,false):=by kernel_rfl
@[simp]theorem WH:dK Tz.prog 111=some [.w true true (.sl 0 []),.w true true (.sl 0 []),.w true true (.sl 0 []),.w true true (.sl 0 []),.w true true (.sl 0 [])]:=by kernel_rfl
@[simp]theorem WI:fOf Tz.prog 111 0=some (0,1,false):=by kernel_rfl
@[simp]theorem WJ:fOf Tz.prog 111 1=some (1,1,false):=by kernel_rfl
@[simp]theorem WL:fOf Tz.prog 111 2=some (2,1,false):=by kernel_rfl
@[simp]theorem WM:fOf Tz.prog 111 3=some (3,1,false):=by kernel_rfl
@[simp]theorem WN:fOf Tz.prog 111 4=some (4,1,false):=by kernel_rfl
@[simp]theorem WO:pls Tz.prog 111=some [(0,1),(1,1),(2,1),(3,1),(4,1)]:=by kernel_rfl
@[simp]theorem WQ:tyL Tz.prog 120=some (2,true):=by kernel_rfl
@[simp]theorem WR:dK Tz.prog 120=some [.w false false (.int .i64 (0)),.w false false (.int .i64 (0))]:=by kernel_rfl
@[simp]theorem WT:slE Tz.prog 120=none:=by kernel_rfl
@[simp]theorem WU:arE Tz.prog 120=some (2,1):=by kernel_rfl
@[simp]theorem WV:pls Tz.prog 120=some [(0,1),(1,1)]:=by kernel_rfl
@[simp]theorem WW:jB Tz.prog 120=some [1,1]:=by kernel_rfl
@[simp]theorem WX:tyL Tz.prog 130=some (1,false):=by kernel_rfl
@[simp]theorem WY:tyL Tz.prog 133=some (1,false):=by kernel_rfl
@[simp]theorem WZ:tyL Tz.prog 136=some (1,false):=by kernel_rfl
@[simp]theorem W0:slE Tz.prog 136=some (4,1):=by kernel_rfl
@[simp]theorem za5:byE Tz.prog 4=some 1:=by kernel_rfl
@[simp]theorem W1:oY Tz.prog 142=some .u64:=by kernel_rfl
@[simp]theorem W3:jB Tz.prog 142=none:=by kernel_rfl
@[simp]theorem W4:slE Tz.prog 149=some (33,1):=by kernel_rfl
@[simp]theorem W5:oY Tz.prog 150=some .u64:=by kernel_rfl
@[simp]theorem W6:jB Tz.prog 150=none:=by kernel_rfl
@[simp]theorem W7:tyL Tz.prog 153=some (1,false):=by kernel_rfl
@[simp]theorem W8:tyL Tz.prog 159=some (1,false):=by kernel_rfl
@[simp]theorem W9:tyL Tz.prog 160=some (1,false):=by kernel_rfl
@[simp]theorem Xa:slE Tz.prog 197=some (5,1):=by kernel_rfl
@[simp]theorem Xb:rP Tz.prog 9 197=true:=by kernel_rfl
end Go.Proofs.YthpkmilhiganjaaGreat
