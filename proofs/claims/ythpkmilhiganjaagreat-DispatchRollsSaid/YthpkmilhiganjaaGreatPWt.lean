/- Lemmas. -/
import Derived.Test.YthpkmilhiganjaaGreatPWz
import Derived.Test.YthpkmilhiganjaaGreatPLd
import Derived.KernelRfl
set_option linter.all false
set_option maxHeartbeats 32000000
set_option maxRecDepth 100000
namespace Go.Proofs.YthpkmilhiganjaaGreat
open Go Go.Fi
@[simp]theorem za2:tyL Tz.prog 3=some (1,false):=aj
@[simp]theorem VF:fE Tz.prog 3=some [.w false false (.int .i64 (0))]:=aj
@[simp]theorem VG:pb Tz.prog 3=some .i64:=aj
@[simp]theorem VH:lG Tz.prog 3=none:=aj
@[simp]theorem za3:tyL Tz.prog 4=some (1,false):=aj
@[simp]theorem VI:fE Tz.prog 4=some [.w false false (.bool false)]:=aj
@[simp]theorem za4:tyL Tz.prog 5=some (1,false):=aj
@[simp]theorem VJ:pb Tz.prog 5=some .u8:=aj
@[simp]theorem VK:lG Tz.prog 5=none:=aj
@[simp]theorem za5:tyL Tz.prog 9=some (1,false):=aj
@[simp]theorem VL:isStr Tz.prog 9=true:=aj
@[simp]theorem VM:lG Tz.prog 9=none:=aj
@[simp]theorem VN:tyL Tz.prog 22=some (1,false):=aj
@[simp]theorem VO:slE Tz.prog 22=some (89,3):=aj
@[simp]theorem VP:byE Tz.prog 89=some 32:=aj
@[simp]theorem VQ:tyL Tz.prog 23=some (1,false):=aj
@[simp]theorem VR:slE Tz.prog 23=some (91,4):=aj
@[simp]theorem VS:byE Tz.prog 91=some 40:=aj
@[simp]theorem VT:tyL Tz.prog 24=some (1,false):=aj
@[simp]theorem VU:slE Tz.prog 24=some (28,1):=aj
@[simp]theorem VV:byE Tz.prog 28=some 24:=aj
@[simp]theorem VW:tyL Tz.prog 25=some (1,false):=aj
@[simp]theorem VX:slE Tz.prog 25=some (120,2):=aj
@[simp]theorem VY:byE Tz.prog 120=some 16:=aj
@[simp]theorem VZ:tyL Tz.prog 27=some (4,true):=aj
@[simp]theorem V0:fE Tz.prog 27=some [.w true true (.sl 0 []),.w true true (.sl 0 []),.w true true (.sl 0 []),.w true true (.sl 0 [])]:=aj
@[simp]theorem V1:fOf Tz.prog 27 0=some (0,1,false):=aj
@[simp]theorem V2:fOf Tz.prog 27 1=some (1,1,false):=aj
@[simp]theorem V3:fOf Tz.prog 27 2=some (2,1,false):=aj
@[simp]theorem V4:fOf Tz.prog 27 3=some (3,1,false):=aj
@[simp]theorem V5:pls Tz.prog 27=some [(0,1),(1,1),(2,1),(3,1)]:=aj
@[simp]theorem V6:tyL Tz.prog 28=some (1,false):=aj
@[simp]theorem V7:fE Tz.prog 28=some [.w true true (.sl 0 [])]:=aj
@[simp]theorem V8:slE Tz.prog 28=some (3,1):=aj
@[simp]theorem za6:byE Tz.prog 3=some 8:=aj
@[simp]theorem V9:isStr Tz.prog 28=false:=aj
@[simp]theorem Wa:fE Tz.prog 30=some [.w true true (.sl 0 []),.w true true (.sl 0 [])]:=aj
@[simp]theorem Wb:fOf Tz.prog 30 0=some (0,1,false):=aj
@[simp]theorem Wc:fOf Tz.prog 30 1=some (1,1,false):=aj
@[simp]theorem Wd:pls Tz.prog 30=some [(0,1),(1,1)]:=aj
@[simp]theorem We:tyL Tz.prog 33=some (1,false):=aj
@[simp]theorem Wf:fE Tz.prog 33=some [.w false false (.int .i64 (0))]:=aj
@[simp]theorem Wh:lG Tz.prog 33=none:=aj
@[simp]theorem Wi:tyL Tz.prog 47=some (4,true):=aj
@[simp]theorem Wj:fE Tz.prog 47=some [.w true true (.sl 0 []),.w false false (.int .i64 (0)),.w true true (.sl 0 []),.w true true (.sl 0 [])]:=aj
@[simp]theorem Wl:fOf Tz.prog 47 0=some (0,1,false):=aj
@[simp]theorem Wm:fOf Tz.prog 47 1=some (1,1,false):=aj
@[simp]theorem Wn:fOf Tz.prog 47 2=some (2,2,true):=aj
@[simp]theorem Wo:tyL Tz.prog 89=some (3,true):=aj
@[simp]theorem Wp:fE Tz.prog 89=some [.w false false (.str ByteArray.empty),.w false false (.int .i64 (0)),.w false false (.bool false)]:=aj
@[simp]theorem Wq:fOf Tz.prog 89 0=some (0,1,false):=aj
@[simp]theorem Wr:fOf Tz.prog 89 1=some (1,1,false):=aj
@[simp]theorem Wt:fOf Tz.prog 89 2=some (2,1,false):=aj
@[simp]theorem Wu:pls Tz.prog 89=some [(0,1),(1,1),(2,1)]:=aj
@[simp]theorem Wv:lG Tz.prog 89=some [2,1,0]:=aj
@[simp]theorem Ww:tyL Tz.prog 91=some (4,true):=aj
@[simp]theorem Wx:fE Tz.prog 91=some [.w false false (.str ByteArray.empty),.w false false (.int .i64 (0)),.w false false (.bool false),.w false false (.int .i64 (0))]:=aj
@[simp]theorem Wy:fOf Tz.prog 91 0=some (0,1,false):=aj
@[simp]theorem Wz:fOf Tz.prog 91 1=some (1,1,false):=aj
@[simp]theorem WA:fOf Tz.prog 91 2=some (2,1,false):=aj
@[simp]theorem WB:fOf Tz.prog 91 3=some (3,1,false):=aj
@[simp]theorem WC:pls Tz.prog 91=some [(0,1),(1,1),(2,1),(3,1)]:=aj
@[simp]theorem WG:lG Tz.prog 91=some [2,1,0,1]:=aj
@[simp]theorem WH:tyL Tz.prog 92=some (1,false):=aj
@[simp]theorem WI:fE Tz.prog 92=some [.w true false .gJ]:=aj
@[simp]theorem WJ:tyL Tz.prog 103=some (1,false):=aj
@[simp]theorem WL:slE Tz.prog 103=some (136,1):=aj
@[simp]theorem WM:fOf Tz.prog 105 0=some (0,4,true):=aj
@[simp]theorem WN:fOf Tz.prog 105 1=some (4,1,false):=aj
@[simp]theorem WO:fE Tz.prog 111=some [.w true true (.sl 0 []),.w true true (.sl 0 []),.w true true (.sl 0 []),.w true true (.sl 0 []),.w true true (.sl 0 [])]:=aj
@[simp]theorem WQ:fOf Tz.prog 111 0=some (0,1,false):=aj
@[simp]theorem WR:fOf Tz.prog 111 1=some (1,1,false):=aj
@[simp]theorem WT:fOf Tz.prog 111 2=some (2,1,false):=aj
@[simp]theorem WU:fOf Tz.prog 111 3=some (3,1,false):=aj
@[simp]theorem WV:fOf Tz.prog 111 4=some (4,1,false):=aj
@[simp]theorem WW:pls Tz.prog 111=some [(0,1),(1,1),(2,1),(3,1),(4,1)]:=aj
@[simp]theorem WX:tyL Tz.prog 120=some (2,true):=aj
@[simp]theorem WY:fE Tz.prog 120=some [.w false false (.int .i64 (0)),.w false false (.int .i64 (0))]:=aj
@[simp]theorem WZ:slE Tz.prog 120=none:=aj
@[simp]theorem W0:arE Tz.prog 120=some (2,1):=aj
@[simp]theorem W1:pls Tz.prog 120=some [(0,1),(1,1)]:=aj
@[simp]theorem W3:lG Tz.prog 120=some [1,1]:=aj
@[simp]theorem W4:tyL Tz.prog 130=some (1,false):=aj
@[simp]theorem W5:tyL Tz.prog 133=some (1,false):=aj
@[simp]theorem W6:tyL Tz.prog 136=some (1,false):=aj
@[simp]theorem W7:slE Tz.prog 136=some (4,1):=aj
@[simp]theorem za7:byE Tz.prog 4=some 1:=aj
@[simp]theorem W8:pb Tz.prog 142=some .u64:=aj
@[simp]theorem W9:lG Tz.prog 142=none:=aj
@[simp]theorem Xa:slE Tz.prog 149=some (33,1):=aj
@[simp]theorem Xb:pb Tz.prog 150=some .u64:=aj
@[simp]theorem Xc:lG Tz.prog 150=none:=aj
@[simp]theorem Xd:tyL Tz.prog 153=some (1,false):=aj
@[simp]theorem Xe:tyL Tz.prog 159=some (1,false):=aj
@[simp]theorem Xg:tyL Tz.prog 160=some (1,false):=aj
@[simp]theorem Xh:slE Tz.prog 197=some (5,1):=aj
@[simp]theorem Xi:rT Tz.prog 9 197=true:=aj
end Go.Proofs.YthpkmilhiganjaaGreat
