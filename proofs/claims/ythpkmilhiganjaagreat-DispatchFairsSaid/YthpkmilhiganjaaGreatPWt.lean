/- Lemmas. -/
import Derived.Test.YthpkmilhiganjaaGreatPWz
import Derived.Test.YthpkmilhiganjaaGreatPLd
import Derived.KernelRfl
set_option linter.all false
set_option maxHeartbeats 32000000
set_option maxRecDepth 100000
namespace Go.Proofs.YthpkmilhiganjaaGreat
open Go Go.Fi
@[simp]theorem zct:tyL Tz.prog 3=some (1,false):=aj
@[simp]theorem Wp:fu Tz.prog 3=some [.w false false (.int .i64 (0))]:=aj
@[simp]theorem Wq:o7 Tz.prog 3=some .i64:=aj
@[simp]theorem Wr:lj Tz.prog 3=none:=aj
@[simp]theorem zcu:tyL Tz.prog 4=some (1,false):=aj
@[simp]theorem Wt:fu Tz.prog 4=some [.w false false (.bool false)]:=aj
@[simp]theorem zcv:tyL Tz.prog 5=some (1,false):=aj
@[simp]theorem Wu:o7 Tz.prog 5=some .u8:=aj
@[simp]theorem Wv:lj Tz.prog 5=none:=aj
@[simp]theorem zcw:tyL Tz.prog 9=some (1,false):=aj
@[simp]theorem Ww:isStr Tz.prog 9=true:=aj
@[simp]theorem Wx:lj Tz.prog 9=none:=aj
@[simp]theorem Wy:tyL Tz.prog 22=some (1,false):=aj
@[simp]theorem Wz:slE Tz.prog 22=some (89,3):=aj
@[simp]theorem WA:byE Tz.prog 89=some 32:=aj
@[simp]theorem WB:tyL Tz.prog 23=some (1,false):=aj
@[simp]theorem WC:slE Tz.prog 23=some (91,4):=aj
@[simp]theorem WG:byE Tz.prog 91=some 40:=aj
@[simp]theorem WH:tyL Tz.prog 24=some (1,false):=aj
@[simp]theorem WI:slE Tz.prog 24=some (28,1):=aj
@[simp]theorem WJ:byE Tz.prog 28=some 24:=aj
@[simp]theorem WL:tyL Tz.prog 25=some (1,false):=aj
@[simp]theorem WM:slE Tz.prog 25=some (120,2):=aj
@[simp]theorem WN:byE Tz.prog 120=some 16:=aj
@[simp]theorem WO:tyL Tz.prog 27=some (4,true):=aj
@[simp]theorem WQ:fu Tz.prog 27=some [.w true true (.sl 0 []),.w true true (.sl 0 []),.w true true (.sl 0 []),.w true true (.sl 0 [])]:=aj
@[simp]theorem WR:fOf Tz.prog 27 0=some (0,1,false):=aj
@[simp]theorem WT:fOf Tz.prog 27 1=some (1,1,false):=aj
@[simp]theorem WU:fOf Tz.prog 27 2=some (2,1,false):=aj
@[simp]theorem WV:fOf Tz.prog 27 3=some (3,1,false):=aj
@[simp]theorem WW:pls Tz.prog 27=some [(0,1),(1,1),(2,1),(3,1)]:=aj
@[simp]theorem WX:tyL Tz.prog 28=some (1,false):=aj
@[simp]theorem WY:fu Tz.prog 28=some [.w true true (.sl 0 [])]:=aj
@[simp]theorem WZ:slE Tz.prog 28=some (3,1):=aj
@[simp]theorem zcx:byE Tz.prog 3=some 8:=aj
@[simp]theorem W0:isStr Tz.prog 28=false:=aj
@[simp]theorem W1:fu Tz.prog 30=some [.w true true (.sl 0 []),.w true true (.sl 0 [])]:=aj
@[simp]theorem W3:fOf Tz.prog 30 0=some (0,1,false):=aj
@[simp]theorem W4:fOf Tz.prog 30 1=some (1,1,false):=aj
@[simp]theorem W5:pls Tz.prog 30=some [(0,1),(1,1)]:=aj
@[simp]theorem W6:tyL Tz.prog 33=some (1,false):=aj
@[simp]theorem W7:fu Tz.prog 33=some [.w false false (.int .i64 (0))]:=aj
@[simp]theorem W8:lj Tz.prog 33=none:=aj
@[simp]theorem W9:tyL Tz.prog 47=some (4,true):=aj
@[simp]theorem Xa:fu Tz.prog 47=some [.w true true (.sl 0 []),.w false false (.int .i64 (0)),.w true true (.sl 0 []),.w true true (.sl 0 [])]:=aj
@[simp]theorem Xb:fOf Tz.prog 47 0=some (0,1,false):=aj
@[simp]theorem Xc:fOf Tz.prog 47 1=some (1,1,false):=aj
@[simp]theorem Xd:fOf Tz.prog 47 2=some (2,2,true):=aj
@[simp]theorem Xe:tyL Tz.prog 89=some (3,true):=aj
@[simp]theorem Xg:fu Tz.prog 89=some [.w false false (.str ByteArray.empty),.w false false (.int .i64 (0)),.w false false (.bool false)]:=aj
@[simp]theorem Xh:fOf Tz.prog 89 0=some (0,1,false):=aj
@[simp]theorem Xi:fOf Tz.prog 89 1=some (1,1,false):=aj
@[simp]theorem Xj:pls Tz.prog 89=some [(0,1),(1,1),(2,1)]:=aj
@[simp]theorem Xk:lj Tz.prog 89=some [2,1,0]:=aj
@[simp]theorem Xl:tyL Tz.prog 91=some (4,true):=aj
@[simp]theorem Xm:fu Tz.prog 91=some [.w false false (.str ByteArray.empty),.w false false (.int .i64 (0)),.w false false (.bool false),.w false false (.int .i64 (0))]:=aj
@[simp]theorem Xn:fOf Tz.prog 91 0=some (0,1,false):=aj
@[simp]theorem Xo:fOf Tz.prog 91 1=some (1,1,false):=aj
@[simp]theorem Xp:fOf Tz.prog 91 3=some (3,1,false):=aj
@[simp]theorem Xq:pls Tz.prog 91=some [(0,1),(1,1),(2,1),(3,1)]:=aj
@[simp]theorem Xr:lj Tz.prog 91=some [2,1,0,1]:=aj
@[simp]theorem Xs:tyL Tz.prog 92=some (1,false):=aj
@[simp]theorem Xt:fu Tz.prog 92=some [.w true false .gN]:=aj
@[simp]theorem Xu:tyL Tz.prog 103=some (1,false):=aj
@[simp]theorem Xv:slE Tz.prog 103=some (136,1):=aj
@[simp]theorem Xw:fOf Tz.prog 105 0=some (0,4,true):=aj
@[simp]theorem Xx:fOf Tz.prog 105 1=some (4,1,false):=aj
@[simp]theorem Xy:fu Tz.prog 111=some [.w true true (.sl 0 []),.w true true (.sl 0 []),.w true true (.sl 0 []),.w true true (.sl 0 []),.w true true (.sl 0 [])]:=aj
@[simp]theorem Xz:fOf Tz.prog 111 0=some (0,1,false):=aj
@[simp]theorem XA:fOf Tz.prog 111 1=some (1,1,false):=aj
@[simp]theorem XB:fOf Tz.prog 111 2=some (2,1,false):=aj
@[simp]theorem XC:fOf Tz.prog 111 3=some (3,1,false):=aj
@[simp]theorem XD:fOf Tz.prog 111 4=some (4,1,false):=aj
@[simp]theorem XE:pls Tz.prog 111=some [(0,1),(1,1),(2,1),(3,1),(4,1)]:=aj
@[simp]theorem XG:tyL Tz.prog 120=some (2,true):=aj
@[simp]theorem XH:fu Tz.prog 120=some [.w false false (.int .i64 (0)),.w false false (.int .i64 (0))]:=aj
@[simp]theorem XI:slE Tz.prog 120=none:=aj
@[simp]theorem XJ:arE Tz.prog 120=some (2,1):=aj
@[simp]theorem XK:pls Tz.prog 120=some [(0,1),(1,1)]:=aj
@[simp]theorem XL:lj Tz.prog 120=some [1,1]:=aj
@[simp]theorem XM:tyL Tz.prog 130=some (1,false):=aj
@[simp]theorem XN:tyL Tz.prog 133=some (1,false):=aj
@[simp]theorem XO:tyL Tz.prog 136=some (1,false):=aj
@[simp]theorem XP:slE Tz.prog 136=some (4,1):=aj
@[simp]theorem zcy:byE Tz.prog 4=some 1:=aj
@[simp]theorem XQ:o7 Tz.prog 142=some .u64:=aj
@[simp]theorem XR:lj Tz.prog 142=none:=aj
@[simp]theorem XS:slE Tz.prog 149=some (33,1):=aj
@[simp]theorem XT:o7 Tz.prog 150=some .u64:=aj
@[simp]theorem XU:lj Tz.prog 150=none:=aj
@[simp]theorem XV:tyL Tz.prog 153=some (1,false):=aj
@[simp]theorem XW:tyL Tz.prog 159=some (1,false):=aj
@[simp]theorem XX:tyL Tz.prog 160=some (1,false):=aj
@[simp]theorem XY:slE Tz.prog 197=some (5,1):=aj
@[simp]theorem XZ:rR Tz.prog 9 197=true:=aj
end Go.Proofs.YthpkmilhiganjaaGreat
