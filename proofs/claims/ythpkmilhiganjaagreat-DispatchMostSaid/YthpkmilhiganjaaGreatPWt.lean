/- Lemmas. -/
import Derived.Test.YthpkmilhiganjaaGreatPWz
import Derived.Test.YthpkmilhiganjaaGreatPLd
import Derived.KernelRfl
set_option linter.all false
set_option maxHeartbeats 32000000
set_option maxRecDepth 100000
namespace Go.Proofs.YthpkmilhiganjaaGreat
open Go Go.Fi
@[simp]theorem zcj:tyL Tz.prog 3=some (1,false):=aj
@[simp]theorem WB:fw Tz.prog 3=some [.w false false (.int .i64 (0))]:=aj
@[simp]theorem WC:pC Tz.prog 3=some .i64:=aj
@[simp]theorem WG:nE Tz.prog 3=none:=aj
@[simp]theorem zck:tyL Tz.prog 4=some (1,false):=aj
@[simp]theorem WH:fw Tz.prog 4=some [.w false false (.bool false)]:=aj
@[simp]theorem zcl:tyL Tz.prog 5=some (1,false):=aj
@[simp]theorem WI:pC Tz.prog 5=some .u8:=aj
@[simp]theorem WJ:nE Tz.prog 5=none:=aj
@[simp]theorem zcm:tyL Tz.prog 9=some (1,false):=aj
@[simp]theorem WL:isStr Tz.prog 9=true:=aj
@[simp]theorem WM:nE Tz.prog 9=none:=aj
@[simp]theorem WN:tyL Tz.prog 22=some (1,false):=aj
@[simp]theorem WO:slE Tz.prog 22=some (89,3):=aj
@[simp]theorem WQ:byE Tz.prog 89=some 32:=aj
@[simp]theorem WR:tyL Tz.prog 23=some (1,false):=aj
@[simp]theorem WT:slE Tz.prog 23=some (91,4):=aj
@[simp]theorem WU:byE Tz.prog 91=some 40:=aj
@[simp]theorem WV:tyL Tz.prog 24=some (1,false):=aj
@[simp]theorem WW:slE Tz.prog 24=some (28,1):=aj
@[simp]theorem WX:byE Tz.prog 28=some 24:=aj
@[simp]theorem WY:tyL Tz.prog 25=some (1,false):=aj
@[simp]theorem WZ:slE Tz.prog 25=some (120,2):=aj
@[simp]theorem W0:byE Tz.prog 120=some 16:=aj
@[simp]theorem W1:tyL Tz.prog 27=some (4,true):=aj
@[simp]theorem W3:fw Tz.prog 27=some [.w true true (.sl 0 []),.w true true (.sl 0 []),.w true true (.sl 0 []),.w true true (.sl 0 [])]:=aj
@[simp]theorem W4:fOf Tz.prog 27 0=some (0,1,false):=aj
@[simp]theorem W5:fOf Tz.prog 27 1=some (1,1,false):=aj
@[simp]theorem W6:fOf Tz.prog 27 2=some (2,1,false):=aj
@[simp]theorem W7:fOf Tz.prog 27 3=some (3,1,false):=aj
@[simp]theorem W8:pls Tz.prog 27=some [(0,1),(1,1),(2,1),(3,1)]:=aj
@[simp]theorem W9:tyL Tz.prog 28=some (1,false):=aj
@[simp]theorem Xa:fw Tz.prog 28=some [.w true true (.sl 0 [])]:=aj
@[simp]theorem Xb:slE Tz.prog 28=some (3,1):=aj
@[simp]theorem zcn:byE Tz.prog 3=some 8:=aj
@[simp]theorem Xc:isStr Tz.prog 28=false:=aj
@[simp]theorem Xd:fw Tz.prog 30=some [.w true true (.sl 0 []),.w true true (.sl 0 [])]:=aj
@[simp]theorem Xe:fOf Tz.prog 30 0=some (0,1,false):=aj
@[simp]theorem Xg:fOf Tz.prog 30 1=some (1,1,false):=aj
@[simp]theorem Xh:pls Tz.prog 30=some [(0,1),(1,1)]:=aj
@[simp]theorem Xi:tyL Tz.prog 33=some (1,false):=aj
@[simp]theorem Xj:fw Tz.prog 33=some [.w false false (.int .i64 (0))]:=aj
@[simp]theorem Xk:nE Tz.prog 33=none:=aj
@[simp]theorem Xl:tyL Tz.prog 47=some (4,true):=aj
@[simp]theorem Xm:fw Tz.prog 47=some [.w true true (.sl 0 []),.w false false (.int .i64 (0)),.w true true (.sl 0 []),.w true true (.sl 0 [])]:=aj
@[simp]theorem Xn:fOf Tz.prog 47 0=some (0,1,false):=aj
@[simp]theorem Xo:fOf Tz.prog 47 1=some (1,1,false):=aj
@[simp]theorem Xp:fOf Tz.prog 47 2=some (2,2,true):=aj
@[simp]theorem Xq:tyL Tz.prog 89=some (3,true):=aj
@[simp]theorem Xr:fw Tz.prog 89=some [.w false false (.str ByteArray.empty),.w false false (.int .i64 (0)),.w false false (.bool false)]:=aj
@[simp]theorem Xs:fOf Tz.prog 89 0=some (0,1,false):=aj
@[simp]theorem Xt:fOf Tz.prog 89 1=some (1,1,false):=aj
@[simp]theorem Xu:fOf Tz.prog 89 2=some (2,1,false):=aj
@[simp]theorem Xv:pls Tz.prog 89=some [(0,1),(1,1),(2,1)]:=aj
@[simp]theorem Xw:tyL Tz.prog 91=some (4,true):=aj
@[simp]theorem Xx:fw Tz.prog 91=some [.w false false (.str ByteArray.empty),.w false false (.int .i64 (0)),.w false false (.bool false),.w false false (.int .i64 (0))]:=aj
@[simp]theorem Xy:fOf Tz.prog 91 0=some (0,1,false):=aj
@[simp]theorem Xz:fOf Tz.prog 91 1=some (1,1,false):=aj
@[simp]theorem XA:fOf Tz.prog 91 2=some (2,1,false):=aj
@[simp]theorem XB:fOf Tz.prog 91 3=some (3,1,false):=aj
@[simp]theorem XC:pls Tz.prog 91=some [(0,1),(1,1),(2,1),(3,1)]:=aj
@[simp]theorem XD:tyL Tz.prog 92=some (1,false):=aj
@[simp]theorem XE:fw Tz.prog 92=some [.w true false .gX]:=aj
@[simp]theorem XG:tyL Tz.prog 103=some (1,false):=aj
@[simp]theorem XH:slE Tz.prog 103=some (136,1):=aj
@[simp]theorem XI:fOf Tz.prog 105 0=some (0,4,true):=aj
@[simp]theorem XJ:fOf Tz.prog 105 1=some (4,1,false):=aj
@[simp]theorem XK:fw Tz.prog 111=some [.w true true (.sl 0 []),.w true true (.sl 0 []),.w true true (.sl 0 []),.w true true (.sl 0 []),.w true true (.sl 0 [])]:=aj
@[simp]theorem XL:fOf Tz.prog 111 0=some (0,1,false):=aj
@[simp]theorem XM:fOf Tz.prog 111 1=some (1,1,false):=aj
@[simp]theorem XN:fOf Tz.prog 111 2=some (2,1,false):=aj
@[simp]theorem XO:fOf Tz.prog 111 3=some (3,1,false):=aj
@[simp]theorem XP:fOf Tz.prog 111 4=some (4,1,false):=aj
@[simp]theorem XQ:pls Tz.prog 111=some [(0,1),(1,1),(2,1),(3,1),(4,1)]:=aj
@[simp]theorem XR:tyL Tz.prog 120=some (2,true):=aj
@[simp]theorem XS:fw Tz.prog 120=some [.w false false (.int .i64 (0)),.w false false (.int .i64 (0))]:=aj
@[simp]theorem XT:slE Tz.prog 120=none:=aj
@[simp]theorem XU:arE Tz.prog 120=some (2,1):=aj
@[simp]theorem XV:pls Tz.prog 120=some [(0,1),(1,1)]:=aj
@[simp]theorem XW:nE Tz.prog 120=some [1,1]:=aj
@[simp]theorem XX:tyL Tz.prog 130=some (1,false):=aj
@[simp]theorem XY:tyL Tz.prog 133=some (1,false):=aj
@[simp]theorem XZ:tyL Tz.prog 136=some (1,false):=aj
@[simp]theorem X0:slE Tz.prog 136=some (4,1):=aj
@[simp]theorem zco:byE Tz.prog 4=some 1:=aj
@[simp]theorem X1:pC Tz.prog 142=some .u64:=aj
@[simp]theorem X2:nE Tz.prog 142=none:=aj
@[simp]theorem X3:slE Tz.prog 149=some (33,1):=aj
@[simp]theorem X4:pC Tz.prog 150=some .u64:=aj
@[simp]theorem X5:nE Tz.prog 150=none:=aj
@[simp]theorem X6:tyL Tz.prog 153=some (1,false):=aj
@[simp]theorem X7:tyL Tz.prog 159=some (1,false):=aj
@[simp]theorem X8:tyL Tz.prog 160=some (1,false):=aj
@[simp]theorem X9:slE Tz.prog 197=some (5,1):=aj
@[simp]theorem Ya:sB Tz.prog 9 197=true:=aj
end Go.Proofs.YthpkmilhiganjaaGreat
