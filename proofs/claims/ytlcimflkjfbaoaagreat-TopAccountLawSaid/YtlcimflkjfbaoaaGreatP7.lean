/- Contracts of functions for this claim: lemmas alone. -/
import Derived.Test.YtlcimflkjfbaoaaGreatP2
import Derived.Shelf.GgSortMore.Stable
import Derived.Shelf.Bits.Mul64
import Derived.Shelf.Slices.Turned
import Derived.Test.YtlcimflkjfbaoaaGreatLr
set_option linter.unusedSimpArgs false
set_option linter.unusedVariables false
namespace Go.Proofs.YtlcimflkjfbaoaaGreat
open Go Go.Fi Go.Shelf
set_option maxRecDepth 20000

def sortSRen : Go.Shelf.Ren := ⟨fun | 8 => 69 | 13 => 87 | 14 => 88 | 15 => 89 | 16 => 90 | 29 => 108 | 30 => 109 | 42 => 127 | 49 => 135 | n => n, fun | 26 => 121 | 33 => 177 | 34 => 178 | 36 => 180 | 38 => 182 | 42 => 186 | 47 => 144 | 56 => 226 | 82 => 227 | 83 => 228 | 84 => 229 | 85 => 230 | 86 => 231 | 87 => 232 | 89 => 234 | n => n, fun n => n⟩
theorem sortSLaysGt_n8 : LaysGt.n8 Tryz.prog sortSRen where
  mixed := by kernel_rfl
  f8 := Tryz.func69.trans (congrArg some (by kernel_rfl))
  f13 := Tryz.func87.trans (congrArg some (by kernel_rfl))
  f14 := Tryz.func88.trans (congrArg some (by kernel_rfl))
  f15 := Tryz.func89.trans (congrArg some (by kernel_rfl))
  f16 := Tryz.func90.trans (congrArg some (by kernel_rfl))
  f29 := Tryz.func108.trans (congrArg some (by kernel_rfl))
  f30 := Tryz.func109.trans (congrArg some (by kernel_rfl))
  f42 := Tryz.func127.trans (congrArg some (by kernel_rfl))
  f49 := Tryz.func135.trans (congrArg some (by kernel_rfl))
  t0 := Tryz.underlying0
  a0 := Tryz.isAgg0
  z0 := Tryz.sizeOf0
  v0 := Tryz.zeroValue0
  i0 := by first | kernel_rfl | decide
  t3 := Tryz.underlying3
  a3 := Tryz.isAgg3
  z3 := Tryz.sizeOf3
  v3 := Tryz.zeroValue3
  i3 := by first | kernel_rfl | decide
  t4 := Tryz.underlying4
  a4 := Tryz.isAgg4
  z4 := Tryz.sizeOf4
  v4 := Tryz.zeroValue4
  i4 := by first | kernel_rfl | decide
  t5 := Tryz.underlying5
  a5 := Tryz.isAgg5
  z5 := Tryz.sizeOf5
  v5 := Tryz.zeroValue5
  i5 := by first | kernel_rfl | decide
  t12 := Tryz.underlying12
  a12 := Tryz.isAgg12
  z12 := Tryz.sizeOf12
  v12 := Tryz.zeroValue12
  i12 := by first | kernel_rfl | decide
  t17 := Tryz.underlying17
  a17 := Tryz.isAgg17
  z17 := Tryz.sizeOf17
  v17 := Tryz.zeroValue17
  i17 := by first | kernel_rfl | decide
  t20 := Tryz.underlying20
  a20 := Tryz.isAgg20
  z20 := Tryz.sizeOf20
  v20 := Tryz.zeroValue20
  i20 := by first | kernel_rfl | decide
  t26 := Tryz.underlying121
  a26 := Tryz.isAgg121
  z26 := Tryz.sizeOf121
  v26 := Tryz.zeroValue121
  i26 := by first | kernel_rfl | decide
  t33 := Tryz.underlying177
  a33 := Tryz.isAgg177
  z33 := Tryz.sizeOf177
  v33 := Tryz.zeroValue177
  i33 := by first | kernel_rfl | decide
  t34 := Tryz.underlying178
  a34 := Tryz.isAgg178
  z34 := Tryz.sizeOf178
  v34 := Tryz.zeroValue178
  i34 := by first | kernel_rfl | decide
  t36 := Tryz.underlying180
  a36 := Tryz.isAgg180
  z36 := Tryz.sizeOf180
  v36 := Tryz.zeroValue180
  i36 := by first | kernel_rfl | decide
  t38 := Tryz.underlying182
  a38 := Tryz.isAgg182
  z38 := Tryz.sizeOf182
  v38 := Tryz.zeroValue182
  i38 := by first | kernel_rfl | decide
  t42 := Tryz.underlying186
  a42 := Tryz.isAgg186
  z42 := Tryz.sizeOf186
  v42 := Tryz.zeroValue186
  i42 := by first | kernel_rfl | decide
  t47 := Tryz.underlying144
  a47 := Tryz.isAgg144
  z47 := Tryz.sizeOf144
  v47 := Tryz.zeroValue144
  i47 := by first | kernel_rfl | decide
  t56 := Tryz.underlying226
  a56 := Tryz.isAgg226
  z56 := Tryz.sizeOf226
  v56 := Tryz.zeroValue226
  i56 := by first | kernel_rfl | decide
  t82 := Tryz.underlying227
  a82 := Tryz.isAgg227
  z82 := Tryz.sizeOf227
  v82 := Tryz.zeroValue227
  i82 := by first | kernel_rfl | decide
  t83 := Tryz.underlying228
  a83 := Tryz.isAgg228
  z83 := Tryz.sizeOf228
  v83 := Tryz.zeroValue228
  i83 := by first | kernel_rfl | decide
  t84 := Tryz.underlying229
  a84 := Tryz.isAgg229
  z84 := Tryz.sizeOf229
  v84 := Tryz.zeroValue229
  i84 := by first | kernel_rfl | decide
  t85 := Tryz.underlying230
  a85 := Tryz.isAgg230
  z85 := Tryz.sizeOf230
  v85 := Tryz.zeroValue230
  i85 := by first | kernel_rfl | decide
  t86 := Tryz.underlying231
  a86 := Tryz.isAgg231
  z86 := Tryz.sizeOf231
  v86 := Tryz.zeroValue231
  i86 := by first | kernel_rfl | decide
  t87 := Tryz.underlying232
  a87 := Tryz.isAgg232
  z87 := Tryz.sizeOf232
  v87 := Tryz.zeroValue232
  i87 := by first | kernel_rfl | decide
  t89 := Tryz.underlying234
  a89 := Tryz.isAgg234
  z89 := Tryz.sizeOf234
  v89 := Tryz.zeroValue234
  i89 := by first | kernel_rfl | decide

def mulRen : Go.Shelf.Ren := ⟨fun | 264 => 67 | n => n, fun | 46 => 144 | 53 => 151 | n => n, fun n => n⟩
theorem mulLays_n264 : Lays.n264 Tryz.prog mulRen where
  mixed := by kernel_rfl
  f264 := Tryz.func67.trans (congrArg some (by kernel_rfl))
  t46 := Tryz.underlying144
  a46 := Tryz.isAgg144
  z46 := Tryz.sizeOf144
  v46 := Tryz.zeroValue144
  t53 := Tryz.underlying151
  a53 := Tryz.isAgg151
  z53 := Tryz.sizeOf151
  v53 := Tryz.zeroValue151

def contRen : Go.Shelf.Ren := ⟨fun | 109 => 83 | 110 => 55 | n => n, fun | 31 => 25 | n => n, fun n => n⟩
theorem contLays_n110 : Lays.n110 Tryz.prog contRen where
  mixed := by kernel_rfl
  f109 := Tryz.func83.trans (congrArg some (by kernel_rfl))
  f110 := Tryz.func55.trans (congrArg some (by kernel_rfl))
  t0 := Tryz.underlying0
  a0 := Tryz.isAgg0
  z0 := Tryz.sizeOf0
  v0 := Tryz.zeroValue0
  t3 := Tryz.underlying3
  a3 := Tryz.isAgg3
  z3 := Tryz.sizeOf3
  v3 := Tryz.zeroValue3
  t4 := Tryz.underlying4
  a4 := Tryz.isAgg4
  z4 := Tryz.sizeOf4
  v4 := Tryz.zeroValue4
  t9 := Tryz.underlying9
  a9 := Tryz.isAgg9
  z9 := Tryz.sizeOf9
  v9 := Tryz.zeroValue9
  t31 := Tryz.underlying25
  a31 := Tryz.isAgg25
  z31 := Tryz.sizeOf25
  v31 := Tryz.zeroValue25

end Go.Proofs.YtlcimflkjfbaoaaGreat
namespace Go.Proofs.YtlcimflkjfbaoaaGreat
open Go Go.Fi Go.RowKit Go.Shelf
set_option maxRecDepth 20000

/-! ### texts, by the shelf -/
theorem contT_c (xs : List ByteArray) (x : ByteArray) (hl : xs.length ≤ 1000000000) : RealCall Tryz.prog 55 [.sl xs.length (strP xs), .str x] (.bool (Lib.containsS xs x)) true :=
  cont_real contLays_n110 ⟨_, Tryz.func55, by kernel_rfl, by kernel_rfl⟩ xs x hl
end Go.Proofs.YtlcimflkjfbaoaaGreat

