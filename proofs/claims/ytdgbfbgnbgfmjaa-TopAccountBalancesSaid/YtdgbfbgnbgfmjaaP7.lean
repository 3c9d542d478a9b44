/- Contracts of functions for this claim: lemmas alone. -/
import Derived.Test.YtdgbfbgnbgfmjaaP2
import Derived.Shelf.GgSortMore.Stable
import Derived.Shelf.Bits.Mul64
import Derived.Shelf.Slices.Turned
import Derived.Test.YtdgbfbgnbgfmjaaLr
set_option linter.unusedSimpArgs false
set_option linter.unusedVariables false
namespace Go.Proofs.Ytdgbfbgnbgfmjaa
open Go Go.Fi Go.Shelf
set_option maxRecDepth 20000

def sortSRen : Go.Shelf.Ren := ⟨fun | 8 => 58 | 13 => 67 | 14 => 68 | 15 => 69 | 16 => 70 | 29 => 84 | 30 => 85 | 42 => 86 | 49 => 87 | n => n, fun | 26 => 79 | 33 => 118 | 34 => 119 | 36 => 121 | 38 => 123 | 42 => 127 | 47 => 97 | 56 => 144 | 82 => 145 | 83 => 146 | 84 => 147 | 85 => 148 | 86 => 149 | 87 => 150 | 89 => 152 | n => n, fun n => n⟩
theorem sortSLaysGt_n8 : LaysGt.n8 Try.prog sortSRen where
  mixed := by kernel_rfl
  f8 := Try.func58.trans (congrArg some (by kernel_rfl))
  f13 := Try.func67.trans (congrArg some (by kernel_rfl))
  f14 := Try.func68.trans (congrArg some (by kernel_rfl))
  f15 := Try.func69.trans (congrArg some (by kernel_rfl))
  f16 := Try.func70.trans (congrArg some (by kernel_rfl))
  f29 := Try.func84.trans (congrArg some (by kernel_rfl))
  f30 := Try.func85.trans (congrArg some (by kernel_rfl))
  f42 := Try.func86.trans (congrArg some (by kernel_rfl))
  f49 := Try.func87.trans (congrArg some (by kernel_rfl))
  t0 := Try.underlying0
  a0 := Try.isAgg0
  z0 := Try.sizeOf0
  v0 := Try.zeroValue0
  i0 := by first | kernel_rfl | decide
  t3 := Try.underlying3
  a3 := Try.isAgg3
  z3 := Try.sizeOf3
  v3 := Try.zeroValue3
  i3 := by first | kernel_rfl | decide
  t4 := Try.underlying4
  a4 := Try.isAgg4
  z4 := Try.sizeOf4
  v4 := Try.zeroValue4
  i4 := by first | kernel_rfl | decide
  t5 := Try.underlying5
  a5 := Try.isAgg5
  z5 := Try.sizeOf5
  v5 := Try.zeroValue5
  i5 := by first | kernel_rfl | decide
  t12 := Try.underlying12
  a12 := Try.isAgg12
  z12 := Try.sizeOf12
  v12 := Try.zeroValue12
  i12 := by first | kernel_rfl | decide
  t17 := Try.underlying17
  a17 := Try.isAgg17
  z17 := Try.sizeOf17
  v17 := Try.zeroValue17
  i17 := by first | kernel_rfl | decide
  t20 := Try.underlying20
  a20 := Try.isAgg20
  z20 := Try.sizeOf20
  v20 := Try.zeroValue20
  i20 := by first | kernel_rfl | decide
  t26 := Try.underlying79
  a26 := Try.isAgg79
  z26 := Try.sizeOf79
  v26 := Try.zeroValue79
  i26 := by first | kernel_rfl | decide
  t33 := Try.underlying118
  a33 := Try.isAgg118
  z33 := Try.sizeOf118
  v33 := Try.zeroValue118
  i33 := by first | kernel_rfl | decide
  t34 := Try.underlying119
  a34 := Try.isAgg119
  z34 := Try.sizeOf119
  v34 := Try.zeroValue119
  i34 := by first | kernel_rfl | decide
  t36 := Try.underlying121
  a36 := Try.isAgg121
  z36 := Try.sizeOf121
  v36 := Try.zeroValue121
  i36 := by first | kernel_rfl | decide
  t38 := Try.underlying123
  a38 := Try.isAgg123
  z38 := Try.sizeOf123
  v38 := Try.zeroValue123
  i38 := by first | kernel_rfl | decide
  t42 := Try.underlying127
  a42 := Try.isAgg127
  z42 := Try.sizeOf127
  v42 := Try.zeroValue127
  i42 := by first | kernel_rfl | decide
  t47 := Try.underlying97
  a47 := Try.isAgg97
  z47 := Try.sizeOf97
  v47 := Try.zeroValue97
  i47 := by first | kernel_rfl | decide
  t56 := Try.underlying144
  a56 := Try.isAgg144
  z56 := Try.sizeOf144
  v56 := Try.zeroValue144
  i56 := by first | kernel_rfl | decide
  t82 := Try.underlying145
  a82 := Try.isAgg145
  z82 := Try.sizeOf145
  v82 := Try.zeroValue145
  i82 := by first | kernel_rfl | decide
  t83 := Try.underlying146
  a83 := Try.isAgg146
  z83 := Try.sizeOf146
  v83 := Try.zeroValue146
  i83 := by first | kernel_rfl | decide
  t84 := Try.underlying147
  a84 := Try.isAgg147
  z84 := Try.sizeOf147
  v84 := Try.zeroValue147
  i84 := by first | kernel_rfl | decide
  t85 := Try.underlying148
  a85 := Try.isAgg148
  z85 := Try.sizeOf148
  v85 := Try.zeroValue148
  i85 := by first | kernel_rfl | decide
  t86 := Try.underlying149
  a86 := Try.isAgg149
  z86 := Try.sizeOf149
  v86 := Try.zeroValue149
  i86 := by first | kernel_rfl | decide
  t87 := Try.underlying150
  a87 := Try.isAgg150
  z87 := Try.sizeOf150
  v87 := Try.zeroValue150
  i87 := by first | kernel_rfl | decide
  t89 := Try.underlying152
  a89 := Try.isAgg152
  z89 := Try.sizeOf152
  v89 := Try.zeroValue152
  i89 := by first | kernel_rfl | decide
def mulRen : Go.Shelf.Ren := ⟨fun | 264 => 56 | n => n, fun | 46 => 97 | 53 => 104 | n => n, fun n => n⟩
theorem mulLays_n264 : Lays.n264 Try.prog mulRen where
  mixed := by kernel_rfl
  f264 := Try.func56.trans (congrArg some (by kernel_rfl))
  t46 := Try.underlying97
  a46 := Try.isAgg97
  z46 := Try.sizeOf97
  v46 := Try.zeroValue97
  t53 := Try.underlying104
  a53 := Try.isAgg104
  z53 := Try.sizeOf104
  v53 := Try.zeroValue104
def contRen : Go.Shelf.Ren := ⟨fun | 109 => 62 | 110 => 39 | n => n, fun | 31 => 87 | n => n, fun n => n⟩
theorem contLays_n110 : Lays.n110 Try.prog contRen where
  mixed := by kernel_rfl
  f109 := Try.func62.trans (congrArg some (by kernel_rfl))
  f110 := Try.func39.trans (congrArg some (by kernel_rfl))
  t0 := Try.underlying0
  a0 := Try.isAgg0
  z0 := Try.sizeOf0
  v0 := Try.zeroValue0
  t3 := Try.underlying3
  a3 := Try.isAgg3
  z3 := Try.sizeOf3
  v3 := Try.zeroValue3
  t4 := Try.underlying4
  a4 := Try.isAgg4
  z4 := Try.sizeOf4
  v4 := Try.zeroValue4
  t9 := Try.underlying9
  a9 := Try.isAgg9
  z9 := Try.sizeOf9
  v9 := Try.zeroValue9
  t31 := Try.underlying87
  a31 := Try.isAgg87
  z31 := Try.sizeOf87
  v31 := Try.zeroValue87
end Go.Proofs.Ytdgbfbgnbgfmjaa
namespace Go.Proofs.Ytdgbfbgnbgfmjaa
open Go Go.Fi Go.RowKit Go.Shelf
set_option maxRecDepth 20000

/-! ### texts, by the shelf -/
theorem contT_c (xs : List ByteArray) (x : ByteArray) (hl : xs.length ≤ 1000000000) : RealCall Try.prog 39 [.sl xs.length (strP xs), .str x] (.bool (Lib.containsS xs x)) true :=
  cont_real contLays_n110 ⟨_, Try.func39, by kernel_rfl, by kernel_rfl⟩ xs x hl
end Go.Proofs.Ytdgbfbgnbgfmjaa

