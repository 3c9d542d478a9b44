/- Contracts of functions for this claim: lemmas alone. -/
import Derived.Test.YtdgbfbgnbgfmjaaGreatDoorP7
import Derived.Test.YtdgbfbgnbgfmjaaGreatDoorLt
import Derived.Deep.QuietTactic
import Derived.WalkKit
set_option linter.unusedSimpArgs false
set_option linter.unusedVariables false
namespace Go.Proofs.YtdgbfbgnbgfmjaaGreatDoor
open Go Go.Fi Go.RowKit Go.Shelf Go.Sort
set_option maxRecDepth 20000

/-! ### the sort by rests -/
noncomputable def siT : TypeInfo := (Tryz.prog.info? 22).get (by kernel_rfl)
noncomputable def siE : TypeInfo := (Tryz.prog.info? 3).get (by kernel_rfl)
theorem siK (n : Nat) (h2 : 2 ≤ n) : Lib.swapperK n siE 2 = 5 := by
  have a : siE.hasPointers = false := by kernel_rfl
  have b : siE.bytes = 8 := by kernel_rfl
  have c : (n == 0) = false := by simp; omega
  have d : (n == 1) = false := by simp; omega
  simp [Lib.swapperK, a, b, c, d]
theorem siK1 (n : Nat) (h1 : n ≤ 1) : Lib.swapperK n siE 2 = n + 1 := by
  rcases Nat.eq_zero_or_pos n with h | h
  · subst h; simp [Lib.swapperK]
  · obtain rfl : n = 1 := by omega
    simp [Lib.swapperK]
theorem sortC : SortC Tryz.prog 140 22 where
  ent := ⟨_, Tryz.func140, by kernel_rfl, by kernel_rfl⟩
  small m g lb lt blk off c d w h2 h20 eg hless hH hblk :=
    Any.sort_SliceStable_small sortSLaysGt_n8 22 3 siT siE (by kernel_rfl) (by kernel_rfl) (by kernel_rfl) (by kernel_rfl) 2 (fun _ => by kernel_rfl) (by kernel_rfl) (fun _ => by kernel_rfl) (fE m) (fun _ => rfl) lt g lb eg blk off c d h2 h20 193 (by rw [siK _ h2]; kernel_rfl) true
      (fun args W => run_callFunc_extern Tryz.func193 (by kernel_rfl) (by kernel_rfl) (by kernel_rfl) (e := Extern.ReflectliteSwapper.swap true) (by kernel_rfl) args W) w hless hH hblk
  tiny p n c g lb w h1 :=
    Any.sort_SliceStable_tiny sortSLaysGt_n8 22 3 siT siE (by kernel_rfl) (by kernel_rfl) (by kernel_rfl) (by kernel_rfl) 2 (fun _ => by kernel_rfl) p n c h1 (189 + n) (by
      rw [siK1 _ h1]
      rcases Nat.eq_zero_or_pos n with h | h
      · subst h; kernel_rfl
      · obtain rfl : n = 1 := by omega
        kernel_rfl) (.func g) #[] lb w
set_option maxHeartbeats 4000000 in
theorem lessC (n : Nat) (hn : n ≤ 1000) (rs : List Int) : LessC Tryz.prog 141 n rs := by
  refine ⟨⟨_, Tryz.func141, by kernel_rfl, by kernel_rfl⟩, ?_⟩
  intro bW bV bR bO cR cO W o hw hv hr ho hb i k hi hk
  have r1 := hr (o i) (hb i hi)
  have r2 := hr (o k) (hb k hk)
  have o1 := ho i hi
  have o2 := ho k hk
  have b1 := hb i hi
  have b2 := hb k hk
  generalize o i = x at *
  generalize o k = y at *
  generalize rs.getD x 0 = u at *
  generalize rs.getD y 0 = v at *
  clear hr ho hb
  go_enter Tryz.func141, Tryz.ntmps141
  go_wp2
  go_quiet (fail)
  go_wp2
  go_ret
  exact ⟨rfl, nq, rfl⟩
end Go.Proofs.YtdgbfbgnbgfmjaaGreatDoor
