/- Contracts of functions for this claim: lemmas alone. -/
import Derived.Test.YtfpamehamllndaaGreatDoorP1
import Derived.Shelf.Strings.Search1
import Derived.Test.YtfpamehamllndaaGreatDoorP118
set_option linter.unusedSimpArgs false
set_option linter.unusedVariables false
namespace Go.Proofs.YtfpamehamllndaaGreatDoor
open Go Go.Fi Go.Shelf
set_option maxRecDepth 20000

def idxRen : Go.Shelf.Ren := ⟨fun | 217 => 80 | 266 => 94 | n => n, fun | n => n, fun n => n⟩
theorem idxLays_n217 : Lays.n217 Tryz.prog idxRen where
  mixed := by kernel_rfl
  f217 := Tryz.func80.trans (congrArg some (by kernel_rfl))
  f266 := Tryz.func94.trans (congrArg some (by kernel_rfl))
  t3 := Tryz.underlying3
  a3 := Tryz.isAgg3
  z3 := Tryz.sizeOf3
  v3 := Tryz.zeroValue3
  t5 := Tryz.underlying5
  a5 := Tryz.isAgg5
  z5 := Tryz.sizeOf5
  v5 := Tryz.zeroValue5
  t9 := Tryz.underlying9
  a9 := Tryz.isAgg9
  z9 := Tryz.sizeOf9
  v9 := Tryz.zeroValue9

end Go.Proofs.YtfpamehamllndaaGreatDoor
namespace Go.Proofs.YtfpamehamllndaaGreatDoor
open Go Go.Fi Go.RowKit Go.Shelf
set_option maxRecDepth 20000

/-! ### a text, line by line -/
theorem idxLite_c (s : ByteArray) : RealCall Tryz.prog 80 [.str s, .int .u8 10] (.int .i64 (Lib.indexByte s.data.toList 10)) true := by
  refine ⟨⟨_, Tryz.func80, by kernel_rfl, by kernel_rfl⟩, fun G w vs hok hl hrep => ?_⟩
  obtain ⟨v0, v1, rfl⟩ := vs2 hl
  have r0 := hrep 0 _ v0 rfl rfl
  have r1 := hrep 1 _ v1 rfl rfl
  cases r0
  cases r1
  refine (Any.stringslite_IndexByte idxLays_n217 s 10 w).mono ?_
  rintro e w' ⟨rfl, rfl⟩
  exact ⟨_, rfl, Below.refl _ _, .int _ _⟩
theorem indexByte_c (s : ByteArray) : RealCall Tryz.prog 52 [.str s, .int .u8 10] (.int .i64 (Lib.indexByte s.data.toList 10)) true := by
  have c := idxLite_c s
  refine realcall_intro Tryz.func52 (by kernel_rfl) rfl (Nat.le_of_ble_eq_true (by kernel_rfl)) ?_
  simp only [Tryz.results52, Tryz.ntmps52]
  repeat' (first | (with_reducible first | refine awp_seq ?_ | refine awp_blockS ?_ | refine awp_blockC ?_ | refine awp_blockR ?_ | refine awp_skip ?_ | refine awp_ret ?_ | refine awp_exit ?_ | refine awp_region ?_ | refine awp_condM ?_ | refine And.intro ?_ ?_ | apply gQ_merge | apply gE_merge | exact EqV_w | exact EqE_w | exact EqV_ptr | exact EqE_ptr | exact EqV_msl | exact EqE_msl | exact EqV_agg | exact EqE_agg | exact EqV_fn | exact EqE_fn | exact EqV_gd | exact EqE_gd | refine gM_splitN ?_ ?_ | refine gM_split ?_ ?_ |  refine condM_splitDN ?_ ?_ | refine condM_splitD ?_ ?_ | refine condM_splitN ?_ ?_ | refine condM_split ?_ ?_ | refine condM_any ?_ ?_ | refine cw (c) ?_ | intro _) | (simp [*]) | (refine cw_eq (c) ?_ ?_; (· (simp [*]; done))))
theorem idx_some : ∀ (l : List UInt8) (c : UInt8), 0 ≤ Lib.indexByte l c → ∃ a b, l = a ++ c :: b ∧ c ∉ a ∧ Lib.indexByte l c = (a.length : Int)
  | [], c, h => by simp [Lib.indexByte] at h
  | x :: l, c, h => by
    unfold Lib.indexByte at h ⊢
    by_cases hx : x = c
    · subst hx
      exact ⟨[], l, rfl, by simp, by simp⟩
    · have hx' : (x == c) = false := by simpa using hx
      rw [hx'] at h ⊢
      simp only [Bool.false_eq_true, if_false] at h ⊢
      split at h
      · simp at h
      · rename_i hm
        rw [if_neg hm]
        have hge := Lib.indexByte_ge l c
        have hne : Lib.indexByte l c ≠ -1 := by simpa using hm
        obtain ⟨a, b, h1, h2, h3⟩ := idx_some l c (by omega)
        refine ⟨x :: a, b, by rw [h1]; rfl, ?_, by rw [h3]; simp⟩
        intro hc
        rcases List.mem_cons.1 hc with e | hc
        · exact hx e.symm
        · exact h2 hc
theorem idx_none : ∀ (l : List UInt8) (c : UInt8), Lib.indexByte l c < 0 → c ∉ l
  | [], c, _ => by simp
  | x :: l, c, h => by
    unfold Lib.indexByte at h
    by_cases hx : x = c
    · subst hx; simp at h
    · have hx' : (x == c) = false := by simpa using hx
      rw [hx'] at h
      simp only [Bool.false_eq_true, if_false] at h
      have hge := Lib.indexByte_ge l c
      have ih := idx_none l c (by split at h <;> rename_i hm <;> simp at hm <;> omega)
      intro hc
      rcases List.mem_cons.1 hc with e | hc
      · exact hx e.symm
      · exact ih hc
/-- the first line of a text, and what is behind it -/
structure LineOf (s : ByteArray) (i : Nat) : Prop where
  lt : i < s.size
  line : pieces s nl1 = s.extract 0 i :: pieces (s.extract (i + 1) s.size) nl1
  cut : cutN (s.extract 0 (i + 1)) = s.extract 0 i
  nl : endB (s.extract 0 (i + 1)) = true
theorem line_of {s : ByteArray} (h : 0 ≤ Lib.indexByte s.data.toList 10) : ∃ i : Nat, Lib.indexByte s.data.toList 10 = (i : Int) ∧ LineOf s i := by
  obtain ⟨a, b, h1, h2, h3⟩ := idx_some _ _ h
  have hsz : s.size = a.length + 1 + b.length := by rw [← ba_len, h1]; simp; omega
  have e1 : (s.extract 0 (a.length + 1)).data.toList = a ++ [10] := by
    rw [ext_list, h1, List.drop_zero]
    have : a ++ 10 :: b = (a ++ [10]) ++ b := by simp
    rw [this, List.take_left' (by simp)]
  have e0 : (s.extract 0 a.length).data.toList = a := by rw [ext_list, h1, List.drop_zero, List.take_left' rfl]
  have e2 : (s.extract (a.length + 1) s.size).data.toList = b := by
    rw [ext_list, List.take_of_length_le (by rw [ba_len]; exact Nat.le_refl _), h1]
    have : a ++ 10 :: b = (a ++ [10]) ++ b := by simp
    rw [this, List.drop_left' (by simp)]
  have hz : (s.extract 0 (a.length + 1)).size = a.length + 1 := by rw [← ba_len, e1]; simp
  have hend : endB (s.extract 0 (a.length + 1)) = true := by
    unfold endB
    rw [hz]
    simp only [Bool.and_eq_true, decide_eq_true_eq]
    refine ⟨by omega, ba_ext ?_⟩
    rw [ext_list, e1, List.take_of_length_le (by simp), Nat.add_sub_cancel, List.drop_left' rfl]
  refine ⟨a.length, h3, by omega, ?_, ?_, hend⟩
  · refine map_inj_ba ?_
    rw [List.map_cons]
    show (pieces s ⟨#[10]⟩).map _ = _ :: (pieces (s.extract (a.length + 1) s.size) ⟨#[10]⟩).map _
    rw [pieces_cut, pieces_cut, e0, e2, h1, cutL_word 10 a b h2]
  · unfold cutN
    rw [hend, if_pos rfl, hz]
    refine ba_ext ?_
    rw [ext_list, e1, e0, List.drop_zero, Nat.add_sub_cancel, List.take_left' rfl]
theorem line_last {s : ByteArray} (h : Lib.indexByte s.data.toList 10 < 0) : pieces s nl1 = [s] ∧ endB s = false ∧ cutN s = s := by
  have hn := idx_none _ _ h
  have he : endB s = false := by
    unfold endB
    by_cases h1 : 1 ≤ s.size
    · rw [decide_eq_true h1, Bool.true_and]
      refine decide_eq_false fun e => hn ?_
      have e2 : (s.extract (s.size - 1) s.size).data.toList = [10] := by rw [e]
      rw [ext_list] at e2
      have : (10 : UInt8) ∈ (s.data.toList.take s.size).drop (s.size - 1) := by rw [e2]; simp
      exact List.mem_of_mem_take (List.mem_of_mem_drop this)
    · rw [decide_eq_false h1, Bool.false_and]
  refine ⟨map_inj_ba ?_, he, by unfold cutN; rw [he]; rfl⟩
  show (pieces s ⟨#[10]⟩).map _ = _
  rw [pieces_cut, cutL_one 10 _ hn]
  rfl
theorem pieces_empty : pieces (⟨#[]⟩ : ByteArray) nl1 = [⟨#[]⟩] := by
  refine map_inj_ba ?_
  show (pieces _ ⟨#[10]⟩).map _ = _
  rw [pieces_cut]; rfl
theorem linesD_nil (d : Dr) (k : Int) : linesD d k [⟨#[]⟩] = .inr d := by rw [linesD_last, if_pos rfl]
end Go.Proofs.YtfpamehamllndaaGreatDoor

