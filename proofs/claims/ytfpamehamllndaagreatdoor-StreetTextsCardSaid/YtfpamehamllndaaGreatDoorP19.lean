/- Contracts of functions for this claim: lemmas alone. -/
import Derived.Test.YtfpamehamllndaaGreatDoorP17
set_option linter.unusedSimpArgs false
set_option linter.unusedVariables false
namespace Go.Proofs.YtfpamehamllndaaGreatDoor
open Go Go.Fi

theorem ceilS_ge (n b : Int) (h : 0 < b) : n ≤ ceilS n b * b ∧ (ceilS n b - 1) * b < n := by
  have h1 := Int.mul_tdiv_add_tmod n b
  have h2 := tmod_bd n b h
  have e : b * n.tdiv b = n.tdiv b * b := Int.mul_comm _ _
  unfold ceilS
  split
  · rw [Int.add_mul, Int.sub_mul, Int.add_mul]; omega
  · rw [Int.add_zero, Int.sub_mul]; omega
theorem ceil_lo (a g d A : Int) (hd : 0 < d) (hg : 0 ≤ g) (hgd : g ≤ d) (hA : 0 ≤ A) (ha : -A ≤ a) : -A ≤ ceilS (a * g) d := by
  have h1 := (ceilS_ge (a * g) d hd).1
  have h2 : -A * g ≤ a * g := Int.mul_le_mul_of_nonneg_right ha hg
  have h3 : A * g ≤ A * d := Int.mul_le_mul_of_nonneg_left hgd hA
  rw [Int.neg_mul] at h2
  have h4 : -A * d ≤ ceilS (a * g) d * d := by rw [Int.neg_mul]; omega
  exact Int.le_of_mul_le_mul_right h4 hd
theorem ceil_hi (a g d A : Int) (hd : 0 < d) (hg : 0 ≤ g) (hgd : g ≤ d) (hA : 0 ≤ A) (ha : a ≤ A) : ceilS (a * g) d ≤ A := by
  have h1 := (ceilS_ge (a * g) d hd).2
  have h2 : a * g ≤ A * g := Int.mul_le_mul_of_nonneg_right ha hg
  have h3 : A * g ≤ A * d := Int.mul_le_mul_of_nonneg_left hgd hA
  have h4 : (ceilS (a * g) d - 1) * d < A * d := by omega
  have := Int.lt_of_mul_lt_mul_right h4 (Int.le_of_lt hd)
  omega
theorem lastI_spec (l : List Pt) (x : Int) : ∀ k, k ≤ l.length → (lastI l x k < k ∧ (nth l (lastI l x k)).at_ ≤ x ∧ ∀ j, lastI l x k < j → j < k → x < (nth l j).at_) ∨ (lastI l x k = l.length - 1 ∧ ∀ j, j < k → x < (nth l j).at_)
  | 0, _ => .inr ⟨rfl, fun j hj => by omega⟩
  | k + 1, hk => by
    by_cases h : (nth l k).at_ ≤ x
    · have e : lastI l x (k + 1) = k := by simp only [lastI]; rw [if_pos h]
      rw [e]
      exact .inl ⟨by omega, h, fun j h1 h2 => by omega⟩
    · have e : lastI l x (k + 1) = lastI l x k := by simp only [lastI]; rw [if_neg h]
      rw [e]
      rcases lastI_spec l x k (by omega) with ⟨h1, h2, h3⟩ | ⟨h1, h2⟩
      · refine .inl ⟨by omega, h2, fun j hj hjk => ?_⟩
        by_cases hjk' : j = k
        · subst hjk'; omega
        · exact h3 j hj (by omega)
      · refine .inr ⟨h1, fun j hj => ?_⟩
        by_cases hjk' : j = k
        · subst hjk'; omega
        · exact h2 j (by omega)
/-- where a time lies between two points -/
theorem gone_le {l : List Pt} (hl : PtsOk l) (hi : PtsInc l) {x : Int} (h0 : 0 ≤ x) (h1 : x < 86400) :
    0 ≤ goneS x (nth l (lastI l x l.length)).at_ ∧ goneS x (nth l (lastI l x l.length)).at_ ≤ gapS (nth l (lastI l x l.length)).at_ (nth l ((lastI l x l.length + 1) % l.length)).at_ := by
  have hs := lastI_spec l x l.length (Nat.le_refl _)
  have hlt := lastI_lt l x hl.pos l.length (Nat.le_refl _)
  generalize lastI l x l.length = i at *
  have hj : (i + 1) % l.length < l.length := Nat.mod_lt _ hl.pos
  have b1 := hl.at_ i hlt
  have b2 := hl.at_ _ hj
  rcases hs with ⟨_, h2, h3⟩ | ⟨h2, h3⟩
  · by_cases hlast : i + 1 < l.length
    · rw [Nat.mod_eq_of_lt hlast] at *
      have := h3 (i + 1) (by omega) hlast
      have := hi.lt (i := i) (j := i + 1) (by omega) hlast
      unfold goneS gapS
      constructor <;> split <;> (try split) <;> omega
    · have e : (i + 1) % l.length = 0 := by rw [show i + 1 = l.length by omega]; exact Nat.mod_self _
      rw [e] at *
      have b0 := hl.at_ 0 hl.pos
      have hle : (nth l 0).at_ ≤ (nth l i).at_ := by
        by_cases hi0 : i = 0
        · subst hi0; omega
        · have := hi.lt (i := 0) (j := i) (by omega) hlt; omega
      unfold goneS gapS
      constructor <;> split <;> (try split) <;> omega
  · have e : (i + 1) % l.length = 0 := by rw [show i + 1 = l.length by have := hl.pos; omega]; exact Nat.mod_self _
    rw [e] at *
    have c0 := h3 0 hl.pos
    have ci := h3 i hlt
    have hle : (nth l 0).at_ ≤ (nth l i).at_ := by
      by_cases hi0 : i = 0
      · subst hi0; omega
      · have := hi.lt (i := 0) (j := i) (by omega) hlt; omega
    unfold goneS gapS
    constructor <;> split <;> (try split) <;> omega
theorem takes_bd {l : List Pt} (hl : PtsOk l) (hi : PtsInc l) (at_ : Int) (late : Bool) : 0 ≤ takesS l at_ late ∧ takesS l at_ late ≤ 14400 := by
  unfold takesS
  dsimp only
  have hg := gone_le hl hi (x := at_ % 86400) (by omega) (by omega)
  have hlt := lastI_lt l (at_ % 86400) hl.pos l.length (Nat.le_refl _)
  generalize at_ % 86400 = x at *
  generalize lastI l x l.length = i at *
  have hj : (i + 1) % l.length < l.length := Nat.mod_lt _ hl.pos
  have b1 := hl.at_ i hlt
  have b2 := hl.at_ _ hj
  have s1 := hi.small i hlt
  have s2 := hi.small _ hj
  generalize (i + 1) % l.length = j at *
  have p1 : 0 ≤ ptv late (nth l i) ∧ ptv late (nth l i) ≤ 7200 := by unfold ptv ptvI; split <;> omega
  have p2 : 0 ≤ ptv late (nth l j) ∧ ptv late (nth l j) ≤ 7200 := by unfold ptv ptvI; split <;> omega
  have hd := gapS_bd b1 b2
  have c1 := ceil_lo (ptv late (nth l j) - ptv late (nth l i)) (goneS x (nth l i).at_) (gapS (nth l i).at_ (nth l j).at_) (ptv late (nth l i)) hd hg.1 hg.2 p1.1 (by omega)
  have c2 := ceil_hi (ptv late (nth l j) - ptv late (nth l i)) (goneS x (nth l i).at_) (gapS (nth l i).at_ (nth l j).at_) 7200 hd hg.1 hg.2 (by omega) (by omega)
  omega
def fTime (late : Bool) (r : Road) (m : Int) : Int := m + takesS r.pts m late
def fLen (r : Road) (m : Int) : Int := m + r.metres
theorem along_time {n : Net} (h : NetOk n) (late : Bool) : Along n (fTime late) := by
  refine ⟨fun k m hk _ _ => ?_, fun k m hk _ _ => ?_⟩ <;> (have := takes_bd (h.road k hk).pts (h.road k hk).inc m late; unfold fTime; omega)
theorem along_len {n : Net} (h : NetOk n) : Along n fLen := by
  refine ⟨fun k m hk _ _ => ?_, fun k m hk _ _ => ?_⟩ <;> (have := (h.road k hk).met; unfold fLen; omega)
theorem arr1_c (r : Road) (m : Int) (late : Bool) (hl : PtsOk r.pts) (hi : PtsInc r.pts) (h0 : 0 ≤ m) (h1 : m ≤ 10000000) : RealCall Tryz.prog 68 [.agg (cRoad r), .int .i64 m, .ip [endV late] 0] (.int .i64 (fTime late r m)) true := by
  have ht := takesR_c r m late hl h0 (by omega)
  have hb := takes_bd hl hi m late
  unfold fTime
  generalize takesS r.pts m late = v at *
  unfold cRoad endV at *
  refine realcall_intro Tryz.func68 (by kernel_rfl) rfl (Nat.le_of_ble_eq_true (by kernel_rfl)) ?_
  simp only [Tryz.results68, Tryz.ntmps68]
  repeat' (first | (with_reducible first | refine awp_seq ?_ | refine awp_blockS ?_ | refine awp_blockC ?_ | refine awp_blockR ?_ | refine awp_skip ?_ | refine awp_ret ?_ | refine awp_exit ?_ | refine awp_region ?_ | refine awp_condM ?_ | refine And.intro ?_ ?_ | refine gE_splitN ?_ ?_ | refine gE_split ?_ ?_ | refine gQ_splitN ?_ ?_ | refine gQ_split ?_ ?_ | refine gM_splitN ?_ ?_ | refine gM_split ?_ ?_ | refine condM_splitDN ?_ ?_ | refine condM_splitD ?_ ?_ | refine condM_splitN ?_ ?_ | refine condM_split ?_ ?_ | refine condM_any ?_ ?_ | refine cw (ht) ?_ | intro _) | (simp [*]))
  all_goals exact inI64 (by omega) (by omega)
theorem len1_c (r : Road) (m : Int) (hm : 0 ≤ r.metres ∧ r.metres ≤ 100000) (h0 : 0 ≤ m) (h1 : m ≤ 10000000) : RealCall Tryz.prog 69 [.agg (cRoad r), .int .i64 m] (.int .i64 (fLen r m)) true := by
  unfold cRoad fLen
  refine realcall_intro Tryz.func69 (by kernel_rfl) rfl (Nat.le_of_ble_eq_true (by kernel_rfl)) ?_
  simp only [Tryz.results69, Tryz.ntmps69]
  repeat' (first | (with_reducible first | refine awp_seq ?_ | refine awp_blockS ?_ | refine awp_blockC ?_ | refine awp_blockR ?_ | refine awp_skip ?_ | refine awp_ret ?_ | refine awp_exit ?_ | refine awp_region ?_ | refine awp_condM ?_ | refine And.intro ?_ ?_ | refine gE_splitN ?_ ?_ | refine gE_split ?_ ?_ | refine gQ_splitN ?_ ?_ | refine gQ_split ?_ ?_ | refine gM_splitN ?_ ?_ | refine gM_split ?_ ?_ | refine condM_splitDN ?_ ?_ | refine condM_splitD ?_ ?_ | refine condM_splitN ?_ ?_ | refine condM_split ?_ ?_ | refine condM_any ?_ ?_ | intro _) | (simp [*]))
  all_goals exact inI64 (by omega) (by omega)
def treeP (n : Net) (s : GS) : PV := .agg [.sl n.places.length (ints s.l), .sl n.places.length (ints s.b)]
theorem arrivals_c (n : Net) (h : NetOk n) (from_ : Nat) (hf : from_ < n.places.length) (at_ : Int) (h0 : 0 ≤ at_) (h1 : at_ ≤ 700000) (late : Bool) :
    RealCall Tryz.prog 41 [aNet n, .int .i64 from_, .int .i64 at_, .fn (endF late) []] (treeP n (growS (fTime late) n from_ at_)) true := by
  have hg := grow_c n h (fTime late) (along_time h late) from_ hf at_ h0 h1 68 [.ip [endV late] 0] (fun k m hk m0 m1 => arr1_c _ m late (h.road k hk).pts (h.road k hk).inc m0 m1)
  unfold treeP
  unfold endV aNet cNet at *
  refine realcall_intro Tryz.func41 (by kernel_rfl) rfl (Nat.le_of_ble_eq_true (by kernel_rfl)) ?_
  simp only [Tryz.results41, Tryz.ntmps41]
  repeat' (first | (with_reducible first | refine awp_seq ?_ | refine awp_blockS ?_ | refine awp_blockC ?_ | refine awp_blockR ?_ | refine awp_skip ?_ | refine awp_ret ?_ | refine awp_exit ?_ | refine awp_region ?_ | refine awp_condM ?_ | refine And.intro ?_ ?_ | refine gE_splitN ?_ ?_ | refine gE_split ?_ ?_ | refine gQ_splitN ?_ ?_ | refine gQ_split ?_ ?_ | refine gM_splitN ?_ ?_ | refine gM_split ?_ ?_ | refine condM_splitDN ?_ ?_ | refine condM_splitD ?_ ?_ | refine condM_splitN ?_ ?_ | refine condM_split ?_ ?_ | refine condM_any ?_ ?_ | refine cw (hg) ?_ | intro _) | (simp [*]))
theorem heights_c (n : Net) (h : NetOk n) (from_ : Nat) (hf : from_ < n.places.length) :
    RealCall Tryz.prog 43 [aNet n, .int .i64 from_] (treeP n (growS fLen n from_ 0)) true := by
  have hg := grow_c n h fLen (along_len h) from_ hf 0 (by omega) (by omega) 69 [] (fun k m hk m0 m1 => len1_c _ m (h.road k hk).met m0 m1)
  unfold treeP
  unfold aNet cNet at *
  refine realcall_intro Tryz.func43 (by kernel_rfl) rfl (Nat.le_of_ble_eq_true (by kernel_rfl)) ?_
  simp only [Tryz.results43, Tryz.ntmps43]
  repeat' (first | (with_reducible first | refine awp_seq ?_ | refine awp_blockS ?_ | refine awp_blockC ?_ | refine awp_blockR ?_ | refine awp_skip ?_ | refine awp_ret ?_ | refine awp_exit ?_ | refine awp_region ?_ | refine awp_condM ?_ | refine And.intro ?_ ?_ | refine gE_splitN ?_ ?_ | refine gE_split ?_ ?_ | refine gQ_splitN ?_ ?_ | refine gQ_split ?_ ?_ | refine gM_splitN ?_ ?_ | refine gM_split ?_ ?_ | refine condM_splitDN ?_ ?_ | refine condM_splitD ?_ ?_ | refine condM_splitN ?_ ?_ | refine condM_split ?_ ?_ | refine condM_any ?_ ?_ | refine cw (hg) ?_ | intro _) | (simp [*]))
end Go.Proofs.YtfpamehamllndaaGreatDoor

