/- Contracts of functions for this claim: lemmas alone. -/
import Derived.Test.YtfpamehamllndaaGreatDoorP104
set_option linter.unusedSimpArgs false
set_option linter.unusedVariables false
namespace Go.Proofs.YtfpamehamllndaaGreatDoor
open Go Go.Fi Go.RowKit
set_option maxRecDepth 20000

/-! ### the reference reads a number -/
theorem ba_len (s : ByteArray) : s.data.toList.length = s.size := by
  show _ = s.data.size
  rw [Array.length_toList]
theorem byteAt_eq (s : ByteArray) (k : Nat) : byteAt s k = (s.data.toList.getD k 0).toNat := rfl
theorem digitVal_some {b : UInt8} (h0 : 48 ≤ b.toNat) (h1 : b.toNat ≤ 57) : Lib.digitVal b = some (b.toNat - 48) := by
  unfold Lib.digitVal; rw [if_pos ⟨h0, h1⟩]
theorem digitVal_no {b : UInt8} (h : b.toNat < 48 ∨ 57 < b.toNat) : Lib.digitVal b = none := by
  unfold Lib.digitVal; rw [if_neg (by omega)]
def numS (s : ByteArray) : Option Int := refNum s.data.toList
def numV (s : ByteArray) : Int := (numS s).getD 0
def numB (s : ByteArray) : Bool := (numS s).isSome
theorem num_fail {s : ByteArray} (h : ds s.data.toList = [] ∨ 9 < (ds s.data.toList).length ∨ ((ds s.data.toList).head? = some 48 ∧ 1 < s.data.toList.length)) : numV s = 0 ∧ numB s = false := by
  have : numS s = none := by unfold numS refNum; rw [if_pos h]
  unfold numV numB; rw [this]; exact ⟨rfl, rfl⟩
theorem num_pass {s : ByteArray} (h : ¬ (ds s.data.toList = [] ∨ 9 < (ds s.data.toList).length ∨ ((ds s.data.toList).head? = some 48 ∧ 1 < s.data.toList.length))) : numS s = (Lib.decFrom 0 (ds s.data.toList)).map (sgn (ng s.data.toList)) := by
  unfold numS refNum; rw [if_neg h]
theorem decFrom_bad : ∀ (l : List UInt8) (k acc : Nat), k < l.length → Lib.digitVal (l.getD k 0) = none → Lib.decFrom acc l = none
  | [], k, acc, h, _ => by simp at h
  | a :: l, 0, acc, _, h => by
    have : Lib.digitVal a = none := by simpa using h
    simp [Lib.decFrom, this]
  | a :: l, k + 1, acc, hk, h => by
    simp only [Lib.decFrom]
    split
    · exact decFrom_bad l k _ (by simpa using hk) (by simpa using h)
    · rfl
theorem dec_lt : ∀ (l : List UInt8) (k n : Nat), l.length ≤ 9 → Lib.decFrom 0 (l.take k) = some n → n < 1000000000000000 := by
  intro l k n hl h
  have := Lib.decFrom_lt _ _ _ h
  have h2 : (l.take k).length ≤ 9 := by rw [List.length_take]; omega
  have h3 : 10 ^ (l.take k).length ≤ 10 ^ 9 := Nat.pow_le_pow_right (by decide) h2
  omega
def atN (b : Bool) : Nat := if b = true then 1 else 0
theorem ds_len {s : ByteArray} (h : ng s.data.toList = true → 0 < s.size) : (ds s.data.toList).length + atN (ng s.data.toList) = s.size := by
  unfold ds atN
  have := ba_len s
  split
  · rename_i hb; have := h hb; rw [List.length_tail]; omega
  · omega
theorem ds_get {s : ByteArray} (j : Nat) : (ds s.data.toList).getD j 0 = s.data.toList.getD (atN (ng s.data.toList) + j) 0 := by
  unfold ds atN
  split
  · rw [Nat.add_comm]
    cases s.data.toList with
    | nil => simp
    | cons a r => simp
  · simp
theorem ng_byte {s : ByteArray} : ng s.data.toList = true ↔ 0 < s.size ∧ byteAt s 0 = 45 := by
  have hl := ba_len s
  unfold ng byteAt
  cases h : s.data.toList with
  | nil => rw [h] at hl; simp at hl ⊢; try omega
  | cons a r =>
    rw [h] at hl
    simp only [List.length_cons] at hl
    simp only [List.head?_cons, Option.some.injEq, decide_eq_true_eq, List.getD_cons_zero]
    constructor
    · intro e; subst e; exact ⟨by omega, rfl⟩
    · intro e; exact UInt8.toNat_inj.1 (by rw [e.2]; rfl)
theorem head_byte {s : ByteArray} (h : 0 < (ds s.data.toList).length) : ((ds s.data.toList).head? = some 48 ↔ byteAt s (atN (ng s.data.toList)) = 48) := by
  have hg := ds_get (s := s) 0
  rw [Nat.add_zero] at hg
  rw [byteAt_eq, ← hg]
  cases hd : ds s.data.toList with
  | nil => rw [hd] at h; simp at h
  | cons a r =>
    simp only [List.head?_cons, Option.some.injEq, List.getD_cons_zero]
    constructor
    · intro e; subst e; rfl
    · intro e; exact UInt8.toNat_inj.1 (by rw [e]; rfl)
set_option maxHeartbeats 8000000 in
theorem rNumber_c (s : ByteArray) (hs : s.size < 1000) : RealCall Tryz.prog 58 [.str s, .int .i64 9] (.tup [.int .i64 (numV s), .bool (numB s)]) true := by
  have hgl := @ds_len s (fun h => (ng_byte.1 h).1)
  have hge := fun j => ds_get (s := s) j
  have hnb := @ng_byte s
  have hhb := fun h => head_byte (s := s) h
  have hfa := @num_fail s
  have hpa := @num_pass s
  rw [ba_len] at hfa hpa
  have hbd := fun k n hl => dec_lt (ds s.data.toList) k n hl
  have hbad := fun k => decFrom_bad (ds s.data.toList) k 0
  have htk := fun (k acc n : Nat) (b : UInt8) (d : Nat) => Lib.decFrom_take (ds s.data.toList) k acc n b d
  have hbt := byteAt_eq s
  generalize hD : ds s.data.toList = D at *
  generalize hG : ng s.data.toList = g at *
  clear hD hG
  have kall := keep (And.intro hge (And.intro hfa (And.intro hpa (And.intro hbd (And.intro hbad (And.intro htk hbt))))))
  clear hge hfa hpa hbd hbad htk hbt
  cases g
  · have hat : atN false = 0 := rfl
    rw [hat] at hgl hhb
    obtain ⟨hge, hfa, hpa, hbd, hbad, htk, hbt⟩ := (show _ ∧ _ ∧ _ ∧ _ ∧ _ ∧ _ ∧ _ from kall)
    rw [hat] at hge
    simp only [Nat.zero_add] at hge
    have hng : ¬ (0 < s.size ∧ byteAt s 0 = 45) := fun h => by have := hnb.2 h; cases this
    have hg0 : (0 : Int) < (s.size : Int) → ¬ ((byteAt s 0 : Nat) : Int) = 45 := fun h1 h2 => hng ⟨by omega, by omega⟩
    rcases Nat.eq_zero_or_pos s.size with hg1 | hg1
    · obtain ⟨r1, r2⟩ := hfa (.inl (List.eq_nil_of_length_eq_zero (by omega)))
      rw [r1, r2]
      have hgI : ¬ (0 : Int) < (s.size : Int) := by omega
      have hgE : (s.size : Int) = 0 := by omega
      clear hfa hpa hge hbd hbad htk hbt r1 r2 kall hhb hnb hng hg0
      refine realcall_intro Tryz.func58 (by kernel_rfl) rfl (Nat.le_of_ble_eq_true (by kernel_rfl)) ?_
      simp only [Tryz.results58, Tryz.ntmps58]
      repeat' (first | (with_reducible first | refine awp_seq ?_ | refine awp_skip ?_ | refine awp_ret ?_ | refine awp_region ?_ | refine awp_condM ?_ | exact EqV_w | exact EqE_w | exact EqV_fn | exact EqE_fn | exact EqV_gd | exact EqE_gd | intro _) | (simp [*, hgI, hgE]))
      all_goals try first | exact inI64 (by omega) (by omega) | omega
    have hg1I : (0 : Int) < (s.size : Int) := by omega
    have hg2 := hg0 hg1I
    clear hng hg0
    by_cases hc : D = [] ∨ 9 < D.length ∨ (D.head? = some 48 ∧ 1 < s.size)
    · obtain ⟨r1, r2⟩ := hfa hc
      rw [r1, r2]
      have kc := keep hc
      have khh := keep hhb
      have hD0 : D = [] ↔ D.length = 0 := List.length_eq_zero_iff.symm
      have kD := keep hD0
      clear hc hfa hpa hge hbd hbad htk hbt r1 r2 kall hhb hnb hD0
      by_cases z1 : s.size = 0
      · have z1I : (s.size : Int) = 0 := by omega
        refine realcall_intro Tryz.func58 (by kernel_rfl) rfl (Nat.le_of_ble_eq_true (by kernel_rfl)) ?_
        simp only [Tryz.results58, Tryz.ntmps58]
        repeat' (first | (with_reducible first | refine awp_seq ?_ | refine awp_skip ?_ | refine awp_ret ?_ | refine awp_region ?_ | refine awp_condM ?_ | exact EqV_w | exact EqE_w | exact EqV_fn | exact EqE_fn | exact EqV_gd | exact EqE_gd | intro _) | (simp [*, z1, hg1I, hg2]))
        all_goals try first | exact inI64 (by omega) (by omega) | omega
      · have z1I : ¬ (s.size : Int) = 0 := by omega
        by_cases z2 : 9 < D.length
        · have z2I : (9 : Int) < (s.size : Int) := by omega
          refine realcall_intro Tryz.func58 (by kernel_rfl) rfl (Nat.le_of_ble_eq_true (by kernel_rfl)) ?_
          simp only [Tryz.results58, Tryz.ntmps58]
          repeat' (first | (with_reducible first | refine awp_seq ?_ | refine awp_skip ?_ | refine awp_ret ?_ | refine awp_region ?_ | refine awp_condM ?_ | refine And.intro ?_ ?_ | exact EqV_w | exact EqE_w | exact EqV_fn | exact EqE_fn | exact EqV_gd | exact EqE_gd | intro _) | (simp [*, z1I, z1, z2I, hg1I, hg2]))
          all_goals try first | exact inI64 (by omega) (by omega) | omega
        · have z2I : ¬ (9 : Int) < (s.size : Int) := by omega
          have z3 : D.head? = some 48 ∧ 1 < s.size := by
            rcases (show _ ∨ _ ∨ _ from kc) with h | h | h
            · have := (show D = [] ↔ _ from kD).1 h; omega
            · exact absurd h z2
            · exact h
          have z3b : byteAt s 0 = 48 := ((show _ → _ from khh) (by omega)).1 z3.1
          have z3I : (1 : Int) < (s.size : Int) := by omega
          have z4I : (0 : Int) < (s.size : Int) := by omega
          clear z3 kc khh kD
          refine realcall_intro Tryz.func58 (by kernel_rfl) rfl (Nat.le_of_ble_eq_true (by kernel_rfl)) ?_
          simp only [Tryz.results58, Tryz.ntmps58]
          repeat' (first | (with_reducible first | refine awp_seq ?_ | refine awp_skip ?_ | refine awp_ret ?_ | refine awp_region ?_ | refine awp_condM ?_ | refine And.intro ?_ ?_ | exact EqV_w | exact EqE_w | exact EqV_fn | exact EqE_fn | exact EqV_gd | exact EqE_gd | intro _) | (simp [*, z1I, z1, z2I, z3b, z3I, z4I, hg1I, hg2]))
          all_goals try first | exact inI64 (by omega) (by omega) | omega
    · have hv := hpa hc
      have hD0 : D ≠ [] := fun e => hc (.inl e)
      have hDp : 0 < D.length := List.length_pos_iff.2 hD0
      have z1 : ¬ s.size = 0 := by omega
      have z1I : ¬ (s.size : Int) = 0 := by omega
      have z2I : ¬ (9 : Int) < (s.size : Int) := by
        have : ¬ 9 < D.length := fun e => hc (.inr (.inl e))
        omega
      have hD15 : D.length ≤ 9 := by
        rcases Nat.lt_or_ge 9 D.length with h | h
        · exact absurd (.inr (.inl h)) hc
        · exact h
      have z3 : byteAt s 0 = 48 → ¬ (1 : Int) < (s.size : Int) := fun e h => hc (.inr (.inr ⟨(hhb hDp).2 e, by omega⟩))
      have z4I : (0 : Int) < (s.size : Int) := by omega
      have kv := keep hv
      have kall2 := keep (And.intro hge (And.intro hbd (And.intro hbad (And.intro htk hbt))))
      clear hc hfa hpa hge hbd hbad htk hbt kall hhb hnb hD0 hv
      have kz3 := keep z3
      clear z3
      have main : True := trivial
      by_cases z5 : byteAt s 0 = 48
      · have z6 := (show _ → _ from kz3) z5
        refine realcall_intro Tryz.func58 (by kernel_rfl) rfl (Nat.le_of_ble_eq_true (by kernel_rfl)) ?_
        simp only [Tryz.results58, Tryz.ntmps58]
        repeat' (first | (with_reducible first | refine awp_seq ?_ | refine awp_skip ?_ | refine awp_region ?_ | refine awp_condM ?_ | refine And.intro ?_ ?_ | exact EqV_w | exact EqE_w | exact EqV_fn | exact EqE_fn | exact EqV_gd | exact EqE_gd | intro _) | (simp [*, z1I, z1, z2I, z5, z6, z4I, hg1I, hg2]))
        all_goals try first | exact inI64 (by omega) (by omega) | omega
        refine awp_for3 (fun (x : Nat × Nat) => x.1 ≤ D.length ∧ Lib.decFrom 0 (D.take x.1) = some x.2) [0, 6] (fun (x : Nat × Nat) => [(8, .w false false (.int .i64 ((x.1 : Nat) : Int))), (7, .w false false (.int .i64 x.2))]) [] (fun (x : Nat × Nat) => []) (fun (x : Nat × Nat) => D.length - x.1) (fun (y : Nat) => Lib.decFrom 0 D = some y ∧ y < 1000000000000000) [6] (fun (y : Nat) => [(7, .w false false (.int .i64 y))]) [] (fun (y : Nat) => []) (((0 : Nat), (0 : Nat))) ⟨Nat.zero_le _, rfl⟩ (by simp) (by simp) (fun x hk => ?_) (fun y hf => ?_)
        · obtain ⟨j, acc⟩ := x
          obtain ⟨hj, hacc⟩ := hk
          dsimp only at hj hacc
          obtain ⟨hge, hbd, hbad, htk, hbt⟩ := (show _ ∧ _ ∧ _ ∧ _ ∧ _ from kall2)
          have hab := hbd j acc hD15 hacc
          by_cases hlt : j < D.length
          · have w1 : ((j : Nat) : Int) < (s.size : Int) := by omega
            have w2 : j < s.size := by omega
            have hgj := hge j
            have hbj := hbt (j)
            rw [← hgj] at hbj
            have hDj : D[j]? = some (D.getD j 0) := by rw [List.getD_eq_getElem?_getD, List.getElem?_eq_getElem hlt]; rfl
            by_cases hlo : byteAt s (j) < 48
            · have hloI : ((byteAt s (j) : Nat) : Int) < 48 := by omega
              have hn := hbad j hlt (digitVal_no (.inl (by omega)))
              rw [hn] at kv
              have hz : numV s = 0 ∧ numB s = false := by
                have : numS s = none := (show numS s = _ from kv)
                unfold numV numB; rw [this]; exact ⟨rfl, rfl⟩
              clear kall2 hge hbd hbad htk hbt kv hDj hn hacc hgj hbj
              repeat' (first | (with_reducible first | refine awp_seq ?_ | refine awp_blockS ?_ | refine awp_skip ?_ | refine awp_ret ?_ | refine awp_region ?_ | refine awp_condM ?_ | exact EqV_w | exact EqE_w | exact EqV_fn | exact EqE_fn | exact EqV_gd | exact EqE_gd | intro _) | (simp [*, w1, w2, hloI, hz.1, hz.2]))
              all_goals try first | exact inI64 (by omega) (by omega) | omega
            · have hloI : ¬ ((byteAt s (j) : Nat) : Int) < 48 := by omega
              by_cases hhi : 57 < byteAt s (j)
              · have hhiI : (57 : Int) < ((byteAt s (j) : Nat) : Int) := by omega
                have hn := hbad j hlt (digitVal_no (.inr (by omega)))
                rw [hn] at kv
                have hz : numV s = 0 ∧ numB s = false := by
                  have : numS s = none := (show numS s = _ from kv)
                  unfold numV numB; rw [this]; exact ⟨rfl, rfl⟩
                clear kall2 hge hbd hbad htk hbt kv hDj hn hacc hgj hbj
                repeat' (first | (with_reducible first | refine awp_seq ?_ | refine awp_blockS ?_ | refine awp_skip ?_ | refine awp_ret ?_ | refine awp_region ?_ | refine awp_condM ?_ | exact EqV_w | exact EqE_w | exact EqV_fn | exact EqE_fn | exact EqV_gd | exact EqE_gd | intro _) | (simp [*, w1, w2, hloI, hhiI, hz.1, hz.2]))
                all_goals try first | exact inI64 (by omega) (by omega) | omega
              · have hhiI : ¬ (57 : Int) < ((byteAt s (j) : Nat) : Int) := by omega
                have hd := digitVal_some (b := D.getD j 0) (by omega) (by omega)
                rw [← hbj] at hd
                have hn := keep (htk j 0 acc _ _ hacc hDj hd)
                have hc1 : 48 ≤ byteAt s (j) ∧ byteAt s (j) ≤ 57 := by omega
                have kn : Keep (((acc * 10 + (byteAt s (j) - 48) : Nat) : Int) = 10 * (acc : Int) + (((byteAt s (j) : Nat) : Int) - 48)) := keep (by omega)
                clear kall2 hge hbd hbad htk hbt kv hDj hacc hgj hbj hd
                repeat' (first | (with_reducible first | refine awp_seq ?_ | refine awp_blockS ?_ | refine awp_skip ?_ | refine awp_region ?_ | refine awp_condM ?_ | refine And.intro ?_ ?_ | exact EqV_w | exact EqE_w | exact EqV_fn | exact EqE_fn | exact EqV_gd | exact EqE_gd | intro _) | (simp [*, w1, w2, hloI, hhiI]))
                all_goals try first | exact inI64 (by omega) (by omega) | omega | exact (show inI .u8 _ from ⟨by show (0 : Int) ≤ _; omega, by show _ ≤ (255 : Int); omega⟩)
                all_goals (refine loopK_normal _ _ _ _ _ (j + 1, acc * 10 + (byteAt s (j) - 48)) _ ?_ (by first | omega | (dsimp only; omega) | (simp; omega)) ?_; (· exact ⟨by omega, hn⟩); (refine le_of ?_ ?_ <;> first | trivial | (simp [*, (show _ = 10 * (acc : Int) + (((byteAt s (j) : Nat) : Int) - 48) from kn), Nat.add_assoc, Int.add_assoc]; done)))
          · have hje : j = D.length := by omega
            subst hje
            rw [List.take_length] at hacc
            have w1 : ((D.length : Nat) : Int) = (s.size : Int) := by omega
            have w3 : D.length = s.size := by omega
            have kf := keep hacc
            clear kall2 hge hbd hbad htk hbt kv hacc
            repeat' (first | (with_reducible first | refine awp_seq ?_ | refine awp_exit ?_ | refine awp_region ?_ | refine awp_condM ?_ | exact EqV_w | exact EqE_w | exact EqV_fn | exact EqE_fn | exact EqV_gd | exact EqE_gd | intro _) | (simp [*, w3, w1]))
            all_goals (refine finW_intro acc ?_ ?_; (· exact ⟨kf, hab⟩); (refine le_of ?_ ?_ <;> first | trivial | (simp [*]; done)))
        · obtain ⟨hy, hyb⟩ := hf
          rw [hy] at kv
          have hz : numV s = sgn false y ∧ numB s = true := by
            have : numS s = some (sgn false y) := (show numS s = _ from kv)
            unfold numV numB; rw [this]; exact ⟨rfl, rfl⟩
          have hsg : sgn false y = ((y : Nat) : Int) := rfl
          clear kv kall2 hy
          repeat' (first | (with_reducible first | refine awp_seq ?_ | refine awp_skip ?_ | refine awp_ret ?_ | refine awp_region ?_ | refine awp_condM ?_ | exact EqV_w | exact EqE_w | exact EqV_fn | exact EqE_fn | exact EqV_gd | exact EqE_gd | intro _) | (simp [*, hz.1, hz.2, hsg]))
          all_goals try first | exact inI64 (by omega) (by omega) | omega
      · have z5I : ¬ ((byteAt s 0 : Nat) : Int) = 48 := by omega
        refine realcall_intro Tryz.func58 (by kernel_rfl) rfl (Nat.le_of_ble_eq_true (by kernel_rfl)) ?_
        simp only [Tryz.results58, Tryz.ntmps58]
        repeat' (first | (with_reducible first | refine awp_seq ?_ | refine awp_skip ?_ | refine awp_region ?_ | refine awp_condM ?_ | refine And.intro ?_ ?_ | exact EqV_w | exact EqE_w | exact EqV_fn | exact EqE_fn | exact EqV_gd | exact EqE_gd | intro _) | (simp [*, z1I, z1, z2I, z5, z5I, z4I, hg1I, hg2]))
        all_goals try first | exact inI64 (by omega) (by omega) | omega
        refine awp_for3 (fun (x : Nat × Nat) => x.1 ≤ D.length ∧ Lib.decFrom 0 (D.take x.1) = some x.2) [0, 6] (fun (x : Nat × Nat) => [(8, .w false false (.int .i64 ((x.1 : Nat) : Int))), (7, .w false false (.int .i64 x.2))]) [] (fun (x : Nat × Nat) => []) (fun (x : Nat × Nat) => D.length - x.1) (fun (y : Nat) => Lib.decFrom 0 D = some y ∧ y < 1000000000000000) [6] (fun (y : Nat) => [(7, .w false false (.int .i64 y))]) [] (fun (y : Nat) => []) (((0 : Nat), (0 : Nat))) ⟨Nat.zero_le _, rfl⟩ (by simp) (by simp) (fun x hk => ?_) (fun y hf => ?_)
        · obtain ⟨j, acc⟩ := x
          obtain ⟨hj, hacc⟩ := hk
          dsimp only at hj hacc
          obtain ⟨hge, hbd, hbad, htk, hbt⟩ := (show _ ∧ _ ∧ _ ∧ _ ∧ _ from kall2)
          have hab := hbd j acc hD15 hacc
          by_cases hlt : j < D.length
          · have w1 : ((j : Nat) : Int) < (s.size : Int) := by omega
            have w2 : j < s.size := by omega
            have hgj := hge j
            have hbj := hbt (j)
            rw [← hgj] at hbj
            have hDj : D[j]? = some (D.getD j 0) := by rw [List.getD_eq_getElem?_getD, List.getElem?_eq_getElem hlt]; rfl
            by_cases hlo : byteAt s (j) < 48
            · have hloI : ((byteAt s (j) : Nat) : Int) < 48 := by omega
              have hn := hbad j hlt (digitVal_no (.inl (by omega)))
              rw [hn] at kv
              have hz : numV s = 0 ∧ numB s = false := by
                have : numS s = none := (show numS s = _ from kv)
                unfold numV numB; rw [this]; exact ⟨rfl, rfl⟩
              clear kall2 hge hbd hbad htk hbt kv hDj hn hacc hgj hbj
              repeat' (first | (with_reducible first | refine awp_seq ?_ | refine awp_blockS ?_ | refine awp_skip ?_ | refine awp_ret ?_ | refine awp_region ?_ | refine awp_condM ?_ | exact EqV_w | exact EqE_w | exact EqV_fn | exact EqE_fn | exact EqV_gd | exact EqE_gd | intro _) | (simp [*, w1, w2, hloI, hz.1, hz.2]))
              all_goals try first | exact inI64 (by omega) (by omega) | omega
            · have hloI : ¬ ((byteAt s (j) : Nat) : Int) < 48 := by omega
              by_cases hhi : 57 < byteAt s (j)
              · have hhiI : (57 : Int) < ((byteAt s (j) : Nat) : Int) := by omega
                have hn := hbad j hlt (digitVal_no (.inr (by omega)))
                rw [hn] at kv
                have hz : numV s = 0 ∧ numB s = false := by
                  have : numS s = none := (show numS s = _ from kv)
                  unfold numV numB; rw [this]; exact ⟨rfl, rfl⟩
                clear kall2 hge hbd hbad htk hbt kv hDj hn hacc hgj hbj
                repeat' (first | (with_reducible first | refine awp_seq ?_ | refine awp_blockS ?_ | refine awp_skip ?_ | refine awp_ret ?_ | refine awp_region ?_ | refine awp_condM ?_ | exact EqV_w | exact EqE_w | exact EqV_fn | exact EqE_fn | exact EqV_gd | exact EqE_gd | intro _) | (simp [*, w1, w2, hloI, hhiI, hz.1, hz.2]))
                all_goals try first | exact inI64 (by omega) (by omega) | omega
              · have hhiI : ¬ (57 : Int) < ((byteAt s (j) : Nat) : Int) := by omega
                have hd := digitVal_some (b := D.getD j 0) (by omega) (by omega)
                rw [← hbj] at hd
                have hn := keep (htk j 0 acc _ _ hacc hDj hd)
                have hc1 : 48 ≤ byteAt s (j) ∧ byteAt s (j) ≤ 57 := by omega
                have kn : Keep (((acc * 10 + (byteAt s (j) - 48) : Nat) : Int) = 10 * (acc : Int) + (((byteAt s (j) : Nat) : Int) - 48)) := keep (by omega)
                clear kall2 hge hbd hbad htk hbt kv hDj hacc hgj hbj hd
                repeat' (first | (with_reducible first | refine awp_seq ?_ | refine awp_blockS ?_ | refine awp_skip ?_ | refine awp_region ?_ | refine awp_condM ?_ | refine And.intro ?_ ?_ | exact EqV_w | exact EqE_w | exact EqV_fn | exact EqE_fn | exact EqV_gd | exact EqE_gd | intro _) | (simp [*, w1, w2, hloI, hhiI]))
                all_goals try first | exact inI64 (by omega) (by omega) | omega | exact (show inI .u8 _ from ⟨by show (0 : Int) ≤ _; omega, by show _ ≤ (255 : Int); omega⟩)
                all_goals (refine loopK_normal _ _ _ _ _ (j + 1, acc * 10 + (byteAt s (j) - 48)) _ ?_ (by first | omega | (dsimp only; omega) | (simp; omega)) ?_; (· exact ⟨by omega, hn⟩); (refine le_of ?_ ?_ <;> first | trivial | (simp [*, (show _ = 10 * (acc : Int) + (((byteAt s (j) : Nat) : Int) - 48) from kn), Nat.add_assoc, Int.add_assoc]; done)))
          · have hje : j = D.length := by omega
            subst hje
            rw [List.take_length] at hacc
            have w1 : ((D.length : Nat) : Int) = (s.size : Int) := by omega
            have w3 : D.length = s.size := by omega
            have kf := keep hacc
            clear kall2 hge hbd hbad htk hbt kv hacc
            repeat' (first | (with_reducible first | refine awp_seq ?_ | refine awp_exit ?_ | refine awp_region ?_ | refine awp_condM ?_ | exact EqV_w | exact EqE_w | exact EqV_fn | exact EqE_fn | exact EqV_gd | exact EqE_gd | intro _) | (simp [*, w3, w1]))
            all_goals (refine finW_intro acc ?_ ?_; (· exact ⟨kf, hab⟩); (refine le_of ?_ ?_ <;> first | trivial | (simp [*]; done)))
        · obtain ⟨hy, hyb⟩ := hf
          rw [hy] at kv
          have hz : numV s = sgn false y ∧ numB s = true := by
            have : numS s = some (sgn false y) := (show numS s = _ from kv)
            unfold numV numB; rw [this]; exact ⟨rfl, rfl⟩
          have hsg : sgn false y = ((y : Nat) : Int) := rfl
          clear kv kall2 hy
          repeat' (first | (with_reducible first | refine awp_seq ?_ | refine awp_skip ?_ | refine awp_ret ?_ | refine awp_region ?_ | refine awp_condM ?_ | exact EqV_w | exact EqE_w | exact EqV_fn | exact EqE_fn | exact EqV_gd | exact EqE_gd | intro _) | (simp [*, hz.1, hz.2, hsg]))
          all_goals try first | exact inI64 (by omega) (by omega) | omega
  · have hat : atN true = 1 := rfl
    rw [hat] at hgl hhb
    obtain ⟨hge, hfa, hpa, hbd, hbad, htk, hbt⟩ := (show _ ∧ _ ∧ _ ∧ _ ∧ _ ∧ _ ∧ _ from kall)
    rw [hat] at hge
    obtain ⟨hg1, hg2⟩ := hnb.1 rfl
    have hg1I : (0 : Int) < (s.size : Int) := by omega
    by_cases hc : D = [] ∨ 9 < D.length ∨ (D.head? = some 48 ∧ 1 < s.size)
    · obtain ⟨r1, r2⟩ := hfa hc
      rw [r1, r2]
      have kc := keep hc
      have khh := keep hhb
      have hD0 : D = [] ↔ D.length = 0 := List.length_eq_zero_iff.symm
      have kD := keep hD0
      clear hc hfa hpa hge hbd hbad htk hbt r1 r2 kall hhb hnb hD0
      by_cases z1 : s.size = 1
      · have z1I : (s.size : Int) = 1 := by omega
        refine realcall_intro Tryz.func58 (by kernel_rfl) rfl (Nat.le_of_ble_eq_true (by kernel_rfl)) ?_
        simp only [Tryz.results58, Tryz.ntmps58]
        repeat' (first | (with_reducible first | refine awp_seq ?_ | refine awp_ret ?_ | refine awp_region ?_ | refine awp_condM ?_ | exact EqV_w | exact EqE_w | exact EqV_fn | exact EqE_fn | exact EqV_gd | exact EqE_gd | intro _) | (simp [*, z1, hg1I, hg2]))
        all_goals try first | exact inI64 (by omega) (by omega) | omega
      · have z1I : ¬ (s.size : Int) = 1 := by omega
        by_cases z2 : 9 < D.length
        · have z2I : (9 : Int) < (s.size : Int) - 1 := by omega
          refine realcall_intro Tryz.func58 (by kernel_rfl) rfl (Nat.le_of_ble_eq_true (by kernel_rfl)) ?_
          simp only [Tryz.results58, Tryz.ntmps58]
          repeat' (first | (with_reducible first | refine awp_seq ?_ | refine awp_ret ?_ | refine awp_region ?_ | refine awp_condM ?_ | refine And.intro ?_ ?_ | exact EqV_w | exact EqE_w | exact EqV_fn | exact EqE_fn | exact EqV_gd | exact EqE_gd | intro _) | (simp [*, z1I, z1, z2I, hg1I, hg2]))
          all_goals try first | exact inI64 (by omega) (by omega) | omega
        · have z2I : ¬ (9 : Int) < (s.size : Int) - 1 := by omega
          have z3 : D.head? = some 48 ∧ 1 < s.size := by
            rcases (show _ ∨ _ ∨ _ from kc) with h | h | h
            · have := (show D = [] ↔ _ from kD).1 h; omega
            · exact absurd h z2
            · exact h
          have z3b : byteAt s 1 = 48 := ((show _ → _ from khh) (by omega)).1 z3.1
          have z3I : (1 : Int) < (s.size : Int) := by omega
          have z4I : (1 : Int) < (s.size : Int) := by omega
          clear z3 kc khh kD
          refine realcall_intro Tryz.func58 (by kernel_rfl) rfl (Nat.le_of_ble_eq_true (by kernel_rfl)) ?_
          simp only [Tryz.results58, Tryz.ntmps58]
          repeat' (first | (with_reducible first | refine awp_seq ?_ | refine awp_ret ?_ | refine awp_region ?_ | refine awp_condM ?_ | refine And.intro ?_ ?_ | exact EqV_w | exact EqE_w | exact EqV_fn | exact EqE_fn | exact EqV_gd | exact EqE_gd | intro _) | (simp [*, z1I, z1, z2I, z3b, z3I, z4I, hg1I, hg2]))
          all_goals try first | exact inI64 (by omega) (by omega) | omega
    · have hv := hpa hc
      have hD0 : D ≠ [] := fun e => hc (.inl e)
      have hDp : 0 < D.length := List.length_pos_iff.2 hD0
      have z1 : ¬ s.size = 1 := by omega
      have z1I : ¬ (s.size : Int) = 1 := by omega
      have z2I : ¬ (9 : Int) < (s.size : Int) - 1 := by
        have : ¬ 9 < D.length := fun e => hc (.inr (.inl e))
        omega
      have hD15 : D.length ≤ 9 := by
        rcases Nat.lt_or_ge 9 D.length with h | h
        · exact absurd (.inr (.inl h)) hc
        · exact h
      have z3 : byteAt s 1 = 48 → ¬ (1 : Int) < (s.size : Int) := fun e h => hc (.inr (.inr ⟨(hhb hDp).2 e, by omega⟩))
      have z4I : (1 : Int) < (s.size : Int) := by omega
      have kv := keep hv
      have kall2 := keep (And.intro hge (And.intro hbd (And.intro hbad (And.intro htk hbt))))
      clear hc hfa hpa hge hbd hbad htk hbt kall hhb hnb hD0 hv
      have kz3 := keep z3
      clear z3
      have main : True := trivial
      by_cases z5 : byteAt s 1 = 48
      · exact absurd z4I ((show _ → _ from kz3) z5)
      · have z5I : ¬ ((byteAt s 1 : Nat) : Int) = 48 := by omega
        refine realcall_intro Tryz.func58 (by kernel_rfl) rfl (Nat.le_of_ble_eq_true (by kernel_rfl)) ?_
        simp only [Tryz.results58, Tryz.ntmps58]
        repeat' (first | (with_reducible first | refine awp_seq ?_ | refine awp_skip ?_ | refine awp_region ?_ | refine awp_condM ?_ | refine And.intro ?_ ?_ | exact EqV_w | exact EqE_w | exact EqV_fn | exact EqE_fn | exact EqV_gd | exact EqE_gd | intro _) | (simp [*, z1I, z1, z2I, z5, z5I, z4I, hg1I, hg2]))
        all_goals try first | exact inI64 (by omega) (by omega) | omega
        refine awp_for3 (fun (x : Nat × Nat) => x.1 ≤ D.length ∧ Lib.decFrom 0 (D.take x.1) = some x.2) [0, 6] (fun (x : Nat × Nat) => [(8, .w false false (.int .i64 ((1 + x.1 : Nat) : Int))), (7, .w false false (.int .i64 x.2))]) [] (fun (x : Nat × Nat) => []) (fun (x : Nat × Nat) => D.length - x.1) (fun (y : Nat) => Lib.decFrom 0 D = some y ∧ y < 1000000000000000) [6] (fun (y : Nat) => [(7, .w false false (.int .i64 y))]) [] (fun (y : Nat) => []) (((0 : Nat), (0 : Nat))) ⟨Nat.zero_le _, rfl⟩ (by simp) (by simp) (fun x hk => ?_) (fun y hf => ?_)
        · obtain ⟨j, acc⟩ := x
          obtain ⟨hj, hacc⟩ := hk
          dsimp only at hj hacc
          obtain ⟨hge, hbd, hbad, htk, hbt⟩ := (show _ ∧ _ ∧ _ ∧ _ ∧ _ from kall2)
          have hab := hbd j acc hD15 hacc
          by_cases hlt : j < D.length
          · have w1 : ((1 + j : Nat) : Int) < (s.size : Int) := by omega
            have w2 : 1 + j < s.size := by omega
            have w1I : (1 : Int) + (j : Int) < (s.size : Int) := by omega
            have hnat : ((1 : Int) + (j : Int)).toNat = 1 + j := by omega
            have hgj := hge j
            have hbj := hbt (1 + j)
            rw [← hgj] at hbj
            have hDj : D[j]? = some (D.getD j 0) := by rw [List.getD_eq_getElem?_getD, List.getElem?_eq_getElem hlt]; rfl
            by_cases hlo : byteAt s (1 + j) < 48
            · have hloI : ((byteAt s (1 + j) : Nat) : Int) < 48 := by omega
              have hn := hbad j hlt (digitVal_no (.inl (by omega)))
              rw [hn] at kv
              have hz : numV s = 0 ∧ numB s = false := by
                have : numS s = none := (show numS s = _ from kv)
                unfold numV numB; rw [this]; exact ⟨rfl, rfl⟩
              clear kall2 hge hbd hbad htk hbt kv hDj hn hacc hgj hbj
              repeat' (first | (with_reducible first | refine awp_seq ?_ | refine awp_blockS ?_ | refine awp_skip ?_ | refine awp_ret ?_ | refine awp_region ?_ | refine awp_condM ?_ | refine And.intro ?_ ?_ | exact EqV_w | exact EqE_w | exact EqV_fn | exact EqE_fn | exact EqV_gd | exact EqE_gd | intro _) | (simp [*, w1, w2, w1I, hnat, hloI, hz.1, hz.2]))
              all_goals try first | exact inI64 (by omega) (by omega) | omega
            · have hloI : ¬ ((byteAt s (1 + j) : Nat) : Int) < 48 := by omega
              by_cases hhi : 57 < byteAt s (1 + j)
              · have hhiI : (57 : Int) < ((byteAt s (1 + j) : Nat) : Int) := by omega
                have hn := hbad j hlt (digitVal_no (.inr (by omega)))
                rw [hn] at kv
                have hz : numV s = 0 ∧ numB s = false := by
                  have : numS s = none := (show numS s = _ from kv)
                  unfold numV numB; rw [this]; exact ⟨rfl, rfl⟩
                clear kall2 hge hbd hbad htk hbt kv hDj hn hacc hgj hbj
                repeat' (first | (with_reducible first | refine awp_seq ?_ | refine awp_blockS ?_ | refine awp_skip ?_ | refine awp_ret ?_ | refine awp_region ?_ | refine awp_condM ?_ | refine And.intro ?_ ?_ | exact EqV_w | exact EqE_w | exact EqV_fn | exact EqE_fn | exact EqV_gd | exact EqE_gd | intro _) | (simp [*, w1, w2, w1I, hnat, hloI, hhiI, hz.1, hz.2]))
                all_goals try first | exact inI64 (by omega) (by omega) | omega
              · have hhiI : ¬ (57 : Int) < ((byteAt s (1 + j) : Nat) : Int) := by omega
                have hd := digitVal_some (b := D.getD j 0) (by omega) (by omega)
                rw [← hbj] at hd
                have hn := keep (htk j 0 acc _ _ hacc hDj hd)
                have hc1 : 48 ≤ byteAt s (1 + j) ∧ byteAt s (1 + j) ≤ 57 := by omega
                have kn : Keep (((acc * 10 + (byteAt s (1 + j) - 48) : Nat) : Int) = 10 * (acc : Int) + (((byteAt s (1 + j) : Nat) : Int) - 48)) := keep (by omega)
                clear kall2 hge hbd hbad htk hbt kv hDj hacc hgj hbj hd
                repeat' (first | (with_reducible first | refine awp_seq ?_ | refine awp_blockS ?_ | refine awp_skip ?_ | refine awp_region ?_ | refine awp_condM ?_ | refine And.intro ?_ ?_ | exact EqV_w | exact EqE_w | exact EqV_fn | exact EqE_fn | exact EqV_gd | exact EqE_gd | intro _) | (simp [*, w1, w2, w1I, hnat, hloI, hhiI]))
                all_goals try first | exact inI64 (by omega) (by omega) | omega | exact (show inI .u8 _ from ⟨by show (0 : Int) ≤ _; omega, by show _ ≤ (255 : Int); omega⟩)
                all_goals (refine loopK_normal _ _ _ _ _ (j + 1, acc * 10 + (byteAt s (1 + j) - 48)) _ ?_ (by first | omega | (dsimp only; omega) | (simp; omega)) ?_; (· exact ⟨by omega, hn⟩); (refine le_of ?_ ?_ <;> first | trivial | (simp [*, (show _ = 10 * (acc : Int) + (((byteAt s (1 + j) : Nat) : Int) - 48) from kn), Nat.add_assoc, Int.add_assoc]; done)))
          · have hje : j = D.length := by omega
            subst hje
            rw [List.take_length] at hacc
            have w1 : ((1 + D.length : Nat) : Int) = (s.size : Int) := by omega
            have w3 : 1 + D.length = s.size := by omega
            have kf := keep hacc
            clear kall2 hge hbd hbad htk hbt kv hacc
            repeat' (first | (with_reducible first | refine awp_seq ?_ | refine awp_exit ?_ | refine awp_region ?_ | refine awp_condM ?_ | exact EqV_w | exact EqE_w | exact EqV_fn | exact EqE_fn | exact EqV_gd | exact EqE_gd | intro _) | (simp [*, w3, w1]))
            all_goals (refine finW_intro acc ?_ ?_; (· exact ⟨kf, hab⟩); (refine le_of ?_ ?_ <;> first | trivial | (simp [*]; done)))
        · obtain ⟨hy, hyb⟩ := hf
          rw [hy] at kv
          have hz : numV s = sgn true y ∧ numB s = true := by
            have : numS s = some (sgn true y) := (show numS s = _ from kv)
            unfold numV numB; rw [this]; exact ⟨rfl, rfl⟩
          have hsg : sgn true y = -((y : Nat) : Int) := rfl
          clear kv kall2 hy
          repeat' (first | (with_reducible first | refine awp_seq ?_ | refine awp_ret ?_ | refine awp_region ?_ | refine awp_condM ?_ | refine And.intro ?_ ?_ | exact EqV_w | exact EqE_w | exact EqV_fn | exact EqE_fn | exact EqV_gd | exact EqE_gd | intro _) | (simp [*, hz.1, hz.2, hsg]))
          all_goals try first | exact inI64 (by omega) (by omega) | omega
end Go.Proofs.YtfpamehamllndaaGreatDoor

