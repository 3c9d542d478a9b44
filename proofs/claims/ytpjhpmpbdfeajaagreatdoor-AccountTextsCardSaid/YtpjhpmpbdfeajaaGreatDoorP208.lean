/- Contracts of functions for this claim: lemmas alone. -/
import Derived.Test.YtpjhpmpbdfeajaaGreatDoorP207
import Derived.Test.YtpjhpmpbdfeajaaGreatDoorP102
import Derived.Test.YtpjhpmpbdfeajaaGreatDoorP13
set_option linter.unusedSimpArgs false
set_option linter.unusedVariables false
namespace Go.Proofs.YtpjhpmpbdfeajaaGreatDoor
open Go Go.Fi Go.RowKit
set_option maxRecDepth 20000

/-! ### the reference's texts -/
theorem wordsT_join (e : Entry) (k : Nat) (h : k < e.lines.length) : joinB (wordsT e (k + 1)) ⟨#[32]⟩ = ((((joinB (wordsT e k) ⟨#[32]⟩ ++ ⟨#[32]⟩) ++ (nth e.lines k).acc) ++ ⟨#[61]⟩) ++ dec (nth e.lines k).amt) := by
  rw [wordsT_succ e k h, joinB_snoc _ _ _ (by simp [wordsT])]
  unfold lineT
  simp only [ByteArray.append_assoc]
theorem wordsT_bd {e : Entry} (h : EntryT e) (k : Nat) (hk : k ≤ e.lines.length) : (joinB (wordsT e k) ⟨#[32]⟩).size ≤ 20000000000 := by
  have := joinB_size ⟨#[32]⟩ 1000100 (wordsT e k) (fun x hx => wordsT_size h x (by
    unfold wordsT at hx ⊢
    rw [List.take_length]
    simp only [List.mem_cons] at hx ⊢
    rcases hx with h1 | h1 | h1
    · exact .inl h1
    · exact .inr (.inl h1)
    · obtain ⟨y, hy, rfl⟩ := List.mem_map.1 h1
      exact .inr (.inr (List.mem_map.2 ⟨y, List.mem_of_mem_take hy, rfl⟩))))
  have h1 : (⟨#[32]⟩ : ByteArray).size = 1 := rfl
  rw [wordsT_len e k hk, h1] at this
  have h2 := h.len
  have h3 : (k + 2) * (1000100 + 1) ≤ 10002 * 1000101 := Nat.mul_le_mul (by omega) (Nat.le_refl _)
  omega
set_option maxHeartbeats 4000000 in
theorem rFormat_c (e : Entry) (h : EntryT e) : RealCall Tryz.prog 21 [.agg (cEntry e)] (.str (formatS e)) true := by
  have hlen := h.len
  have hno := h.note
  have c1 := decimal_c e.date h.dlo h.dhi
  have hds := dec_size h.dlo h.dhi
  have kh := keep h
  have hs1 : (⟨#[32]⟩ : ByteArray).size = 1 := rfl
  have hs2 : (⟨#[61]⟩ : ByteArray).size = 1 := rfl
  have hw0 : joinB (wordsT e 0) ⟨#[32]⟩ = (dec e.date ++ ⟨#[32]⟩) ++ e.note := by
    have : wordsT e 0 = [dec e.date] ++ [e.note] := by simp [wordsT]
    rw [this, joinB_snoc _ _ _ (by simp), joinB_one]
  unfold formatS cEntry
  clear h
  refine realcall_intro Tryz.func21 (by kernel_rfl) rfl (Nat.le_of_ble_eq_true (by kernel_rfl)) ?_
  simp only [Tryz.results21, Tryz.ntmps21]
  repeat' (first | (with_reducible first | refine awp_seq ?_ | refine awp_blockS ?_ | refine awp_blockC ?_ | refine awp_blockR ?_ | refine awp_skip ?_ | refine awp_ret ?_ | refine awp_exit ?_ | refine awp_region ?_ | refine awp_regionD (id := 1) 8 mixed (by decide +kernel) ?_ | refine awp_regionD (id := 5) 18 mixed (by decide +kernel) ?_ | refine awp_condM ?_ | refine And.intro ?_ ?_ | apply gQ_merge | apply gE_merge | exact EqV_w | exact EqE_w | exact EqV_ptr | exact EqE_ptr | exact EqV_msl | exact EqE_msl | exact EqV_agg | exact EqE_agg | exact EqV_fn | exact EqE_fn | exact EqV_gd | exact EqE_gd | refine gM_splitN ?_ ?_ | refine gM_split ?_ ?_ |  refine condM_splitDN ?_ ?_ | refine condM_splitD ?_ ?_ | refine condM_splitN ?_ ?_ | refine condM_split ?_ ?_ | refine condM_any ?_ ?_ | refine cw (c1) ?_ | intro _) | (simp [*, repl]) | (refine cw_eq (c1) ?_ ?_; (· (simp [*]; done))))
  all_goals try omega
  refine awp_for4 1 (fun (k : Nat) => k ≤ e.lines.length) [1] (fun (k : Nat) => [(4, .w false false (.int .i64 k)), (3, .w false false (.str (joinB (wordsT e k) ⟨#[32]⟩)))]) [0] (fun (k : Nat) => []) (fun (k : Nat) => e.lines.length - k) (fun (_u : Unit) => True) [] (fun (_u : Unit) => [(3, .w false false (.str (joinB (wordsT e e.lines.length) ⟨#[32]⟩)))]) [] (fun (_u : Unit) => []) (0) (Nat.zero_le _) (le_gen [] (by simp [hw0]) (by simp [hw0])) (fun k hk => ?_) (fun _u hf => ?_)
  · clear hw0 c1
    by_cases hlt : k < e.lines.length
    · have h := show EntryT e from kh
      have c2 := decimal_c (nth e.lines k).amt (h.lo k hlt) (h.hi k hlt)
      have hz := h.accs k hlt
      have hd := dec_size (h.lo k hlt) (h.hi k hlt)
      have ks := keep (wordsT_join e k hlt)
      have hb := wordsT_bd h k hk
      clear kh h
      generalize joinB (wordsT e k) ⟨#[32]⟩ = T at *
      generalize dec (nth e.lines k).amt = dd at *
      repeat' (first | (with_reducible first | refine awp_seq ?_ | refine awp_blockS ?_ | refine awp_blockC ?_ | refine awp_blockR ?_ | refine awp_skip ?_ | refine awp_ret ?_ | refine awp_exit ?_ | refine awp_region ?_ | refine awp_regionD (id := 1) 8 mixed (by decide +kernel) ?_ | refine awp_regionD (id := 5) 18 mixed (by decide +kernel) ?_ | refine awp_condM ?_ | refine And.intro ?_ ?_ | apply gQ_merge | apply gE_merge | exact EqV_w | exact EqE_w | exact EqV_ptr | exact EqE_ptr | exact EqV_msl | exact EqE_msl | exact EqV_agg | exact EqE_agg | exact EqV_fn | exact EqE_fn | exact EqV_gd | exact EqE_gd | refine gM_splitN ?_ ?_ | refine gM_split ?_ ?_ |  refine condM_splitDN ?_ ?_ | refine condM_splitD ?_ ?_ | refine condM_splitN ?_ ?_ | refine condM_split ?_ ?_ | refine condM_any ?_ ?_ | refine cw (c2) ?_ | intro _) | (simp [*, hlt, cLine]) | (refine cw_eq (c2) ?_ ?_; (· (simp [*]; done))))
      all_goals try first | exact inI64 (by omega) (by omega) | omega | (simp only [ByteArray.size_append]; omega)
      all_goals (refine loopK_normal _ _ _ _ _ (k + 1) _ ?_ (by first | omega | (dsimp only; omega) | (simp; omega)) ?_; (· omega); (refine le_gen [] ?_ ?_ <;> first | trivial | (simp [*, (show joinB (wordsT e (k + 1)) ⟨#[32]⟩ = _ from ks)]; done)))
    · have hke : k = e.lines.length := by omega
      subst hke
      clear kh
      repeat' (first | (with_reducible first | refine awp_seq ?_ | refine awp_blockS ?_ | refine awp_blockC ?_ | refine awp_blockR ?_ | refine awp_skip ?_ | refine awp_ret ?_ | refine awp_exit ?_ | refine awp_region ?_ | refine awp_regionD (id := 1) 8 mixed (by decide +kernel) ?_ | refine awp_regionD (id := 5) 18 mixed (by decide +kernel) ?_ | refine awp_condM ?_ | refine And.intro ?_ ?_ | apply gQ_merge | apply gE_merge | exact EqV_w | exact EqE_w | exact EqV_ptr | exact EqE_ptr | exact EqV_msl | exact EqE_msl | exact EqV_agg | exact EqE_agg | exact EqV_fn | exact EqE_fn | exact EqV_gd | exact EqE_gd | refine gM_splitN ?_ ?_ | refine gM_split ?_ ?_ |  refine condM_splitDN ?_ ?_ | refine condM_splitD ?_ ?_ | refine condM_splitN ?_ ?_ | refine condM_split ?_ ?_ | refine condM_any ?_ ?_ | intro _) | (simp [*]))
      all_goals (refine finW_intro () ?_ ?_; (· trivial); (refine le_gen [] ?_ ?_ <;> first | trivial | (simp [*]; done)))
  · clear hw0 kh c1
    repeat' (first | (with_reducible first | refine awp_seq ?_ | refine awp_blockS ?_ | refine awp_blockC ?_ | refine awp_blockR ?_ | refine awp_skip ?_ | refine awp_ret ?_ | refine awp_exit ?_ | refine awp_region ?_ | refine awp_regionD (id := 1) 8 mixed (by decide +kernel) ?_ | refine awp_regionD (id := 5) 18 mixed (by decide +kernel) ?_ | refine awp_condM ?_ | refine And.intro ?_ ?_ | apply gQ_merge | apply gE_merge | exact EqV_w | exact EqE_w | exact EqV_ptr | exact EqE_ptr | exact EqV_msl | exact EqE_msl | exact EqV_agg | exact EqE_agg | exact EqV_fn | exact EqE_fn | exact EqV_gd | exact EqE_gd | refine gM_splitN ?_ ?_ | refine gM_split ?_ ?_ |  refine condM_splitDN ?_ ?_ | refine condM_splitD ?_ ?_ | refine condM_splitN ?_ ?_ | refine condM_split ?_ ?_ | refine condM_any ?_ ?_ | intro _) | (simp [*]))
end Go.Proofs.YtpjhpmpbdfeajaaGreatDoor
namespace Go.Proofs.YtpjhpmpbdfeajaaGreatDoor
open Go Go.Fi Go.RowKit
set_option maxRecDepth 20000

/-! ### the reference reads an entry -/
theorem cutL_mem (c : UInt8) : ∀ (l : List UInt8) (x : List UInt8), x ∈ cutL c l → x.length ≤ l.length
  | [], x, h => by simp [cutL] at h; subst h; simp
  | b :: l, x, h => by
    unfold cutL at h
    have ih := cutL_mem c l
    split at h
    · rcases List.mem_cons.1 h with rfl | h
      · simp
      · have := ih x h; simp only [List.length_cons]; omega
    · split at h
      · rcases List.mem_singleton.1 h with rfl; simp
      · rename_i a t e
        rcases List.mem_cons.1 h with rfl | h
        · have := ih a (by rw [e]; simp); simp only [List.length_cons]; omega
        · have := ih x (by rw [e]; simp [h]); simp only [List.length_cons]; omega
theorem pieces_mem {s : ByteArray} {c : UInt8} {x : ByteArray} (h : x ∈ pieces s ⟨#[c]⟩) : x.size ≤ s.size := by
  have h1 : x.data.toList ∈ cutL c s.data.toList := by
    rw [← pieces_cut]; exact List.mem_map.2 ⟨x, h, rfl⟩
  have := cutL_mem c _ _ h1
  rw [ba_len, ba_len] at this; exact this
theorem pieces_le (s : ByteArray) (c : UInt8) : (pieces s ⟨#[c]⟩).length ≤ s.size + 1 := by
  rw [pieces_count]
  have : Lib.countByte s.data.toList c ≤ s.data.toList.length := List.count_le_length
  rw [ba_len] at this; omega
theorem nth_mem {α : Type} [Inhabited α] (l : List α) (k : Nat) (h : k < l.length) : nth l k ∈ l := by
  simp [nth, List.getD_eq_getElem?_getD, List.getElem?_eq_getElem h]
theorem linesS_snoc : ∀ (ws : List ByteArray) (x : ByteArray) (l : List Line) (y : Line), linesS ws = some l → lineS x = some y → linesS (ws ++ [x]) = some (l ++ [y])
  | [], x, l, y, h, hx => by
    simp only [linesS, Option.some.injEq] at h; subst h
    simp [linesS, hx]
  | a :: ws, x, l, y, h, hx => by
    simp only [List.cons_append, linesS] at h ⊢
    split at h
    · rename_i y' l' h1 h2
      injection h with h; subst h
      rw [h1, linesS_snoc ws x l' y h2 hx]; rfl
    · cases h
theorem linesS_bad : ∀ (ws : List ByteArray) (k : Nat), k < ws.length → lineS (nth ws k) = none → linesS ws = none
  | [], k, h, _ => by simp at h
  | a :: ws, 0, _, h => by
    simp only [nth_zero] at h
    unfold linesS; rw [h]
  | a :: ws, k + 1, hk, h => by
    have := linesS_bad ws k (by simpa using hk) (by simpa using h)
    unfold linesS; rw [this]
    split
    · rename_i e; cases e
    · rfl
theorem readL_bad {ws : List ByteArray} {k : Nat} (h2 : 2 + k < ws.length) (h : lineS (nth ws (2 + k)) = none) : readL ws = none := by
  have h3 : linesS (ws.drop 2) = none := linesS_bad _ k (by rw [List.length_drop]; omega) (by rw [nth_drop]; exact h)
  unfold readL
  split
  · rfl
  · rw [h3]
    split
    · rename_i e; cases e
    · rfl
theorem line_none1 {s : ByteArray} (h : ¬ Lib.countByte s.data.toList 61 = 1) : lineS s = none := by unfold lineS; rw [if_neg (fun e => h e.1)]
theorem line_none2 {s : ByteArray} (h : cutA s 61 = ⟨#[]⟩) : lineS s = none := by unfold lineS; rw [if_neg (fun e => e.2 h)]
theorem line_none3 {s : ByteArray} (h : numS (cutB s 61) = none) : lineS s = none := by
  unfold lineS
  split
  · rw [h]; rfl
  · rfl
def anyT (l : List ByteArray) (x : ByteArray) : Bool := l.any fun y => decide (y = x)
theorem rHasText_c (l : List ByteArray) (hl : l.length < 100000) (x : ByteArray) : RealCall Tryz.prog 51 [.sl l.length (strP l), .str x] (.bool (anyT l x)) true := by
  generalize hR : anyT l x = R
  have kR : Keep (anyT (l.drop 0) x = R) := keep hR
  clear hR
  refine realcall_intro Tryz.func51 (by kernel_rfl) rfl (Nat.le_of_ble_eq_true (by kernel_rfl)) ?_
  simp only [Tryz.results51, Tryz.ntmps51]
  repeat' (first | (with_reducible first | refine awp_seq ?_ | refine awp_blockS ?_ | refine awp_blockC ?_ | refine awp_blockR ?_ | refine awp_skip ?_ | refine awp_ret ?_ | refine awp_exit ?_ | refine awp_region ?_ | refine awp_condM ?_ | refine And.intro ?_ ?_ | apply gQ_merge | apply gE_merge | exact EqV_w | exact EqE_w | exact EqV_ptr | exact EqE_ptr | exact EqV_msl | exact EqE_msl | exact EqV_agg | exact EqE_agg | exact EqV_fn | exact EqE_fn | exact EqV_gd | exact EqE_gd | refine gM_splitN ?_ ?_ | refine gM_split ?_ ?_ |  refine condM_splitDN ?_ ?_ | refine condM_splitD ?_ ?_ | refine condM_splitN ?_ ?_ | refine condM_split ?_ ?_ | refine condM_any ?_ ?_ | intro _) | (simp [*]))
  refine awp_for3 (fun (k : Nat) => k ≤ l.length ∧ anyT (l.drop k) x = R) [0, 1] (fun (k : Nat) => [(5, .w false false (.int .i64 k))]) [] (fun (k : Nat) => []) (fun (k : Nat) => l.length - k) (fun (_u : Unit) => R = false) [] (fun (_u : Unit) => []) [] (fun (_u : Unit) => []) (0) ⟨Nat.zero_le _, kR⟩ (by simp) (by simp) (fun k hk => ?_) (fun _u hf => ?_)
  · obtain ⟨hk, hj⟩ := hk
    by_cases hlt : k < l.length
    · have hj' := hj
      rw [drop_nth l k hlt] at hj'
      have kj : Keep ((decide (nth l k = x) || anyT (l.drop (k + 1)) x) = R) := keep hj'
      clear hj hj'
      repeat' (first | (with_reducible first | refine awp_seq ?_ | refine awp_blockS ?_ | refine awp_blockC ?_ | refine awp_blockR ?_ | refine awp_skip ?_ | refine awp_ret ?_ | refine awp_exit ?_ | refine awp_region ?_ | refine awp_condM ?_ | refine And.intro ?_ ?_ | apply gQ_merge | apply gE_merge | exact EqV_w | exact EqE_w | exact EqV_ptr | exact EqE_ptr | exact EqV_msl | exact EqE_msl | exact EqV_agg | exact EqE_agg | exact EqV_fn | exact EqE_fn | exact EqV_gd | exact EqE_gd | refine gM_splitN ?_ ?_ | refine gM_split ?_ ?_ |  refine condM_splitDN ?_ ?_ | refine condM_splitD ?_ ?_ | refine condM_splitN ?_ ?_ | refine condM_split ?_ ?_ | refine condM_any ?_ ?_ | intro _) | (simp [*, hlt]))
      all_goals first
        | exact inI64 (by omega) (by omega)
        | omega
        | (rename_i hp; have := (show _ = R from kj); rw [decide_eq_true hp] at this; simpa using this)
        | (rename_i hp; have kj2 := (show _ = R from kj); rw [decide_eq_false hp, Bool.false_or] at kj2; (refine loopK_normal _ _ _ _ _ (k + 1) _ ?_ (by first | omega | (dsimp only; omega) | (simp; omega)) ?_; (· exact ⟨by omega, kj2⟩); (refine le_of ?_ ?_ <;> first | trivial | (simp [*]; done))))
        | skip
    · have hke : k = l.length := by omega
      subst hke
      repeat' (first | (with_reducible first | refine awp_seq ?_ | refine awp_blockS ?_ | refine awp_blockC ?_ | refine awp_blockR ?_ | refine awp_skip ?_ | refine awp_ret ?_ | refine awp_exit ?_ | refine awp_region ?_ | refine awp_condM ?_ | refine And.intro ?_ ?_ | apply gQ_merge | apply gE_merge | exact EqV_w | exact EqE_w | exact EqV_ptr | exact EqE_ptr | exact EqV_msl | exact EqE_msl | exact EqV_agg | exact EqE_agg | exact EqV_fn | exact EqE_fn | exact EqV_gd | exact EqE_gd | refine gM_splitN ?_ ?_ | refine gM_split ?_ ?_ |  refine condM_splitDN ?_ ?_ | refine condM_splitD ?_ ?_ | refine condM_splitN ?_ ?_ | refine condM_split ?_ ?_ | refine condM_any ?_ ?_ | intro _) | (simp [*]))
      all_goals (refine finW_intro () ?_ ?_; (· rw [← hj, List.drop_length]; rfl); (refine le_of ?_ ?_ <;> first | trivial | (simp [*]; done)))
  · subst hf
    repeat' (first | (with_reducible first | refine awp_seq ?_ | refine awp_blockS ?_ | refine awp_blockC ?_ | refine awp_blockR ?_ | refine awp_skip ?_ | refine awp_ret ?_ | refine awp_exit ?_ | refine awp_region ?_ | refine awp_condM ?_ | refine And.intro ?_ ?_ | apply gQ_merge | apply gE_merge | exact EqV_w | exact EqE_w | exact EqV_ptr | exact EqE_ptr | exact EqV_msl | exact EqE_msl | exact EqV_agg | exact EqE_agg | exact EqV_fn | exact EqE_fn | exact EqV_gd | exact EqE_gd | refine gM_splitN ?_ ?_ | refine gM_split ?_ ?_ |  refine condM_splitDN ?_ ?_ | refine condM_splitD ?_ ?_ | refine condM_splitN ?_ ?_ | refine condM_split ?_ ?_ | refine condM_any ?_ ?_ | intro _) | (simp [*]))
set_option maxHeartbeats 8000000 in
theorem rParse_c (s : ByteArray) (hs : s.size < 900) : RealCall Tryz.prog 20 [.str s] (.tup [.agg (cEntry (parseS s).1), .int .i64 (parseS s).2]) true := by
  have c1 : RealCall Tryz.prog 50 [.str s, .int .u8 32] (.sl (pieces s sp1).length (strP (pieces s sp1))) true := rCut_c s 32 (by omega)
  have hle : (pieces s sp1).length ≤ s.size + 1 := pieces_le s 32
  have hmem : ∀ k, k < (pieces s sp1).length → (nth (pieces s sp1) k).size < 1000 := fun k hk => by
    have := pieces_mem (c := 32) (nth_mem (pieces s sp1) k hk)
    omega
  have c2 : RealCall Tryz.prog 51 [.sl (pieces s sp1).length (strP (pieces s sp1)), .str ⟨#[]⟩] (.bool (Lib.containsS (pieces s sp1) ⟨#[]⟩)) true := by
    have := rHasText_c (pieces s sp1) (by omega) ⟨#[]⟩
    have e : Lib.containsS (pieces s sp1) ⟨#[]⟩ = (pieces s sp1).any fun x => decide (x = (⟨#[]⟩ : ByteArray)) := by
      rw [Bool.eq_iff_iff, Lib.containsS_iff, List.any_eq_true]
      constructor
      · intro h; exact ⟨_, h, by simp⟩
      · rintro ⟨x, h1, h2⟩; rw [← of_decide_eq_true h2]; exact h1
    rw [e]; exact this
  unfold parseS
  generalize hw : pieces s sp1 = ws at *
  clear hw
  by_cases h2 : ws.length < 2
  · have h2I : (ws.length : Int) < 2 := by omega
    have hr : readL ws = none := by unfold readL; rw [if_pos (.inl h2)]
    rw [hr]
    clear hmem hr
    unfold cEntry
    refine realcall_intro Tryz.func20 (by kernel_rfl) rfl (Nat.le_of_ble_eq_true (by kernel_rfl)) ?_
    simp only [Tryz.results20, Tryz.ntmps20]
    repeat' (first | (with_reducible first | refine awp_seq ?_ | refine awp_blockS ?_ | refine awp_blockC ?_ | refine awp_blockR ?_ | refine awp_skip ?_ | refine awp_ret ?_ | refine awp_exit ?_ | refine awp_region ?_ | refine awp_regionD (id := 17) 8 mixed (by decide +kernel) ?_ | refine awp_condM ?_ | refine And.intro ?_ ?_ | apply gQ_merge | apply gE_merge | exact EqV_w | exact EqE_w | exact EqV_ptr | exact EqE_ptr | exact EqV_msl | exact EqE_msl | exact EqV_agg | exact EqE_agg | exact EqV_fn | exact EqE_fn | exact EqV_gd | exact EqE_gd | refine gM_splitN ?_ ?_ | refine gM_split ?_ ?_ |  refine condM_splitDN ?_ ?_ | refine condM_splitD ?_ ?_ | refine condM_splitN ?_ ?_ | refine condM_split ?_ ?_ | refine condM_any ?_ ?_ | refine cw (c1) ?_ | refine cw (c2) ?_ | intro _) | (simp [*, h2I, repl]) | (refine cw_eq (c1) ?_ ?_; (· (simp [*]; done))) | (refine cw_eq (c2) ?_ ?_; (· (simp [*]; done))))
    all_goals first | rfl | omega
  · have h2I : ¬ (ws.length : Int) < 2 := by omega
    cases hb : Lib.containsS ws ⟨#[]⟩ with
    | true =>
      have hr : readL ws = none := by unfold readL; rw [if_pos (.inr hb)]
      rw [hr]
      rw [hb] at c2
      clear hmem hr hb
      unfold cEntry
      refine realcall_intro Tryz.func20 (by kernel_rfl) rfl (Nat.le_of_ble_eq_true (by kernel_rfl)) ?_
      simp only [Tryz.results20, Tryz.ntmps20]
      repeat' (first | (with_reducible first | refine awp_seq ?_ | refine awp_blockS ?_ | refine awp_blockC ?_ | refine awp_blockR ?_ | refine awp_skip ?_ | refine awp_ret ?_ | refine awp_exit ?_ | refine awp_region ?_ | refine awp_regionD (id := 17) 8 mixed (by decide +kernel) ?_ | refine awp_condM ?_ | refine And.intro ?_ ?_ | apply gQ_merge | apply gE_merge | exact EqV_w | exact EqE_w | exact EqV_ptr | exact EqE_ptr | exact EqV_msl | exact EqE_msl | exact EqV_agg | exact EqE_agg | exact EqV_fn | exact EqE_fn | exact EqV_gd | exact EqE_gd | refine gM_splitN ?_ ?_ | refine gM_split ?_ ?_ |  refine condM_splitDN ?_ ?_ | refine condM_splitD ?_ ?_ | refine condM_splitN ?_ ?_ | refine condM_split ?_ ?_ | refine condM_any ?_ ?_ | refine cw (c1) ?_ | refine cw (c2) ?_ | intro _) | (simp [*, h2I, repl]) | (refine cw_eq (c1) ?_ ?_; (· (simp [*]; done))) | (refine cw_eq (c2) ?_ ?_; (· (simp [*]; done))))
      all_goals first | rfl | omega
    | false =>
      rw [hb] at c2
      have g0 := strP_get ws 0 (by omega)
      have g1 := strP_get ws 1 (by omega)
      have h0a : (0 : Int) < (ws.length : Int) := by omega
      have h0b : 0 < ws.length := by omega
      have h1a : (1 : Int) < (ws.length : Int) := by omega
      have h1b : 1 < ws.length := by omega
      have c3 := rNumber_c (nth ws 0) (hmem 0 (by omega))
      cases hn : numS (nth ws 0) with
      | none =>
        have hr : readL ws = none := by
          unfold readL; rw [if_neg (by simp [hb]; omega), hn]
        rw [hr]
        have e1 : numV (nth ws 0) = 0 := by unfold numV; rw [hn]; rfl
        have e2 : numB (nth ws 0) = false := by unfold numB; rw [hn]; rfl
        rw [e1, e2] at c3
        clear hmem hr hb hn e1 e2
        unfold cEntry
        refine realcall_intro Tryz.func20 (by kernel_rfl) rfl (Nat.le_of_ble_eq_true (by kernel_rfl)) ?_
        simp only [Tryz.results20, Tryz.ntmps20]
        repeat' (first | (with_reducible first | refine awp_seq ?_ | refine awp_blockS ?_ | refine awp_blockC ?_ | refine awp_blockR ?_ | refine awp_skip ?_ | refine awp_ret ?_ | refine awp_exit ?_ | refine awp_region ?_ | refine awp_regionD (id := 17) 8 mixed (by decide +kernel) ?_ | refine awp_condM ?_ | refine And.intro ?_ ?_ | apply gQ_merge | apply gE_merge | exact EqV_w | exact EqE_w | exact EqV_ptr | exact EqE_ptr | exact EqV_msl | exact EqE_msl | exact EqV_agg | exact EqE_agg | exact EqV_fn | exact EqE_fn | exact EqV_gd | exact EqE_gd | refine gM_splitN ?_ ?_ | refine gM_split ?_ ?_ |  refine condM_splitDN ?_ ?_ | refine condM_splitD ?_ ?_ | refine condM_splitN ?_ ?_ | refine condM_split ?_ ?_ | refine condM_any ?_ ?_ | refine cw (c1) ?_ | refine cw (c2) ?_ | refine cw (c3) ?_ | intro _) | (simp [*, h2I, g0, h0a, h0b, repl]) | (refine cw_eq (c1) ?_ ?_; (· (simp [*]; done))) | (refine cw_eq (c2) ?_ ?_; (· (simp [*]; done))) | (refine cw_eq (c3) ?_ ?_; (· (simp [*]; done))))
        all_goals first | rfl | omega
      | some ed =>
        have e1 : numV (nth ws 0) = ed := by unfold numV; rw [hn]; rfl
        have e2 : numB (nth ws 0) = true := by unfold numB; rw [hn]; rfl
        rw [e1, e2] at c3
        have kr := keep (show readL ws = match linesS (ws.drop 2) with | some l => some (⟨ed, nth ws 1, l⟩ : Entry) | none => none by
          unfold readL; rw [if_neg (by simp [hb]; omega), hn]
          cases linesS (ws.drop 2) <;> rfl)
        have kmem := keep hmem
        generalize hen : nth ws 1 = en at *
        have kbad := keep (fun k (hk : 2 + k < ws.length) (h : lineS (nth ws (2 + k)) = none) => readL_bad hk h)
        generalize readL ws = R at *
        clear hmem hb hn e1 e2 hen
        unfold cEntry
        refine realcall_intro Tryz.func20 (by kernel_rfl) rfl (Nat.le_of_ble_eq_true (by kernel_rfl)) ?_
        simp only [Tryz.results20, Tryz.ntmps20]
        repeat' (first | (with_reducible first | refine awp_seq ?_ | refine awp_blockS ?_ | refine awp_blockC ?_ | refine awp_blockR ?_ | refine awp_skip ?_ | refine awp_ret ?_ | refine awp_exit ?_ | refine awp_region ?_ | refine awp_regionD (id := 17) 8 mixed (by decide +kernel) ?_ | refine awp_condM ?_ | refine And.intro ?_ ?_ | apply gQ_merge | apply gE_merge | exact EqV_w | exact EqE_w | exact EqV_ptr | exact EqE_ptr | exact EqV_msl | exact EqE_msl | exact EqV_agg | exact EqE_agg | exact EqV_fn | exact EqE_fn | exact EqV_gd | exact EqE_gd | refine gM_splitN ?_ ?_ | refine gM_split ?_ ?_ |  refine condM_splitDN ?_ ?_ | refine condM_splitD ?_ ?_ | refine condM_splitN ?_ ?_ | refine condM_split ?_ ?_ | refine condM_any ?_ ?_ | refine cw (c1) ?_ | refine cw (c2) ?_ | refine cw (c3) ?_ | intro _) | (simp [*, h2I, g0, g1, h0a, h0b, h1a, h1b, repl]) | (refine cw_eq (c1) ?_ ?_; (· (simp [*]; done))) | (refine cw_eq (c2) ?_ ?_; (· (simp [*]; done))) | (refine cw_eq (c3) ?_ ?_; (· (simp [*]; done))))
        refine awp_for4 3 (fun (x : Nat × List Line) => 2 + x.1 ≤ ws.length ∧ x.2.length = x.1 ∧ linesS ((ws.drop 2).take x.1) = some x.2) [2, 4, 7] (fun (x : Nat × List Line) => [(8, .w false false (.int .i64 ((2 + x.1 : Nat) : Int)))]) [0] (fun (x : Nat × List Line) => [(1, [.w false false (.int .i64 ed), .w false false (.str en), .msl 2 (x.2.length * 2) 2 0 x.2.length]), (2, lA x.2)]) (fun (x : Nat × List Line) => ws.length - x.1) (fun (y : List Line) => R = some (⟨ed, en, y⟩ : Entry)) [2, 7] (fun (y : List Line) => []) [0] (fun (y : List Line) => [(1, [.w false false (.int .i64 ed), .w false false (.str en), .msl 2 (y.length * 2) 2 0 y.length]), (2, lA y)]) (((0 : Nat), ([] : List Line))) ⟨by omega, rfl, rfl⟩ (le_gen [] (by simp) (by simp)) (fun x hk => ?_) (fun y hf => ?_)
        · obtain ⟨k, l⟩ := x
          obtain ⟨hk, hll, hl⟩ := hk
          dsimp only at hk hll hl ⊢
          clear c1 c2 c3 g0 g1
          by_cases hlt : 2 + k < ws.length
          · have w1 : ((2 + k : Nat) : Int) < (ws.length : Int) := by omega
            have w1I : (2 : Int) + (k : Int) < (ws.length : Int) := by omega
            have hnat : ((2 : Int) + (k : Int)).toNat = 2 + k := by omega
            have hz := (show ∀ k, k < ws.length → _ from kmem) (2 + k) hlt
            have c4 : RealCall Tryz.prog 50 [.str (nth ws (2 + k)), .int .u8 61] (.sl (pieces (nth ws (2 + k)) ⟨#[61]⟩).length (strP (pieces (nth ws (2 + k)) ⟨#[61]⟩))) true := rCut_c (nth ws (2 + k)) 61 (by omega)
            by_cases hc : Lib.countByte (nth ws (2 + k)).data.toList 61 = 1
            · rw [pieces_two _ _ hc] at c4
              have hbz := cutB_size (nth ws (2 + k)) 61
              by_cases ha : cutA (nth ws (2 + k)) 61 = ⟨#[]⟩
              · have hR : R = none := (show ∀ k, _ → _ → R = none from kbad) k hlt (line_none2 ha)
                subst hR
                rw [ha] at c4
                clear kr kbad hl
                generalize cutB (nth ws (2 + k)) 61 = q at *
                simp only [List.length_cons, List.length_nil, strP, List.map_cons, List.map_nil] at c4
                repeat' (first | (with_reducible first | refine awp_seq ?_ | refine awp_blockS ?_ | refine awp_blockC ?_ | refine awp_blockR ?_ | refine awp_skip ?_ | refine awp_ret ?_ | refine awp_exit ?_ | refine awp_region ?_ | refine awp_regionD (id := 17) 8 mixed (by decide +kernel) ?_ | refine awp_condM ?_ | refine And.intro ?_ ?_ | apply gQ_merge | apply gE_merge | exact EqV_w | exact EqE_w | exact EqV_ptr | exact EqE_ptr | exact EqV_msl | exact EqE_msl | exact EqV_agg | exact EqE_agg | exact EqV_fn | exact EqE_fn | exact EqV_gd | exact EqE_gd | refine gM_splitN ?_ ?_ | refine gM_split ?_ ?_ |  refine condM_splitDN ?_ ?_ | refine condM_splitD ?_ ?_ | refine condM_splitN ?_ ?_ | refine condM_split ?_ ?_ | refine condM_any ?_ ?_ | refine cw (c4) ?_ | intro _) | (simp [*, hlt, w1, w1I, hnat]) | (refine cw_eq (c4) ?_ ?_; (· (simp [*]; done))))
                all_goals first | rfl | omega
              · have c5 := rNumber_c (cutB (nth ws (2 + k)) 61) (by omega)
                cases hq : numS (cutB (nth ws (2 + k)) 61) with
                | none =>
                  have hR : R = none := (show ∀ k, _ → _ → R = none from kbad) k hlt (line_none3 hq)
                  subst hR
                  have e1 : numV (cutB (nth ws (2 + k)) 61) = 0 := by unfold numV; rw [hq]; rfl
                  have e2 : numB (cutB (nth ws (2 + k)) 61) = false := by unfold numB; rw [hq]; rfl
                  rw [e1, e2] at c5
                  clear kr kbad hl e1 e2 hq hbz
                  generalize cutA (nth ws (2 + k)) 61 = p at *
                  generalize cutB (nth ws (2 + k)) 61 = q at *
                  simp only [List.length_cons, List.length_nil, strP, List.map_cons, List.map_nil] at c4
                  repeat' (first | (with_reducible first | refine awp_seq ?_ | refine awp_blockS ?_ | refine awp_blockC ?_ | refine awp_blockR ?_ | refine awp_skip ?_ | refine awp_ret ?_ | refine awp_exit ?_ | refine awp_region ?_ | refine awp_regionD (id := 17) 8 mixed (by decide +kernel) ?_ | refine awp_condM ?_ | refine And.intro ?_ ?_ | apply gQ_merge | apply gE_merge | exact EqV_w | exact EqE_w | exact EqV_ptr | exact EqE_ptr | exact EqV_msl | exact EqE_msl | exact EqV_agg | exact EqE_agg | exact EqV_fn | exact EqE_fn | exact EqV_gd | exact EqE_gd | refine gM_splitN ?_ ?_ | refine gM_split ?_ ?_ |  refine condM_splitDN ?_ ?_ | refine condM_splitD ?_ ?_ | refine condM_splitN ?_ ?_ | refine condM_split ?_ ?_ | refine condM_any ?_ ?_ | refine cw (c4) ?_ | refine cw (c5) ?_ | intro _) | (simp [*, hlt, w1, w1I, hnat, ha]) | (refine cw_eq (c4) ?_ ?_; (· (simp [*]; done))) | (refine cw_eq (c5) ?_ ?_; (· (simp [*]; done))))
                  all_goals first | rfl | omega
                | some v =>
                  have e1 : numV (cutB (nth ws (2 + k)) 61) = v := by unfold numV; rw [hq]; rfl
                  have e2 : numB (cutB (nth ws (2 + k)) 61) = true := by unfold numB; rw [hq]; rfl
                  rw [e1, e2] at c5
                  have hy : lineS (nth ws (2 + k)) = some ⟨cutA (nth ws (2 + k)) 61, v⟩ := by
                    unfold lineS; rw [if_pos ⟨hc, ha⟩, hq]; rfl
                  have kl := keep (show linesS ((ws.drop 2).take (k + 1)) = some (l ++ [⟨cutA (nth ws (2 + k)) 61, v⟩]) by
                    rw [take_succ_nth _ _ (by rw [List.length_drop]; omega), nth_drop]
                    exact linesS_snoc _ _ _ _ hl hy)
                  clear kr kbad hl e1 e2 hq hbz hy
                  generalize cutA (nth ws (2 + k)) 61 = p at *
                  generalize cutB (nth ws (2 + k)) 61 = q at *
                  simp only [List.length_cons, List.length_nil, strP, List.map_cons, List.map_nil] at c4
                  repeat' (first | (with_reducible first | refine awp_seq ?_ | refine awp_blockS ?_ | refine awp_blockC ?_ | refine awp_blockR ?_ | refine awp_skip ?_ | refine awp_ret ?_ | refine awp_exit ?_ | refine awp_region ?_ | refine awp_regionD (id := 17) 8 mixed (by decide +kernel) ?_ | refine awp_condM ?_ | refine And.intro ?_ ?_ | apply gQ_merge | apply gE_merge | exact EqV_w | exact EqE_w | exact EqV_ptr | exact EqE_ptr | exact EqV_msl | exact EqE_msl | exact EqV_agg | exact EqE_agg | exact EqV_fn | exact EqE_fn | exact EqV_gd | exact EqE_gd | refine gM_splitN ?_ ?_ | refine gM_split ?_ ?_ |  refine condM_splitDN ?_ ?_ | refine condM_splitD ?_ ?_ | refine condM_splitN ?_ ?_ | refine condM_split ?_ ?_ | refine condM_any ?_ ?_ | refine cw (c4) ?_ | refine cw (c5) ?_ | intro _) | (simp [*, hlt, w1, w1I, hnat, ha, Nat.add_mul]) | (refine cw_eq (c4) ?_ ?_; (· (simp [*]; done))) | (refine cw_eq (c5) ?_ ?_; (· (simp [*]; done))))
                  all_goals try first | exact inI64 (by omega) (by omega) | omega
                  all_goals (refine loopK_normal _ _ _ _ _ (k + 1, l ++ [⟨p, v⟩]) _ ?_ (by first | omega | (dsimp only; omega) | (simp; omega)) ?_; (· exact ⟨by omega, by simp [hll], kl⟩); (refine le_gen [] ?_ ?_ <;> first | trivial | (simp [*, Nat.add_mul, Nat.add_assoc, Int.add_assoc]; done)))
            · have hR : R = none := (show ∀ k, _ → _ → R = none from kbad) k hlt (line_none1 hc)
              subst hR
              have hpl := pieces_count (nth ws (2 + k)) 61
              have hp2 : ¬ ((pieces (nth ws (2 + k)) ⟨#[61]⟩).length : Int) = 2 := by omega
              clear kr kbad hl hpl
              generalize pieces (nth ws (2 + k)) ⟨#[61]⟩ = q at *
              repeat' (first | (with_reducible first | refine awp_seq ?_ | refine awp_blockS ?_ | refine awp_blockC ?_ | refine awp_blockR ?_ | refine awp_skip ?_ | refine awp_ret ?_ | refine awp_exit ?_ | refine awp_region ?_ | refine awp_regionD (id := 17) 8 mixed (by decide +kernel) ?_ | refine awp_condM ?_ | refine And.intro ?_ ?_ | apply gQ_merge | apply gE_merge | exact EqV_w | exact EqE_w | exact EqV_ptr | exact EqE_ptr | exact EqV_msl | exact EqE_msl | exact EqV_agg | exact EqE_agg | exact EqV_fn | exact EqE_fn | exact EqV_gd | exact EqE_gd | refine gM_splitN ?_ ?_ | refine gM_split ?_ ?_ |  refine condM_splitDN ?_ ?_ | refine condM_splitD ?_ ?_ | refine condM_splitN ?_ ?_ | refine condM_split ?_ ?_ | refine condM_any ?_ ?_ | refine cw (c4) ?_ | intro _) | (simp [*, hlt, w1, w1I, hnat, hp2]) | (refine cw_eq (c4) ?_ ?_; (· (simp [*]; done))))
              all_goals first | rfl | omega
          · have hke : 2 + k = ws.length := by omega
            have hkeI : (2 : Int) + (k : Int) = (ws.length : Int) := by omega
            have hR : R = some (⟨ed, en, l⟩ : Entry) := by
              have e : (ws.drop 2).take k = ws.drop 2 := List.take_of_length_le (by rw [List.length_drop]; omega)
              rw [e] at hl
              have := (show R = _ from kr)
              rw [hl] at this; exact this
            have kf := keep hR
            clear kr kbad hl hR
            repeat' (first | (with_reducible first | refine awp_seq ?_ | refine awp_blockS ?_ | refine awp_blockC ?_ | refine awp_blockR ?_ | refine awp_skip ?_ | refine awp_ret ?_ | refine awp_exit ?_ | refine awp_region ?_ | refine awp_regionD (id := 17) 8 mixed (by decide +kernel) ?_ | refine awp_condM ?_ | refine And.intro ?_ ?_ | apply gQ_merge | apply gE_merge | exact EqV_w | exact EqE_w | exact EqV_ptr | exact EqE_ptr | exact EqV_msl | exact EqE_msl | exact EqV_agg | exact EqE_agg | exact EqV_fn | exact EqE_fn | exact EqV_gd | exact EqE_gd | refine gM_splitN ?_ ?_ | refine gM_split ?_ ?_ |  refine condM_splitDN ?_ ?_ | refine condM_splitD ?_ ?_ | refine condM_splitN ?_ ?_ | refine condM_split ?_ ?_ | refine condM_any ?_ ?_ | intro _) | (simp [*, hke, hkeI]))
            all_goals (refine finW_intro l ?_ ?_; (· exact kf); (refine le_gen [] ?_ ?_ <;> first | trivial | (simp [*]; done)))
        · clear kr kbad c1 c2 c3 g0 g1
          subst hf
          repeat' (first | (with_reducible first | refine awp_seq ?_ | refine awp_blockS ?_ | refine awp_blockC ?_ | refine awp_blockR ?_ | refine awp_skip ?_ | refine awp_ret ?_ | refine awp_exit ?_ | refine awp_region ?_ | refine awp_regionD (id := 17) 8 mixed (by decide +kernel) ?_ | refine awp_condM ?_ | refine And.intro ?_ ?_ | apply gQ_merge | apply gE_merge | exact EqV_w | exact EqE_w | exact EqV_ptr | exact EqE_ptr | exact EqV_msl | exact EqE_msl | exact EqV_agg | exact EqE_agg | exact EqV_fn | exact EqE_fn | exact EqV_gd | exact EqE_gd | refine gM_splitN ?_ ?_ | refine gM_split ?_ ?_ |  refine condM_splitDN ?_ ?_ | refine condM_splitD ?_ ?_ | refine condM_splitN ?_ ?_ | refine condM_split ?_ ?_ | refine condM_any ?_ ?_ | intro _) | (simp [*]))
          all_goals first | rfl | omega
end Go.Proofs.YtpjhpmpbdfeajaaGreatDoor

