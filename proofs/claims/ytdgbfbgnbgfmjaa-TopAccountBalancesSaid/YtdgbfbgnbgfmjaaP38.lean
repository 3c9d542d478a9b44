/- Contracts of functions for this claim: lemmas alone. -/
import Derived.Test.YtdgbfbgnbgfmjaaP32
import Derived.Test.YtdgbfbgnbgfmjaaP26
import Derived.Test.YtdgbfbgnbgfmjaaP29
set_option linter.unusedSimpArgs false
set_option linter.unusedVariables false
namespace Go.Proofs.Ytdgbfbgnbgfmjaa
open Go Go.Fi
set_option maxRecDepth 20000
attribute [-simp] cEntries_drop2

/-! ### books: the guard, copies -/
def entsA (l : List Entry) (k : Nat) : List AV := (cEntries (l.take k)).map (.w true false)
theorem entsA_len (l : List Entry) (k : Nat) (h : k ≤ l.length) : (entsA l k).length = k * 3 := by simp [entsA, Nat.min_eq_left h]
@[simp] theorem entsA_zero (l : List Entry) : entsA l 0 = [] := rfl
theorem entsA_succ (l : List Entry) (k : Nat) (h : k < l.length) : entsA l (k + 1) = entsA l k ++ [.w true false (.int .i64 (nth l k).date), .w true false (.str (nth l k).note), .w true false (.sl (nth l k).lines.length (cLines (nth l k).lines))] := by
  unfold entsA cEntries
  rw [take_succ_nth l k h, List.flatMap_append, List.map_append]
  rfl
@[simp] theorem entsA_lt (l : List Entry) (k n : Nat) : AV.lt.ltL n (entsA l k) = true := ltL_map n true false _
@[simp] theorem entsA_self {D : List Nat} {h : Heap} {n n' : Nat} (l : List Entry) (k : Nat) : cellsLe D h n n' (entsA l k) (entsA l k) = True := eq_true (cellsLe_w true false _)
theorem entsA_all (l : List Entry) : entsA l l.length = (cEntries l).map (.w true false) := by simp [entsA]
set_option maxHeartbeats 1000000 in
theorem copyEntries_c (l : List Entry) (hl : l.length < 10000) (he : ∀ k, k < l.length → EntryIn (nth l k)) : RealCall Try.prog 33 [.sl l.length (cEntries l)] (.sl l.length (cEntries l)) true := by
  refine realcall_intro Try.func33 (by kernel_rfl) rfl (Nat.le_of_ble_eq_true (by kernel_rfl)) ?_
  simp only [Try.results33, Try.ntmps33]
  repeat' (first | (with_reducible first | refine awp_seq ?_ | refine awp_blockS ?_ | refine awp_blockC ?_ | refine awp_blockR ?_ | refine awp_skip ?_ | refine awp_ret ?_ | refine awp_exit ?_ | refine awp_region ?_ | refine awp_condM ?_ | refine And.intro ?_ ?_ | apply gQ_merge | apply gE_merge | exact EqV_w | exact EqE_w | exact EqV_ptr | exact EqE_ptr | exact EqV_msl | exact EqE_msl | exact EqV_agg | exact EqE_agg | exact EqV_fn | exact EqE_fn | exact EqV_gd | exact EqE_gd | refine gM_splitN ?_ ?_ | refine gM_split ?_ ?_ |  refine condM_splitDN ?_ ?_ | refine condM_splitD ?_ ?_ | refine condM_splitN ?_ ?_ | refine condM_split ?_ ?_ | refine condM_any ?_ ?_ | intro _) | (simp [*]))
  refine awp_for4 1 (fun (k : Nat) => k ≤ l.length) [0] (fun (k : Nat) => [(3, .msl 0 (k * 3) 3 0 k), (4, .w false false (.int .i64 k))]) [] (fun (k : Nat) => [(0, entsA l k)]) (fun (k : Nat) => l.length - k) (fun (_u : Unit) => True) [] (fun (_u : Unit) => [(3, .msl 0 (l.length * 3) 3 0 l.length)]) [] (fun (_u : Unit) => [(0, entsA l l.length)]) (0) (Nat.zero_le _) (le_gen [] (by simp) (by simp)) (fun k hk => ?_) (fun _u hf => ?_)
  · by_cases hlt : k < l.length
    · have hr1 := (he k hlt).len
      clear he
      have cc := copyEntry_c (nth l k) (by omega)
      unfold cEntry at cc
      have hlen := entsA_len l k hk
      have ks := keep (entsA_succ l k hlt)
      repeat' (first | (with_reducible first | refine awp_seq ?_ | refine awp_blockS ?_ | refine awp_blockC ?_ | refine awp_blockR ?_ | refine awp_skip ?_ | refine awp_ret ?_ | refine awp_exit ?_ | refine awp_region ?_ | refine awp_condM ?_ | refine And.intro ?_ ?_ | apply gQ_merge | apply gE_merge | exact EqV_w | exact EqE_w | exact EqV_ptr | exact EqE_ptr | exact EqV_msl | exact EqE_msl | exact EqV_agg | exact EqE_agg | exact EqV_fn | exact EqE_fn | exact EqV_gd | exact EqE_gd | refine gM_splitN ?_ ?_ | refine gM_split ?_ ?_ |  refine condM_splitDN ?_ ?_ | refine condM_splitD ?_ ?_ | refine condM_splitN ?_ ?_ | refine condM_split ?_ ?_ | refine condM_any ?_ ?_ | refine cw (cc) ?_ | intro _) | (simp [*, hlt, hlen, cEntry]) | (refine cw_eq (cc) ?_ ?_; (· (simp [*]; done))))
      all_goals first
        | exact inI64 (by omega) (by omega)
        | omega
        | (refine loopK_normal _ _ _ _ _ (k + 1) _ ?_ (by first | omega | (dsimp only; omega) | (simp; omega)) ?_; (· omega); (refine le_gen [] ?_ ?_ <;> first | trivial | (simp [*, entsA_succ l k hlt, Nat.add_mul]; done)))
        | skip
    · have hke : k = l.length := by omega
      subst hke
      clear he
      repeat' (first | (with_reducible first | refine awp_seq ?_ | refine awp_blockS ?_ | refine awp_blockC ?_ | refine awp_blockR ?_ | refine awp_skip ?_ | refine awp_ret ?_ | refine awp_exit ?_ | refine awp_region ?_ | refine awp_condM ?_ | refine And.intro ?_ ?_ | apply gQ_merge | apply gE_merge | exact EqV_w | exact EqE_w | exact EqV_ptr | exact EqE_ptr | exact EqV_msl | exact EqE_msl | exact EqV_agg | exact EqE_agg | exact EqV_fn | exact EqE_fn | exact EqV_gd | exact EqE_gd | refine gM_splitN ?_ ?_ | refine gM_split ?_ ?_ |  refine condM_splitDN ?_ ?_ | refine condM_splitD ?_ ?_ | refine condM_splitN ?_ ?_ | refine condM_split ?_ ?_ | refine condM_any ?_ ?_ | intro _) | (simp [*]))
      all_goals (refine finW_intro () ?_ ?_; (· trivial); (refine le_gen [] ?_ ?_ <;> first | trivial | (simp [*]; done)))
  · clear he
    have hlen := entsA_len l l.length (Nat.le_refl _)
    rw [entsA_all]
    repeat' (first | (with_reducible first | refine awp_seq ?_ | refine awp_blockS ?_ | refine awp_blockC ?_ | refine awp_blockR ?_ | refine awp_skip ?_ | refine awp_ret ?_ | refine awp_exit ?_ | refine awp_region ?_ | refine awp_condM ?_ | refine And.intro ?_ ?_ | apply gQ_merge | apply gE_merge | exact EqV_w | exact EqE_w | exact EqV_ptr | exact EqE_ptr | exact EqV_msl | exact EqE_msl | exact EqV_agg | exact EqE_agg | exact EqV_fn | exact EqE_fn | exact EqV_gd | exact EqE_gd | refine gM_splitN ?_ ?_ | refine gM_split ?_ ?_ |  refine condM_splitDN ?_ ?_ | refine condM_splitD ?_ ?_ | refine condM_splitN ?_ ?_ | refine condM_split ?_ ?_ | refine condM_any ?_ ?_ | intro _) | (simp [*, hlen]))
theorem copyBook_c (b : Book) (hb : BookIn b) : RealCall Try.prog 11 [.agg (cBook b)] (.agg (cBook b)) true := by
  have c1 := copyNames_c b.accs (by have := hb.accs.len; omega)
  have c2 := copyEntries_c b.entries hb.len hb.ent
  clear hb
  unfold cBook
  refine realcall_intro Try.func11 (by kernel_rfl) rfl (Nat.le_of_ble_eq_true (by kernel_rfl)) ?_
  simp only [Try.results11, Try.ntmps11]
  repeat' (first | (with_reducible first | refine awp_seq ?_ | refine awp_blockS ?_ | refine awp_blockC ?_ | refine awp_blockR ?_ | refine awp_skip ?_ | refine awp_ret ?_ | refine awp_exit ?_ | refine awp_region ?_ | refine awp_regionD (id := 1) 9 mixed (by decide +kernel) ?_ | refine awp_condM ?_ | refine And.intro ?_ ?_ | apply gQ_merge | apply gE_merge | exact EqV_w | exact EqE_w | exact EqV_ptr | exact EqE_ptr | exact EqV_msl | exact EqE_msl | exact EqV_agg | exact EqE_agg | exact EqV_fn | exact EqE_fn | exact EqV_gd | exact EqE_gd | refine gM_splitN ?_ ?_ | refine gM_split ?_ ?_ |  refine condM_splitDN ?_ ?_ | refine condM_splitD ?_ ?_ | refine condM_splitN ?_ ?_ | refine condM_split ?_ ?_ | refine condM_any ?_ ?_ | refine cw (c1) ?_ | refine cw (c2) ?_ | intro _) | (simp [*]) | (refine cw_eq (c1) ?_ ?_; (· (simp [*]; done))) | (refine cw_eq (c2) ?_ ?_; (· (simp [*]; done))))
end Go.Proofs.Ytdgbfbgnbgfmjaa
namespace Go.Proofs.Ytdgbfbgnbgfmjaa
open Go Go.Fi
set_option maxRecDepth 20000
attribute [-simp] cEntries_drop2

/-! ### AccountBalances -/
def balL (f : ByteArray → Int) (l : List Acc) : Nat → List Int
  | 0 => []
  | k + 1 => balL f l k ++ [f (nth l k).name]
@[simp] theorem balL_zero (f : ByteArray → Int) (l : List Acc) : balL f l 0 = [] := rfl
theorem balL_succ (f : ByteArray → Int) (l : List Acc) (k : Nat) : balL f l (k + 1) = balL f l k ++ [f (nth l k).name] := rfl
@[simp] theorem balL_len (f : ByteArray → Int) (l : List Acc) : ∀ k, (balL f l k).length = k
  | 0 => rfl
  | k + 1 => by rw [balL_succ, List.length_append, balL_len f l k]; rfl
def balF (b : Book) (n : ByteArray) : Int := balS n 100000 b.entries
set_option maxHeartbeats 1000000 in
theorem balances_ok (b : Book) (hb : BookIn b) (h : (bookS b).2 = 0) : RealCall Try.prog 10 [.agg (cBook b)] (.tup [.sl b.accs.length (ints (balL (balF b) b.accs b.accs.length)), .int .i64 0]) true := by
  have c1 := open_c b hb
  rw [h] at c1
  have ht := (bookS_zero h).tight
  have hfa : ∀ x, RealCall Try.prog 31 [.agg (cBook b), .str x, .int .i64 100000] (.int .i64 (balF b x)) true := fun x => balance_c b x 100000 ht.ents
  have kfa := keep hfa
  have hlen := hb.accs.len
  clear hfa ht hb h
  generalize balF b = f at *
  obtain ⟨ba, be, bc⟩ := b
  unfold cBook at *
  dsimp only at *
  refine realcall_intro Try.func10 (by kernel_rfl) rfl (Nat.le_of_ble_eq_true (by kernel_rfl)) ?_
  simp only [Try.results10, Try.ntmps10]
  repeat' (first | (with_reducible first | refine awp_seq ?_ | refine awp_blockS ?_ | refine awp_blockC ?_ | refine awp_blockR ?_ | refine awp_skip ?_ | refine awp_ret ?_ | refine awp_exit ?_ | refine awp_region ?_ | refine awp_condM ?_ | refine And.intro ?_ ?_ | apply gQ_merge | apply gE_merge | exact EqV_w | exact EqE_w | exact EqV_ptr | exact EqE_ptr | exact EqV_msl | exact EqE_msl | exact EqV_agg | exact EqE_agg | exact EqV_fn | exact EqE_fn | exact EqV_gd | exact EqE_gd | refine gM_splitN ?_ ?_ | refine gM_split ?_ ?_ |  refine condM_splitDN ?_ ?_ | refine condM_splitD ?_ ?_ | refine condM_splitN ?_ ?_ | refine condM_split ?_ ?_ | refine condM_any ?_ ?_ | refine cw (c1) ?_ | intro _) | (simp [*]) | (refine cw_eq (c1) ?_ ?_; (· (simp [*]; done))))
  refine awp_for4 3 (fun (k : Nat) => k ≤ ba.length) [4, 18, 19] (fun (k : Nat) => [(6, .msl 2 k 1 0 k), (20, .w false false (.int .i64 k))]) [1] (fun (k : Nat) => [(2, iA (balL f ba k))]) (fun (k : Nat) => ba.length - k) (fun (_u : Unit) => True) [] (fun (_u : Unit) => [(6, .msl 2 ba.length 1 0 ba.length)]) [] (fun (_u : Unit) => [(2, iA (balL f ba ba.length))]) (0) (Nat.zero_le _) (le_gen [] (by simp) (by simp)) (fun k hk => ?_) (fun _u hf => ?_)
  · clear c1
    by_cases hlt : k < ba.length
    · have c2 := (show ∀ x, RealCall Try.prog 31 [.agg [.sl ba.length (cAccs ba), .sl be.length (cEntries be), .int .i64 bc], .str x, .int .i64 100000] (.int .i64 (f x)) true from kfa) (nth ba k).name
      have hL := balL_len f ba k
      have ks := keep (balL_succ f ba k)
      clear kfa
      generalize balL f ba k = L at *
      repeat' (first | (with_reducible first | refine awp_seq ?_ | refine awp_blockS ?_ | refine awp_blockC ?_ | refine awp_blockR ?_ | refine awp_skip ?_ | refine awp_ret ?_ | refine awp_exit ?_ | refine awp_region ?_ | refine awp_condM ?_ | refine And.intro ?_ ?_ | apply gQ_merge | apply gE_merge | exact EqV_w | exact EqE_w | exact EqV_ptr | exact EqE_ptr | exact EqV_msl | exact EqE_msl | exact EqV_agg | exact EqE_agg | exact EqV_fn | exact EqE_fn | exact EqV_gd | exact EqE_gd | refine gM_splitN ?_ ?_ | refine gM_split ?_ ?_ |  refine condM_splitDN ?_ ?_ | refine condM_splitD ?_ ?_ | refine condM_splitN ?_ ?_ | refine condM_split ?_ ?_ | refine condM_any ?_ ?_ | refine cw (c2) ?_ | intro _) | (simp [*, hlt, cAcc, hL]) | (refine cw_eq (c2) ?_ ?_; (· (simp [*]; done))))
      all_goals first
        | exact inI64 (by omega) (by omega)
        | omega
        | (refine loopK_normal _ _ _ _ _ (k + 1) _ ?_ (by first | omega | (dsimp only; omega) | (simp; omega)) ?_; (· omega); (refine le_gen [] ?_ ?_ <;> first | trivial | (simp [*, (show balL f ba (k + 1) = _ from ks)]; done)))
        | skip
    · have hke : k = ba.length := by omega
      subst hke
      clear kfa
      repeat' (first | (with_reducible first | refine awp_seq ?_ | refine awp_blockS ?_ | refine awp_blockC ?_ | refine awp_blockR ?_ | refine awp_skip ?_ | refine awp_ret ?_ | refine awp_exit ?_ | refine awp_region ?_ | refine awp_condM ?_ | refine And.intro ?_ ?_ | apply gQ_merge | apply gE_merge | exact EqV_w | exact EqE_w | exact EqV_ptr | exact EqE_ptr | exact EqV_msl | exact EqE_msl | exact EqV_agg | exact EqE_agg | exact EqV_fn | exact EqE_fn | exact EqV_gd | exact EqE_gd | refine gM_splitN ?_ ?_ | refine gM_split ?_ ?_ |  refine condM_splitDN ?_ ?_ | refine condM_splitD ?_ ?_ | refine condM_splitN ?_ ?_ | refine condM_split ?_ ?_ | refine condM_any ?_ ?_ | intro _) | (simp [*]))
      all_goals (refine finW_intro () ?_ ?_; (· trivial); (refine le_gen [] ?_ ?_ <;> first | trivial | (simp [*]; done)))
  · clear c1 kfa
    have hL := balL_len f ba ba.length
    repeat' (first | (with_reducible first | refine awp_seq ?_ | refine awp_blockS ?_ | refine awp_blockC ?_ | refine awp_blockR ?_ | refine awp_skip ?_ | refine awp_ret ?_ | refine awp_exit ?_ | refine awp_region ?_ | refine awp_condM ?_ | refine And.intro ?_ ?_ | apply gQ_merge | apply gE_merge | exact EqV_w | exact EqE_w | exact EqV_ptr | exact EqE_ptr | exact EqV_msl | exact EqE_msl | exact EqV_agg | exact EqE_agg | exact EqV_fn | exact EqE_fn | exact EqV_gd | exact EqE_gd | refine gM_splitN ?_ ?_ | refine gM_split ?_ ?_ |  refine condM_splitDN ?_ ?_ | refine condM_splitD ?_ ?_ | refine condM_splitN ?_ ?_ | refine condM_split ?_ ?_ | refine condM_any ?_ ?_ | intro _) | (simp [*, hL]))
end Go.Proofs.Ytdgbfbgnbgfmjaa

