/- Contracts of functions for this claim: lemmas alone. -/
import Derived.Test.YtlcimflkjfbaoaaGreatP32
import Derived.Test.YtlcimflkjfbaoaaGreatP26
import Derived.Test.YtlcimflkjfbaoaaGreatP29
set_option linter.unusedSimpArgs false
set_option linter.unusedVariables false
namespace Go.Proofs.YtlcimflkjfbaoaaGreat
open Go Go.Fi
set_option maxRecDepth 20000
attribute [-simp] cEntries_drop2

/-! ### books: the guard, copies -/
def entsA (l : List Entry) (k : Nat) : List AV := (cEntries (l.take k)).map (.w true false)
theorem entsA_len (l : List Entry) (k : Nat) (h : k ≤ l.length) : (entsA l k).length = k * 3 := by simp [entsA, Nat.min_eq_left h]
@[simp] theorem entsA_zero (l : List Entry) : entsA l 0 = [] := rfl
theorem entsA_succ (l : List Entry) (k : Nat) (h : k < l.length) : entsA l (k + 1) = entsA l k ++ [.w true false (.int .i64 (nth l k).date), .w true false (.str (nth l k).note), .w true false (.sl (nth l k).lines.length (cLines (nth l k).lines))] := by
  unfold entsA cEntries
  rw [take_succ_nth l k h, List.flatMap_append, List.map_append]
  rfl
@[simp] theorem entsA_lt (l : List Entry) (k n : Nat) : AV.lt.ltL n (entsA l k) = true := ltL_map n true false _
@[simp] theorem entsA_self {D : List Nat} {h : Heap} {n n' : Nat} (l : List Entry) (k : Nat) : cellsLe D h n n' (entsA l k) (entsA l k) = True := eq_true (cellsLe_w true false _)
theorem entsA_all (l : List Entry) : entsA l l.length = (cEntries l).map (.w true false) := by simp [entsA]
end Go.Proofs.YtlcimflkjfbaoaaGreat
namespace Go.Proofs.YtlcimflkjfbaoaaGreat
open Go Go.Fi
set_option maxRecDepth 20000
attribute [-simp] cEntries_drop2

/-! ### AccountBalances -/
def balE (b : Book) (n : ByteArray) (d : Int) : Int := firstS [(bookS b).2, errUnless (hasS b.accs n) 6, dateE d]
def balOfS (b : Book) (n : ByteArray) (d : Int) : Int × Int := if balE b n d = 0 then (balS n d b.entries, 0) else (0, balE b n d)
theorem balanceOf_c (b : Book) (hb : BookIn b) (n : ByteArray) (d : Int) : RealCall Tryz.prog 15 [.agg (cBook b), .str n, .int .i64 d] (.tup [.int .i64 (balOfS b n d).1, .int .i64 (balOfS b n d).2]) true := by
  have c1 := open_c b hb
  have c2 := accountErr_c b (by have := hb.accs.len; omega) n
  have c3 := dateErr_c d
  have c4 := first3_c (bookS b).2 (errUnless (hasS b.accs n) 6) (dateE d)
  change RealCall _ _ _ (.int .i64 (balE b n d)) true at c4
  unfold balOfS
  by_cases h : balE b n d = 0
  · rw [if_pos h]
    have hb0 := firstS_zero h (bookS b).2 (by simp)
    have c5 := balance_c b n d (bookS_zero hb0).tight.ents
    rw [h] at c4
    rw [hb0] at c1 c4
    clear h hb0
    generalize balS n d b.entries = S at *
    unfold cBook at *
    refine realcall_intro Tryz.func15 (by kernel_rfl) rfl (Nat.le_of_ble_eq_true (by kernel_rfl)) ?_
    simp only [Tryz.results15, Tryz.ntmps15]
    repeat' (first | (with_reducible first | refine awp_seq ?_ | refine awp_blockS ?_ | refine awp_blockC ?_ | refine awp_blockR ?_ | refine awp_skip ?_ | refine awp_ret ?_ | refine awp_exit ?_ | refine awp_region ?_ | refine awp_condM ?_ | refine And.intro ?_ ?_ | apply gQ_merge | apply gE_merge | exact EqV_w | exact EqE_w | exact EqV_ptr | exact EqE_ptr | exact EqV_msl | exact EqE_msl | exact EqV_agg | exact EqE_agg | exact EqV_fn | exact EqE_fn | exact EqV_gd | exact EqE_gd | refine gM_splitN ?_ ?_ | refine gM_split ?_ ?_ |  refine condM_splitDN ?_ ?_ | refine condM_splitD ?_ ?_ | refine condM_splitN ?_ ?_ | refine condM_split ?_ ?_ | refine condM_any ?_ ?_ | refine cw (c1) ?_ | refine cw (c2) ?_ | refine cw (c3) ?_ | refine cw (c4) ?_ | refine cw (c5) ?_ | intro _) | (simp [*]) | (refine cw_eq (c1) ?_ ?_; (· (simp [*]; done))) | (refine cw_eq (c2) ?_ ?_; (· (simp [*]; done))) | (refine cw_eq (c3) ?_ ?_; (· (simp [*]; done))) | (refine cw_eq (c4) ?_ ?_; (· (simp [*]; done))) | (refine cw_eq (c5) ?_ ?_; (· (simp [*]; done))))
  · rw [if_neg h]
    generalize balE b n d = X at *
    generalize (bookS b).2 = Y at *
    unfold cBook at *
    refine realcall_intro Tryz.func15 (by kernel_rfl) rfl (Nat.le_of_ble_eq_true (by kernel_rfl)) ?_
    simp only [Tryz.results15, Tryz.ntmps15]
    repeat' (first | (with_reducible first | refine awp_seq ?_ | refine awp_blockS ?_ | refine awp_blockC ?_ | refine awp_blockR ?_ | refine awp_skip ?_ | refine awp_ret ?_ | refine awp_exit ?_ | refine awp_region ?_ | refine awp_condM ?_ | refine And.intro ?_ ?_ | apply gQ_merge | apply gE_merge | exact EqV_w | exact EqE_w | exact EqV_ptr | exact EqE_ptr | exact EqV_msl | exact EqE_msl | exact EqV_agg | exact EqE_agg | exact EqV_fn | exact EqE_fn | exact EqV_gd | exact EqE_gd | refine gM_splitN ?_ ?_ | refine gM_split ?_ ?_ |  refine condM_splitDN ?_ ?_ | refine condM_splitD ?_ ?_ | refine condM_splitN ?_ ?_ | refine condM_split ?_ ?_ | refine condM_any ?_ ?_ | refine cw (c1) ?_ | refine cw (c2) ?_ | refine cw (c3) ?_ | refine cw (c4) ?_ | intro _) | (simp [*, h]) | (refine cw_eq (c1) ?_ ?_; (· (simp [*]; done))) | (refine cw_eq (c2) ?_ ?_; (· (simp [*]; done))) | (refine cw_eq (c3) ?_ ?_; (· (simp [*]; done))) | (refine cw_eq (c4) ?_ ?_; (· (simp [*]; done))))
def balL (f : ByteArray → Int) (l : List Acc) : Nat → List Int
  | 0 => []
  | k + 1 => balL f l k ++ [f (nth l k).name]
@[simp] theorem balL_zero (f : ByteArray → Int) (l : List Acc) : balL f l 0 = [] := rfl
theorem balL_succ (f : ByteArray → Int) (l : List Acc) (k : Nat) : balL f l (k + 1) = balL f l k ++ [f (nth l k).name] := rfl
@[simp] theorem balL_len (f : ByteArray → Int) (l : List Acc) : ∀ k, (balL f l k).length = k
  | 0 => rfl
  | k + 1 => by rw [balL_succ, List.length_append, balL_len f l k]; rfl
end Go.Proofs.YtlcimflkjfbaoaaGreat

