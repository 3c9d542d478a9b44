/- Contracts of functions for this claim: lemmas alone. -/
import Derived.Test.YtdgbfbgnbgfmjaaGreatDoorP92
import Derived.Test.YtdgbfbgnbgfmjaaGreatDoorP63
set_option linter.unusedSimpArgs false
set_option linter.unusedVariables false
namespace Go.Proofs.YtdgbfbgnbgfmjaaGreatDoor
open Go Go.Fi
set_option maxRecDepth 20000

/-! ### all comes to nothing: plain laws -/
def totK (f : ByteArray → Int) (l : List Acc) : Nat → Int
  | 0 => 0
  | k + 1 => totK f l k + f (nth l k).name
@[simp] theorem totK_zero (f : ByteArray → Int) (l : List Acc) : totK f l 0 = 0 := rfl
theorem totK_succ (f : ByteArray → Int) (l : List Acc) (k : Nat) : totK f l (k + 1) = totK f l k + f (nth l k).name := rfl
theorem totK_add (f g : ByteArray → Int) (l : List Acc) : ∀ k, totK (fun n => f n + g n) l k = totK f l k + totK g l k
  | 0 => rfl
  | k + 1 => by rw [totK_succ, totK_succ, totK_succ, totK_add f g l k]; omega
theorem totK_none (l : List Acc) : ∀ k, totK (fun _ => 0) l k = 0
  | 0 => rfl
  | k + 1 => by rw [totK_succ, totK_none l k]; rfl
theorem totK_abs (f : ByteArray → Int) (hf : ∀ n, -1200000000000 ≤ f n ∧ f n ≤ 1200000000000) (l : List Acc) : ∀ k : Nat, -(1200000000000 * (k : Int)) ≤ totK f l k ∧ totK f l k ≤ 1200000000000 * (k : Int)
  | 0 => by simp
  | k + 1 => by
    have ih := totK_abs f hf l k
    have h1 := hf (nth l k).name
    rw [totK_succ]
    omega
theorem totK_line {l : List Acc} (hd : ∀ j k, j < k → k < l.length → (nth l j).name ≠ (nth l k).name) (y : Line) (h : hasS l y.acc = true) : totK (fun n => if y.acc = n then y.amt else 0) l l.length = y.amt := by
  obtain ⟨h1, h2⟩ := find_nth h
  generalize (findS l y.acc).toNat = i at *
  have : ∀ k, k ≤ l.length → totK (fun n => if y.acc = n then y.amt else 0) l k = if i < k then y.amt else 0 := by
    intro k
    induction k with
    | zero => intro _; rfl
    | succ k ih =>
      intro hk
      rw [totK_succ, ih (by omega)]
      by_cases he : i = k
      · subst he
        rw [if_neg (by omega), if_pos h2.symm, if_pos (by omega)]
        omega
      · have hne : ¬ y.acc = (nth l k).name := by
          rw [← h2]
          rcases Nat.lt_or_ge i k with hlt | hge
          · exact hd i k hlt (by omega)
          · exact fun e => hd k i (by omega) h1 e.symm
        rw [if_neg hne]
        by_cases hlt : i < k
        · rw [if_pos hlt, if_pos (by omega)]; omega
        · rw [if_neg hlt, if_neg (by omega)]; rfl
  rw [this l.length (Nat.le_refl _), if_pos h1]
theorem totK_put {l : List Acc} (hd : ∀ j k, j < k → k < l.length → (nth l j).name ≠ (nth l k).name) : ∀ (L : List Line), (∀ y ∈ L, hasS l y.acc = true) → totK (fun n => putS n L) l l.length = sumA L
  | [], _ => totK_none l l.length
  | y :: r, h => by
    have e := totK_add (fun n => if y.acc = n then y.amt else 0) (fun n => putS n r) l l.length
    rw [totK_line hd y (h y (by simp)), totK_put hd r (fun z hz => h z (by simp [hz]))] at e
    exact e
theorem totK_bal {l : List Acc} (hd : ∀ j k, j < k → k < l.length → (nth l j).name ≠ (nth l k).name) (d : Int) : ∀ (es : List Entry), (∀ e ∈ es, (entryS l e).2 = 0) → totK (fun n => balS n d es) l l.length = 0
  | [], _ => totK_none l l.length
  | e :: r, h => by
    have he := h e (by simp)
    have hz := entryS_zero he
    have e1 := totK_add (fun n => if e.date ≤ d then putS n e.lines else 0) (fun n => balS n d r) l l.length
    rw [totK_bal hd d r (fun z hz => h z (by simp [hz]))] at e1
    have e2 : totK (fun n => if e.date ≤ d then putS n e.lines else 0) l l.length = 0 := by
      by_cases hdt : e.date ≤ d
      · have : (fun n => if e.date ≤ d then putS n e.lines else 0) = fun n => putS n e.lines := by funext n; rw [if_pos hdt]
        rw [this, totK_put hd e.lines (fun y hy => by obtain ⟨k, hk, rfl⟩ := mem_nth hy; exact (lineE_zero (hz.2 k hk)).1)]
        exact entryS_sum he
      · have : (fun n => if e.date ≤ d then putS n e.lines else 0) = fun _ => 0 := by funext n; rw [if_neg hdt]
        rw [this]
        exact totK_none l l.length
    rw [e2] at e1
    exact e1
theorem balanced_all {b : Book} (h0 : (bookS b).2 = 0) (d : Int) : totK (fun n => balS n d b.entries) b.accs b.accs.length = 0 :=
  totK_bal (accs_diff (bookS_zero h0).accs) d b.entries (fun e he => by obtain ⟨k, hk, rfl⟩ := mem_nth he; exact (bookS_zero h0).ent k hk)
theorem negL_len' (L : List Line) : (negL L).length = L.length := by simp [negL]
theorem putS_neg (n : ByteArray) : ∀ L : List Line, putS n (negL L) = -(putS n L)
  | [] => rfl
  | y :: r => by
    have ih := putS_neg n r
    unfold negL at ih ⊢
    simp only [List.map_cons, putS]
    rw [ih]
    split <;> omega
theorem sumA_neg : ∀ L : List Line, sumA (negL L) = -(sumA L)
  | [] => rfl
  | y :: r => by
    have ih := sumA_neg r
    unfold negL at ih ⊢
    simp only [List.map_cons, sumA]
    rw [ih]
    omega
theorem entryS_neg {a : List Acc} {e : Entry} (h : (entryS a e).2 = 0) : (entryS a ⟨e.date, e.note, negL e.lines⟩).2 = 0 := by
  have hz := entryS_zero h
  refine entryS_mk ?_ (fun y hy => ?_) (by dsimp only; rw [sumA_neg, entryS_sum h]; rfl)
  · have := hz.1
    unfold headE at this ⊢
    dsimp only
    rw [negL_len']
    exact this
  · unfold negL at hy
    rw [List.mem_map] at hy
    obtain ⟨z, hz1, rfl⟩ := hy
    obtain ⟨k, hk, rfl⟩ := mem_nth hz1
    obtain ⟨q1, q2, q3, q4⟩ := lineE_zero (hz.2 k hk)
    exact lineE_mk q1 (by dsimp only; omega) (by unfold smallB; exact winB_iff.2 (by dsimp only; omega))
theorem bal_back {b : Book} {x : Entry} (hx : x.date ≤ 100000) (n : ByteArray) : balF (postS (postS b x) ⟨x.date, x.note, negL x.lines⟩) n = balF b n := by
  unfold balF
  rw [balS_post, balS_post]
  dsimp only
  rw [if_pos hx, if_pos hx, putS_neg]
  omega
/-! ### the program's reversed entries -/
def linesQ (ls : List Line) : Int := firstS [errUnless (decide ((ls.length : Int) ≤ 12)) 8, errUnless (!ls.any greatB) 2]
theorem linesErr_c (ls : List Line) (hl : ls.length < 100000) : RealCall Tryz.prog 124 [.sl ls.length (cLines ls)] (.int .i64 (linesQ ls)) true := by
  have c1 := containsFuncL_c ls hl 162 [] greatB le1_c
  have c2 := first2_c (errUnless (decide ((ls.length : Int) ≤ 12)) 8) (errUnless (!ls.any greatB) 2)
  change RealCall _ _ _ (.int .i64 (linesQ ls)) true at c2
  generalize linesQ ls = V at *
  generalize ls.any greatB = G at *
  refine realcall_intro Tryz.func124 (by kernel_rfl) rfl (Nat.le_of_ble_eq_true (by kernel_rfl)) ?_
  simp only [Tryz.results124, Tryz.ntmps124]
  repeat' (first | (with_reducible first | refine awp_seq ?_ | refine awp_blockS ?_ | refine awp_blockC ?_ | refine awp_blockR ?_ | refine awp_skip ?_ | refine awp_ret ?_ | refine awp_exit ?_ | refine awp_region ?_ | refine awp_condM ?_ | refine And.intro ?_ ?_ | apply gQ_merge | apply gE_merge | exact EqV_w | exact EqE_w | exact EqV_ptr | exact EqE_ptr | exact EqV_msl | exact EqE_msl | exact EqV_agg | exact EqE_agg | exact EqV_fn | exact EqE_fn | exact EqV_gd | exact EqE_gd | refine gM_splitN ?_ ?_ | refine gM_split ?_ ?_ |  refine condM_splitDN ?_ ?_ | refine condM_splitD ?_ ?_ | refine condM_splitN ?_ ?_ | refine condM_split ?_ ?_ | refine condM_any ?_ ?_ | refine cw (c1) ?_ | refine cw (c2) ?_ | refine cw (unless_c _ _) ?_ | intro _) | (simp [*]) | (refine cw_eq (c1) ?_ ?_; (· (simp [*]; done))) | (refine cw_eq (c2) ?_ ?_; (· (simp [*]; done))) | (refine cw_eq (unless_c _ _) ?_ ?_; (· (simp [*]; done))))
set_option maxHeartbeats 4000000 in
theorem reversed_ok (e : Entry) (d : Int) (h1 : linesQ e.lines = 0) (h2 : dateE d = 0) (hl : e.lines.length ≤ 12) (ha : ∀ k, k < e.lines.length → -1000000000 ≤ (nth e.lines k).amt ∧ (nth e.lines k).amt ≤ 1000000000) : RealCall Tryz.prog 67 [.agg (cEntry e), .int .i64 d] (.tup [.agg (cEntry ⟨d, e.note, negL e.lines⟩), .int .i64 0]) true := by
  have c1 := linesErr_c e.lines (by omega)
  have c2 := dateErr_c d
  have c3 := first2_c (linesQ e.lines) (dateE d)
  have c4 := opposite_c e (by omega) ha
  rw [h1, h2] at c3
  rw [h1] at c1
  rw [h2] at c2
  change RealCall _ _ _ (.int .i64 0) true at c3
  clear h1 h2 ha
  generalize negL e.lines = M at *
  obtain ⟨ed, en, el⟩ := e
  unfold cEntry at *
  dsimp only at *
  refine realcall_intro Tryz.func67 (by kernel_rfl) rfl (Nat.le_of_ble_eq_true (by kernel_rfl)) ?_
  simp only [Tryz.results67, Tryz.ntmps67]
  repeat' (first | (with_reducible first | refine awp_seq ?_ | refine awp_blockS ?_ | refine awp_blockC ?_ | refine awp_blockR ?_ | refine awp_skip ?_ | refine awp_ret ?_ | refine awp_exit ?_ | refine awp_region ?_ | refine awp_condM ?_ | refine And.intro ?_ ?_ | apply gQ_merge | apply gE_merge | exact EqV_w | exact EqE_w | exact EqV_ptr | exact EqE_ptr | exact EqV_msl | exact EqE_msl | exact EqV_agg | exact EqE_agg | exact EqV_fn | exact EqE_fn | exact EqV_gd | exact EqE_gd | refine gM_splitN ?_ ?_ | refine gM_split ?_ ?_ |  refine condM_splitDN ?_ ?_ | refine condM_splitD ?_ ?_ | refine condM_splitN ?_ ?_ | refine condM_split ?_ ?_ | refine condM_any ?_ ?_ | refine cw (c1) ?_ | refine cw (c2) ?_ | refine cw (c3) ?_ | refine cw (c4) ?_ | intro _) | (simp [*]) | (refine cw_eq (c1) ?_ ?_; (· (simp [*]; done))) | (refine cw_eq (c2) ?_ ?_; (· (simp [*]; done))) | (refine cw_eq (c3) ?_ ?_; (· (simp [*]; done))) | (refine cw_eq (c4) ?_ ?_; (· (simp [*]; done))))
end Go.Proofs.YtdgbfbgnbgfmjaaGreatDoor

