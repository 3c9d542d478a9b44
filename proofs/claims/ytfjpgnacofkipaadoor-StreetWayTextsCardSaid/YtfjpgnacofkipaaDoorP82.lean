/- Contracts of functions for this claim: lemmas alone. -/
import Derived.Test.YtfjpgnacofkipaaDoorP80
import Derived.Test.YtfjpgnacofkipaaDoorP20
set_option linter.unusedSimpArgs false
set_option linter.unusedVariables false
namespace Go.Proofs.YtfjpgnacofkipaaDoor
open Go Go.Fi
set_option maxRecDepth 20000

/-! ### a way is read -/
def isR (s : ByteArray) (r : Road) : Bool := decide (r.name = s)
theorem isR_c (s : ByteArray) (r : Road) : RealCall Tryd.prog 28 [.agg (cRoad r), .ip [.str s] 0] (.bool (isR s r)) true := by
  unfold isR cRoad
  refine realcall_intro Tryd.func28 (by kernel_rfl) rfl (Nat.le_of_ble_eq_true (by kernel_rfl)) ?_
  simp only [Tryd.results28, Tryd.ntmps28]
  repeat' (first | (with_reducible first | refine awp_seq ?_ | refine awp_blockS ?_ | refine awp_blockC ?_ | refine awp_blockR ?_ | refine awp_skip ?_ | refine awp_ret ?_ | refine awp_exit ?_ | refine awp_region ?_ | refine awp_condM ?_ | refine And.intro ?_ ?_ | apply gQ_merge | apply gE_merge | exact EqV_w | exact EqE_w | exact EqV_ptr | exact EqE_ptr | exact EqV_msl | exact EqE_msl | exact EqV_agg | exact EqE_agg | exact EqV_fn | exact EqE_fn | exact EqV_gd | exact EqE_gd | refine gM_splitN ?_ ?_ | refine gM_split ?_ ?_ |  refine condM_splitDN ?_ ?_ | refine condM_splitD ?_ ?_ | refine condM_splitN ?_ ?_ | refine condM_split ?_ ?_ | refine condM_any ?_ ?_ | intro _) | (simp [*]))
theorem indexR_c (l : List Road) (hl : l.length < 100000) (g : FuncId) (caps : List PV) (p : Road → Bool) (h : ∀ x, RealCall Tryd.prog g (.agg (cRoad x) :: caps) (.bool (p x)) true) :
    RealCall Tryd.prog 27 [.sl l.length (cRoads l), .fn g caps] (.int .i64 (idxS p l)) true := by
  refine realcall_intro Tryd.func27 (by kernel_rfl) rfl (Nat.le_of_ble_eq_true (by kernel_rfl)) ?_
  simp only [Tryd.results27, Tryd.ntmps27]
  repeat' (first | (with_reducible first | refine awp_seq ?_ | refine awp_blockS ?_ | refine awp_blockC ?_ | refine awp_blockR ?_ | refine awp_skip ?_ | refine awp_ret ?_ | refine awp_exit ?_ | refine awp_region ?_ | refine awp_condM ?_ | refine And.intro ?_ ?_ | apply gQ_merge | apply gE_merge | exact EqV_w | exact EqE_w | exact EqV_ptr | exact EqE_ptr | exact EqV_msl | exact EqE_msl | exact EqV_agg | exact EqE_agg | exact EqV_fn | exact EqE_fn | exact EqV_gd | exact EqE_gd | refine gM_splitN ?_ ?_ | refine gM_split ?_ ?_ |  refine condM_splitDN ?_ ?_ | refine condM_splitD ?_ ?_ | refine condM_splitN ?_ ?_ | refine condM_split ?_ ?_ | refine condM_any ?_ ?_ | intro _) | (simp [*]))
  refine awp_for3 (fun (k : Nat) => k ≤ l.length ∧ idxFrom p l (l.length - k) k = idxS p l) [0, 1, 7] (fun (k : Nat) => [(8, .w false false (.int .i64 k))]) [] (fun (k : Nat) => []) (fun (k : Nat) => l.length - k) (fun (_u : Unit) => idxS p l = -1) [] (fun (_u : Unit) => []) [] (fun (_u : Unit) => []) (0) ⟨Nat.zero_le _, rfl⟩ (by simp) (by simp) (fun k hk => ?_) (fun _u hf => ?_)
  · obtain ⟨hk, hj⟩ := hk
    by_cases hlt : k < l.length
    · have c1 := h (nth l k)
      have kj := keep hj
      clear hj h
      repeat' (first | (with_reducible first | refine awp_seq ?_ | refine awp_blockS ?_ | refine awp_blockC ?_ | refine awp_blockR ?_ | refine awp_skip ?_ | refine awp_ret ?_ | refine awp_exit ?_ | refine awp_region ?_ | refine awp_condM ?_ | refine And.intro ?_ ?_ | apply gQ_merge | apply gE_merge | exact EqV_w | exact EqE_w | exact EqV_ptr | exact EqE_ptr | exact EqV_msl | exact EqE_msl | exact EqV_agg | exact EqE_agg | exact EqV_fn | exact EqE_fn | exact EqV_gd | exact EqE_gd | refine gM_splitN ?_ ?_ | refine gM_split ?_ ?_ |  refine condM_splitDN ?_ ?_ | refine condM_splitD ?_ ?_ | refine condM_splitN ?_ ?_ | refine condM_split ?_ ?_ | refine condM_any ?_ ?_ | refine cw (c1) ?_ | intro _) | (simp [*, hlt]) | (refine cw_eq (c1) ?_ ?_; (· (simp [*]; done))))
      all_goals first
        | exact inI64 (by omega) (by omega)
        | omega
        | (rename_i hp; rw [← (show _ = idxS p l from kj), idxFrom_hit _ l k hlt hp])
        | (rename_i hp; (refine loopK_normal _ _ _ _ _ (k + 1) _ ?_ (by first | omega | (dsimp only; omega) | (simp; omega)) ?_; (· exact ⟨by omega, by rw [← (show _ = idxS p l from kj), idxFrom_miss _ l k hlt hp]⟩); (refine le_of ?_ ?_ <;> first | trivial | (simp [*]; done))))
        | skip
    · have hke : k = l.length := by omega
      subst hke
      repeat' (first | (with_reducible first | refine awp_seq ?_ | refine awp_blockS ?_ | refine awp_blockC ?_ | refine awp_blockR ?_ | refine awp_skip ?_ | refine awp_ret ?_ | refine awp_exit ?_ | refine awp_region ?_ | refine awp_condM ?_ | refine And.intro ?_ ?_ | apply gQ_merge | apply gE_merge | exact EqV_w | exact EqE_w | exact EqV_ptr | exact EqE_ptr | exact EqV_msl | exact EqE_msl | exact EqV_agg | exact EqE_agg | exact EqV_fn | exact EqE_fn | exact EqV_gd | exact EqE_gd | refine gM_splitN ?_ ?_ | refine gM_split ?_ ?_ |  refine condM_splitDN ?_ ?_ | refine condM_splitD ?_ ?_ | refine condM_splitN ?_ ?_ | refine condM_split ?_ ?_ | refine condM_any ?_ ?_ | intro _) | (simp [*]))
      all_goals (refine finW_intro () ?_ ?_; (· rw [← hj, idxFrom_end _ l _ (Nat.le_refl _)]); (refine le_of ?_ ?_ <;> first | trivial | (simp [*]; done)))
  · repeat' (first | (with_reducible first | refine awp_seq ?_ | refine awp_blockS ?_ | refine awp_blockC ?_ | refine awp_blockR ?_ | refine awp_skip ?_ | refine awp_ret ?_ | refine awp_exit ?_ | refine awp_region ?_ | refine awp_condM ?_ | refine And.intro ?_ ?_ | apply gQ_merge | apply gE_merge | exact EqV_w | exact EqE_w | exact EqV_ptr | exact EqE_ptr | exact EqV_msl | exact EqE_msl | exact EqV_agg | exact EqE_agg | exact EqV_fn | exact EqE_fn | exact EqV_gd | exact EqE_gd | refine gM_splitN ?_ ?_ | refine gM_split ?_ ?_ |  refine condM_splitDN ?_ ?_ | refine condM_splitD ?_ ?_ | refine condM_splitN ?_ ?_ | refine condM_split ?_ ?_ | refine condM_any ?_ ?_ | intro _) | (simp [*, hf]))
def roadAt (n : Net) (s : ByteArray) : Int := idxS (isR s) n.roads
theorem roadAt_c (n : Net) (hl : n.roads.length < 1000) (s : ByteArray) : RealCall Tryd.prog 27 [.sl n.roads.length (cRoads n.roads), .fn 28 [.ip [.str s] 0]] (.int .i64 (roadAt n s)) true :=
  indexR_c n.roads (by omega) _ _ (isR s) (isR_c s)
theorem idxFrom_bd {α : Type} [Inhabited α] (p : α → Bool) (l : List α) : ∀ f k, -1 ≤ idxFrom p l f k ∧ idxFrom p l f k < l.length
  | 0, k => by unfold idxFrom; omega
  | f + 1, k => by
    have := idxFrom_bd p l f (k + 1)
    unfold idxFrom
    split
    · split <;> omega
    · omega
theorem roadAt_bd (n : Net) (s : ByteArray) : -1 ≤ roadAt n s ∧ roadAt n s < n.roads.length := idxFrom_bd _ _ _ _
theorem idxFrom_p {α : Type} [Inhabited α] (p : α → Bool) (l : List α) : ∀ f k, 0 ≤ idxFrom p l f k → (idxFrom p l f k).toNat < l.length ∧ p (nth l (idxFrom p l f k).toNat) = true
  | 0, k, h => by unfold idxFrom at h; omega
  | f + 1, k, h => by
    unfold idxFrom at h ⊢
    split
    · split
      · simp; constructor <;> assumption
      · rename_i h1 h2; rw [if_pos h1, if_neg h2] at h; exact idxFrom_p p l f (k + 1) h
    · rename_i h1; rw [if_neg h1] at h; omega
def wayOf (n : Net) (ws : List ByteArray) : List Int := ws.map (roadAt n)
@[simp] theorem wayOf_len (n : Net) (ws : List ByteArray) : (wayOf n ws).length = ws.length := by simp [wayOf]
@[simp] theorem wayOf_nil (n : Net) : wayOf n [] = [] := rfl
theorem wayOf_succ (n : Net) (ws : List ByteArray) (k : Nat) (h : k < ws.length) : wayOf n (ws.take (k + 1)) = wayOf n (ws.take k) ++ [roadAt n (nth ws k)] := by
  rw [take_succ_nth ws k h]; simp [wayOf]
def missB (n : Net) (ws : List ByteArray) : Bool := ws.any fun x => decide (roadAt n x < 0)
def emptyB (ws : List ByteArray) : Bool := ws.any fun x => decide (x = (⟨#[]⟩ : ByteArray))
def parE (n : Net) (ws : List ByteArray) : Int := if missB n ws = true then 6 else (wayS n (wayOf n ws)).2.2
def parS (n : Net) (s : ByteArray) : List Int × Int :=
  if (netS n).2.2 ≠ 0 then ([], (netS n).2.2)
  else if s = ⟨#[]⟩ then ([], 0)
  else if emptyB (pieces s sp1) = true then ([], 7)
  else if parE n (pieces s sp1) ≠ 0 then ([], parE n (pieces s sp1))
  else (wayOf n (pieces s sp1), 0)
@[simp] theorem ints_nil0 : ints [] = [] := rfl
def parP (x : List Int × Int) : PV := .tup [.sl x.1.length (ints x.1), .int .i64 x.2]
theorem any_upto {α : Type} [Inhabited α] (p : α → Bool) : ∀ (l : List α), (∀ k, k < l.length → p (nth l k) = false) → l.any p = false
  | [], _ => rfl
  | x :: r, h => by
    have h0 := h 0 (by simp)
    simp only [nth_zero] at h0
    rw [List.any_cons, h0, any_upto p r (fun k hk => by have := h (k + 1) (by simpa using hk); simpa using this)]; rfl
theorem any_hit {α : Type} [Inhabited α] (p : α → Bool) : ∀ (l : List α) (k : Nat), k < l.length → p (nth l k) = true → l.any p = true
  | [], k, h, _ => by simp at h
  | x :: r, 0, _, h => by simp only [nth_zero] at h; rw [List.any_cons, h]; rfl
  | x :: r, k + 1, hk, h => by rw [List.any_cons, any_hit p r k (by simpa using hk) (by simpa using h)]; simp
theorem pieces_len (s : ByteArray) : (pieces s sp1).length ≤ s.size + 1 := by
  rw [cut_pieces]
  have := cutCl_len 32 s s.size
  rw [List.length_append]; simp; omega
set_option maxHeartbeats 4000000 in
theorem parseWay_c (n : Net) (h : NetIn n) (s : ByteArray) (hs : s.size < 900) : RealCall Tryd.prog 10 [aNet n, .str s] (parP (parS n s)) true := by
  have co := open_c n h
  have hlen := pieces_len s
  have csp := splitT_c s sp1 (by omega) (by decide)
  have cc : RealCall Tryd.prog 26 [.sl (pieces s sp1).length (strP (pieces s sp1)), .str ⟨#[]⟩] (.bool (emptyB (pieces s sp1))) true := by
    have := contains_c (pieces s sp1) ⟨#[]⟩ (by omega)
    have e : emptyB (pieces s sp1) = ((pieces s sp1).any fun x => decide ((⟨#[]⟩ : ByteArray) = x)) := by
      unfold emptyB; congr 1; funext x; exact decide_eq_decide.2 ⟨Eq.symm, Eq.symm⟩
    rw [e]; exact this
  have ci := fun x => roadAt_c n h.nr x
  have cw1 : ∀ w : List Int, w.length < 1000 → _ := fun w hw => wayErr_c n h w hw
  unfold parS parE parP
  unfold aNet cNet at *
  generalize pieces s sp1 = ws at *
  have hwl : ws.length < 1000 := by omega
  by_cases he : (netS n).2.2 = 0
  · rw [he] at co
    rw [if_neg (by simp [he])]
    by_cases hz : s = ⟨#[]⟩
    · rw [if_pos hz]
      subst hz
      clear cc ci cw1 csp
      refine realcall_intro Tryd.func10 (by kernel_rfl) rfl (Nat.le_of_ble_eq_true (by kernel_rfl)) ?_
      simp only [Tryd.results10, Tryd.ntmps10]
      repeat' (first | (with_reducible first | refine awp_seq ?_ | refine awp_blockS ?_ | refine awp_blockC ?_ | refine awp_blockR ?_ | refine awp_skip ?_ | refine awp_ret ?_ | refine awp_exit ?_ | refine awp_region ?_ | refine awp_condM ?_ | refine And.intro ?_ ?_ | apply gQ_merge | apply gE_merge | exact EqV_w | exact EqE_w | exact EqV_ptr | exact EqE_ptr | exact EqV_msl | exact EqE_msl | exact EqV_agg | exact EqE_agg | exact EqV_fn | exact EqE_fn | exact EqV_gd | exact EqE_gd | refine gM_splitN ?_ ?_ | refine gM_split ?_ ?_ |  refine condM_splitDN ?_ ?_ | refine condM_splitD ?_ ?_ | refine condM_splitN ?_ ?_ | refine condM_split ?_ ?_ | refine condM_any ?_ ?_ | refine cw (co) ?_ | intro _) | (simp [*]) | (refine cw_eq (co) ?_ ?_; (· (simp [*]; done))))
    · rw [if_neg hz]
      cases hb : emptyB ws with
      | true =>
        rw [if_pos rfl]
        rw [hb] at cc
        clear ci cw1 he
        refine realcall_intro Tryd.func10 (by kernel_rfl) rfl (Nat.le_of_ble_eq_true (by kernel_rfl)) ?_
        simp only [Tryd.results10, Tryd.ntmps10]
        repeat' (first | (with_reducible first | refine awp_seq ?_ | refine awp_blockS ?_ | refine awp_blockC ?_ | refine awp_blockR ?_ | refine awp_skip ?_ | refine awp_ret ?_ | refine awp_exit ?_ | refine awp_region ?_ | refine awp_condM ?_ | refine And.intro ?_ ?_ | apply gQ_merge | apply gE_merge | exact EqV_w | exact EqE_w | exact EqV_ptr | exact EqE_ptr | exact EqV_msl | exact EqE_msl | exact EqV_agg | exact EqE_agg | exact EqV_fn | exact EqE_fn | exact EqV_gd | exact EqE_gd | refine gM_splitN ?_ ?_ | refine gM_split ?_ ?_ |  refine condM_splitDN ?_ ?_ | refine condM_splitD ?_ ?_ | refine condM_splitN ?_ ?_ | refine condM_split ?_ ?_ | refine condM_any ?_ ?_ | refine cw (co) ?_ | refine cw (csp) ?_ | refine cw (cc) ?_ | intro _) | (simp [*, hz]) | (refine cw_eq (co) ?_ ?_; (· (simp [*]; done))) | (refine cw_eq (csp) ?_ ?_; (· (simp [*]; done))) | (refine cw_eq (cc) ?_ ?_; (· (simp [*]; done))))
      | false =>
        rw [if_neg (by decide)]
        rw [hb] at cc
        have kb := keep hb
        clear hb he h
        generalize hR : (if missB n ws = true then 6 else (wayS n (wayOf n ws)).2.2) = E
        have kR := keep hR
        clear hR
        have e0 : wayOf n (ws.take 0) = [] := rfl
        refine realcall_intro Tryd.func10 (by kernel_rfl) rfl (Nat.le_of_ble_eq_true (by kernel_rfl)) ?_
        simp only [Tryd.results10, Tryd.ntmps10]
        repeat' (first | (with_reducible first | refine awp_seq ?_ | refine awp_blockS ?_ | refine awp_blockC ?_ | refine awp_blockR ?_ | refine awp_skip ?_ | refine awp_ret ?_ | refine awp_exit ?_ | refine awp_region ?_ | refine awp_condM ?_ | refine And.intro ?_ ?_ | apply gQ_merge | apply gE_merge | exact EqV_w | exact EqE_w | exact EqV_ptr | exact EqE_ptr | exact EqV_msl | exact EqE_msl | exact EqV_agg | exact EqE_agg | exact EqV_fn | exact EqE_fn | exact EqV_gd | exact EqE_gd | refine gM_splitN ?_ ?_ | refine gM_split ?_ ?_ |  refine condM_splitDN ?_ ?_ | refine condM_splitD ?_ ?_ | refine condM_splitN ?_ ?_ | refine condM_split ?_ ?_ | refine condM_any ?_ ?_ | refine cw (co) ?_ | refine cw (csp) ?_ | refine cw (cc) ?_ | intro _) | (simp [*, hz]) | (refine cw_eq (co) ?_ ?_; (· (simp [*]; done))) | (refine cw_eq (csp) ?_ ?_; (· (simp [*]; done))) | (refine cw_eq (cc) ?_ ?_; (· (simp [*]; done))))
        refine awp_for4 3 (fun (k : Nat) => k ≤ ws.length ∧ ∀ j, j < k → 0 ≤ roadAt n (nth ws j)) [2, 6, 31, 32] (fun (k : Nat) => [(33, .w false false (.int .i64 k)), (9, .msl 2 k 1 0 k)]) [0, 1] (fun (k : Nat) => [(2, iA (wayOf n (ws.take k)))]) (fun (k : Nat) => ws.length - k) (fun (_u : Unit) => missB n ws = false) [6] (fun (_u : Unit) => [(9, .msl 2 ws.length 1 0 ws.length)]) [1] (fun (_u : Unit) => [(2, iA (wayOf n ws))]) (0) ⟨Nat.zero_le _, fun j hj => absurd hj (Nat.not_lt_zero j)⟩ (le_gen [] (by simp [e0, iA, ints]) (by simp [e0, iA, ints])) (fun k hk => ?_) (fun _u hf => ?_)
        · clear e0
          obtain ⟨hk, hj⟩ := hk
          have kj := keep hj
          clear hj
          by_cases hlt : k < ws.length
          · have c1 := ci (nth ws k)
            have y := keep (wayOf_succ n ws k hlt)
            have hlen2 : (ws.take k).length = k := take_len _ _ hk
            have hbd := roadAt_bd n (nth ws k)
            clear ci cw1
            by_cases hm : roadAt n (nth ws k) < 0
            · have e6 : E = 6 := by
                rw [← (show _ = E from kR), if_pos]
                exact any_hit _ ws k hlt (by simpa using hm)
              subst e6
              generalize roadAt n (nth ws k) = r at *
              repeat' (first | (with_reducible first | refine awp_seq ?_ | refine awp_blockS ?_ | refine awp_blockC ?_ | refine awp_blockR ?_ | refine awp_skip ?_ | refine awp_ret ?_ | refine awp_exit ?_ | refine awp_region ?_ | refine awp_condM ?_ | refine And.intro ?_ ?_ | apply gQ_merge | apply gE_merge | exact EqV_w | exact EqE_w | exact EqV_ptr | exact EqE_ptr | exact EqV_msl | exact EqE_msl | exact EqV_agg | exact EqE_agg | exact EqV_fn | exact EqE_fn | exact EqV_gd | exact EqE_gd | refine gM_splitN ?_ ?_ | refine gM_split ?_ ?_ |  refine condM_splitDN ?_ ?_ | refine condM_splitD ?_ ?_ | refine condM_splitN ?_ ?_ | refine condM_split ?_ ?_ | refine condM_any ?_ ?_ | refine cw (c1) ?_ | intro _) | (simp [*, hlt, hm, hlen2]) | (refine cw_eq (c1) ?_ ?_; (· (simp [*]; done))))
            · have knew := keep (show ∀ j, j < k + 1 → 0 ≤ roadAt n (nth ws j) from fun j hj => by
                rcases Nat.lt_or_ge j k with h1 | h1
                · exact (show ∀ j, j < k → 0 ≤ roadAt n (nth ws j) from kj) j h1
                · have : j = k := by omega
                  subst this; omega)
              generalize roadAt n (nth ws k) = r at *
              repeat' (first | (with_reducible first | refine awp_seq ?_ | refine awp_blockS ?_ | refine awp_blockC ?_ | refine awp_blockR ?_ | refine awp_skip ?_ | refine awp_ret ?_ | refine awp_exit ?_ | refine awp_region ?_ | refine awp_condM ?_ | refine And.intro ?_ ?_ | apply gQ_merge | apply gE_merge | exact EqV_w | exact EqE_w | exact EqV_ptr | exact EqE_ptr | exact EqV_msl | exact EqE_msl | exact EqV_agg | exact EqE_agg | exact EqV_fn | exact EqE_fn | exact EqV_gd | exact EqE_gd | refine gM_splitN ?_ ?_ | refine gM_split ?_ ?_ |  refine condM_splitDN ?_ ?_ | refine condM_splitD ?_ ?_ | refine condM_splitN ?_ ?_ | refine condM_split ?_ ?_ | refine condM_any ?_ ?_ | refine cw (c1) ?_ | intro _) | (simp [*, hlt, hm, hlen2]) | (refine cw_eq (c1) ?_ ?_; (· (simp [*]; done))))
              all_goals try first | exact inI64 (by omega) (by omega) | omega
              all_goals (refine loopK_normal _ _ _ _ _ (k + 1) _ ?_ (by first | omega | (dsimp only; omega) | (simp; omega)) ?_; (· exact ⟨by omega, knew⟩); (refine le_gen [] ?_ ?_ <;> first | trivial | (simp [*, (show wayOf n (ws.take (k + 1)) = _ from y), hlen2]; done)))
          · have hke : k = ws.length := by omega
            subst hke
            clear ci cw1
            repeat' (first | (with_reducible first | refine awp_seq ?_ | refine awp_blockS ?_ | refine awp_blockC ?_ | refine awp_blockR ?_ | refine awp_skip ?_ | refine awp_ret ?_ | refine awp_exit ?_ | refine awp_region ?_ | refine awp_condM ?_ | refine And.intro ?_ ?_ | apply gQ_merge | apply gE_merge | exact EqV_w | exact EqE_w | exact EqV_ptr | exact EqE_ptr | exact EqV_msl | exact EqE_msl | exact EqV_agg | exact EqE_agg | exact EqV_fn | exact EqE_fn | exact EqV_gd | exact EqE_gd | refine gM_splitN ?_ ?_ | refine gM_split ?_ ?_ |  refine condM_splitDN ?_ ?_ | refine condM_splitD ?_ ?_ | refine condM_splitN ?_ ?_ | refine condM_split ?_ ?_ | refine condM_any ?_ ?_ | intro _) | (simp [*]))
            all_goals (refine finW_intro () ?_ ?_; (· exact any_upto _ ws (fun j hj => by have := (show ∀ j, j < ws.length → 0 ≤ roadAt n (nth ws j) from kj) j hj; simp; omega)); (refine le_gen [] ?_ ?_ <;> first | trivial | (simp [*, List.take_length]; done)))
        · clear e0
          have eE : (wayS n (wayOf n ws)).2.2 = E := by
            rw [← (show _ = E from kR), if_neg (by rw [hf]; decide)]
          have c2 := cw1 (wayOf n ws) (by simpa using hwl)
          rw [eE, wayOf_len] at c2
          clear eE ci cw1 hf
          have hwo := wayOf_len n ws
          generalize wayOf n ws = wy at *
          by_cases hE : E = 0
          · subst hE
            repeat' (first | (with_reducible first | refine awp_seq ?_ | refine awp_blockS ?_ | refine awp_blockC ?_ | refine awp_blockR ?_ | refine awp_skip ?_ | refine awp_ret ?_ | refine awp_exit ?_ | refine awp_region ?_ | refine awp_condM ?_ | refine And.intro ?_ ?_ | apply gQ_merge | apply gE_merge | exact EqV_w | exact EqE_w | exact EqV_ptr | exact EqE_ptr | exact EqV_msl | exact EqE_msl | exact EqV_agg | exact EqE_agg | exact EqV_fn | exact EqE_fn | exact EqV_gd | exact EqE_gd | refine gM_splitN ?_ ?_ | refine gM_split ?_ ?_ |  refine condM_splitDN ?_ ?_ | refine condM_splitD ?_ ?_ | refine condM_splitN ?_ ?_ | refine condM_split ?_ ?_ | refine condM_any ?_ ?_ | refine cw (c2) ?_ | intro _) | (simp [*, hwo]) | (refine cw_eq (c2) ?_ ?_; (· (simp [*]; done))))
          · repeat' (first | (with_reducible first | refine awp_seq ?_ | refine awp_blockS ?_ | refine awp_blockC ?_ | refine awp_blockR ?_ | refine awp_skip ?_ | refine awp_ret ?_ | refine awp_exit ?_ | refine awp_region ?_ | refine awp_condM ?_ | refine And.intro ?_ ?_ | apply gQ_merge | apply gE_merge | exact EqV_w | exact EqE_w | exact EqV_ptr | exact EqE_ptr | exact EqV_msl | exact EqE_msl | exact EqV_agg | exact EqE_agg | exact EqV_fn | exact EqE_fn | exact EqV_gd | exact EqE_gd | refine gM_splitN ?_ ?_ | refine gM_split ?_ ?_ |  refine condM_splitDN ?_ ?_ | refine condM_splitD ?_ ?_ | refine condM_splitN ?_ ?_ | refine condM_split ?_ ?_ | refine condM_any ?_ ?_ | refine cw (c2) ?_ | intro _) | (simp [*, hE, hwo]) | (refine cw_eq (c2) ?_ ?_; (· (simp [*]; done))))
  · rw [if_pos he]
    generalize (netS n).2.2 = e at *
    clear cc ci cw1 csp
    refine realcall_intro Tryd.func10 (by kernel_rfl) rfl (Nat.le_of_ble_eq_true (by kernel_rfl)) ?_
    simp only [Tryd.results10, Tryd.ntmps10]
    repeat' (first | (with_reducible first | refine awp_seq ?_ | refine awp_blockS ?_ | refine awp_blockC ?_ | refine awp_blockR ?_ | refine awp_skip ?_ | refine awp_ret ?_ | refine awp_exit ?_ | refine awp_region ?_ | refine awp_condM ?_ | refine And.intro ?_ ?_ | apply gQ_merge | apply gE_merge | exact EqV_w | exact EqE_w | exact EqV_ptr | exact EqE_ptr | exact EqV_msl | exact EqE_msl | exact EqV_agg | exact EqE_agg | exact EqV_fn | exact EqE_fn | exact EqV_gd | exact EqE_gd | refine gM_splitN ?_ ?_ | refine gM_split ?_ ?_ |  refine condM_splitDN ?_ ?_ | refine condM_splitD ?_ ?_ | refine condM_splitN ?_ ?_ | refine condM_split ?_ ?_ | refine condM_any ?_ ?_ | refine cw (co) ?_ | intro _) | (simp [*, he]) | (refine cw_eq (co) ?_ ?_; (· (simp [*]; done))))
end Go.Proofs.YtfjpgnacofkipaaDoor
namespace Go.Proofs.YtfjpgnacofkipaaDoor
open Go Go.Fi
set_option maxRecDepth 20000

/-! ### the reference reads a way -/
def lastK {α : Type} [Inhabited α] (p : α → Bool) (l : List α) : Nat → Int
  | 0 => -1
  | k + 1 => if p (nth l k) = true then (k : Int) else lastK p l k
@[simp] theorem lastK_zero {α : Type} [Inhabited α] (p : α → Bool) (l : List α) : lastK p l 0 = -1 := rfl
theorem lastK_bd {α : Type} [Inhabited α] (p : α → Bool) (l : List α) : ∀ k, -1 ≤ lastK p l k ∧ lastK p l k < k
  | 0 => by simp [lastK]
  | k + 1 => by
    have := lastK_bd p l k
    unfold lastK
    split <;> omega
theorem lastK_none {α : Type} [Inhabited α] (p : α → Bool) (l : List α) : ∀ k, (∀ j, j < k → p (nth l j) = false) → lastK p l k = -1
  | 0, _ => rfl
  | k + 1, h => by
    unfold lastK
    rw [if_neg (by rw [h k (by omega)]; decide), lastK_none p l k (fun j hj => h j (by omega))]
theorem lastK_one {α : Type} [Inhabited α] (p : α → Bool) (l : List α) (m : Nat) (hm : p (nth l m) = true) : ∀ k, m < k → (∀ j, j < k → p (nth l j) = true → j = m) → lastK p l k = m
  | 0, h, _ => by omega
  | k + 1, h, hu => by
    unfold lastK
    split
    · rename_i hp; rw [hu k (by omega) hp]
    · rename_i hp
      have : m ≠ k := fun e => hp (by rw [← e]; exact hm)
      exact lastK_one p l m hm k (by omega) (fun j hj => hu j (by omega))
theorem idxS_none {α : Type} [Inhabited α] {p : α → Bool} {l : List α} (h : idxS p l < 0) (j : Nat) (hj : j < l.length) : p (nth l j) = false := by
  have := idxS_any p l
  rw [decide_eq_false (by omega)] at this
  cases hp : p (nth l j) with
  | false => rfl
  | true => rw [any_hit p l j hj hp] at this; cases this
theorem lastK_idx {α : Type} [Inhabited α] (p : α → Bool) (l : List α) (hu : ∀ i j, i < l.length → j < l.length → p (nth l i) = true → p (nth l j) = true → i = j) : lastK p l l.length = idxS p l := by
  rcases Int.lt_or_le (idxS p l) 0 with h | h
  · have h2 := (idxFrom_bd p l l.length 0).1
    rw [lastK_none p l _ (fun j hj => idxS_none h j hj)]
    unfold idxS at h ⊢; omega
  · obtain ⟨h1, h2⟩ := idxFrom_p p l l.length 0 h
    rw [lastK_one p l (idxS p l).toNat h2 l.length h1 (fun j hj hp => hu j _ hj h1 hp h2)]
    omega
theorem any_take_false {α : Type} [Inhabited α] {p : α → Bool} {l : List α} {k i : Nat} (h : (l.take k).any p = false) (hi : i < k) (hk : k ≤ l.length) : p (nth l i) = false := by
  cases hp : p (nth l i) with
  | false => rfl
  | true =>
    have h1 : i < (l.take k).length := by rw [take_len _ _ hk]; exact hi
    have h2 : nth (l.take k) i = nth l i := by simp [nth, List.getD_eq_getElem?_getD, List.getElem?_take, hi]
    rw [any_hit p (l.take k) i h1 (by rw [h2]; exact hp)] at h; cases h
theorem roads_apart {n : Net} (h : NetOk n) {i j : Nat} (hi : i < n.roads.length) (hj : j < n.roads.length) (e : (nth n.roads i).name = (nth n.roads j).name) : i = j := by
  rcases Nat.lt_trichotomy i j with hlt | heq | hgt
  · have := any_take_false (h.rname j hj).2 hlt (by omega)
    rw [decide_eq_false_iff_not] at this; exact absurd e this
  · exact heq
  · have := any_take_false (h.rname i hi).2 hgt (by omega)
    rw [decide_eq_false_iff_not] at this; exact absurd e.symm this
theorem roadAt_last {n : Net} (h : NetOk n) (s : ByteArray) : lastK (isR s) n.roads n.roads.length = roadAt n s :=
  lastK_idx _ _ (fun i j hi hj h1 h2 => roads_apart h hi hj (by
    simp only [isR, decide_eq_true_eq] at h1 h2; rw [h1, h2]))
theorem wayS_nil (n : Net) : wayS n [] = (0, 0, 0) := rfl
set_option maxHeartbeats 4000000 in
theorem rParseWay_c (n : Net) (h : NetIn n) (ho : NetOk n) (he : (netS n).2.2 = 0) (s : ByteArray) (hs : s.size < 900) : RealCall Tryd.prog 12 [aNet n, .str s] (parP (parS n s)) true := by
  have hlen := pieces_len s
  have csp : RealCall Tryd.prog 31 [.str s, .int .u8 32] (.sl (pieces s sp1).length (strP (pieces s sp1))) true := rCut_c s 32 (by omega)
  have cc : RealCall Tryd.prog 32 [.sl (pieces s sp1).length (strP (pieces s sp1)), .str ⟨#[]⟩] (.bool (emptyB (pieces s sp1))) true := rHasText_c (pieces s sp1) ⟨#[]⟩ (by omega)
  have cw1 : ∀ w : List Int, w.length < 1000 → _ := fun w hw => rWayErr_c n h w hw
  have hla := fun s => roadAt_last ho s
  have hnr := h.nr
  clear ho
  unfold parS parE parP
  unfold aNet cNet at *
  generalize pieces s sp1 = ws at *
  have hwl : ws.length < 1000 := by omega
  rw [if_neg (by simp [he])]
  by_cases hz : s = ⟨#[]⟩
  · rw [if_pos hz]
    subst hz
    have c2 := cw1 [] (by simp)
    rw [wayS_nil] at c2
    simp only [List.length_nil, ints_nil0] at c2
    clear cc cw1 csp hla
    refine realcall_intro Tryd.func12 (by kernel_rfl) rfl (Nat.le_of_ble_eq_true (by kernel_rfl)) ?_
    simp only [Tryd.results12, Tryd.ntmps12]
    repeat' (first | (with_reducible first | refine awp_seq ?_ | refine awp_blockS ?_ | refine awp_blockC ?_ | refine awp_blockR ?_ | refine awp_skip ?_ | refine awp_ret ?_ | refine awp_exit ?_ | refine awp_region ?_ | refine awp_regionD (id := 13) 11 mixed (by decide +kernel) ?_ | refine awp_condM ?_ | refine And.intro ?_ ?_ | apply gQ_merge | apply gE_merge | exact EqV_w | exact EqE_w | exact EqV_ptr | exact EqE_ptr | exact EqV_msl | exact EqE_msl | exact EqV_agg | exact EqE_agg | exact EqV_fn | exact EqE_fn | exact EqV_gd | exact EqE_gd | refine gM_splitN ?_ ?_ | refine gM_split ?_ ?_ |  refine condM_splitDN ?_ ?_ | refine condM_splitD ?_ ?_ | refine condM_splitN ?_ ?_ | refine condM_split ?_ ?_ | refine condM_any ?_ ?_ | refine cw (c2) ?_ | intro _) | (simp [*]) | (refine cw_eq (c2) ?_ ?_; (· (simp [*]; done))))
  · rw [if_neg hz]
    cases hb : emptyB ws with
    | true =>
      rw [if_pos rfl]
      rw [hb] at cc
      clear cw1 he hla
      refine realcall_intro Tryd.func12 (by kernel_rfl) rfl (Nat.le_of_ble_eq_true (by kernel_rfl)) ?_
      simp only [Tryd.results12, Tryd.ntmps12]
      repeat' (first | (with_reducible first | refine awp_seq ?_ | refine awp_blockS ?_ | refine awp_blockC ?_ | refine awp_blockR ?_ | refine awp_skip ?_ | refine awp_ret ?_ | refine awp_exit ?_ | refine awp_region ?_ | refine awp_regionD (id := 13) 11 mixed (by decide +kernel) ?_ | refine awp_condM ?_ | refine And.intro ?_ ?_ | apply gQ_merge | apply gE_merge | exact EqV_w | exact EqE_w | exact EqV_ptr | exact EqE_ptr | exact EqV_msl | exact EqE_msl | exact EqV_agg | exact EqE_agg | exact EqV_fn | exact EqE_fn | exact EqV_gd | exact EqE_gd | refine gM_splitN ?_ ?_ | refine gM_split ?_ ?_ |  refine condM_splitDN ?_ ?_ | refine condM_splitD ?_ ?_ | refine condM_splitN ?_ ?_ | refine condM_split ?_ ?_ | refine condM_any ?_ ?_ | refine cw (csp) ?_ | refine cw (cc) ?_ | intro _) | (simp [*, hz]) | (refine cw_eq (csp) ?_ ?_; (· (simp [*]; done))) | (refine cw_eq (cc) ?_ ?_; (· (simp [*]; done))))
    | false =>
      rw [if_neg (by decide)]
      rw [hb] at cc
      have kb := keep hb
      clear hb he h
      generalize hR : (if missB n ws = true then 6 else (wayS n (wayOf n ws)).2.2) = E
      have kR := keep hR
      clear hR
      have e0 : wayOf n (ws.take 0) = [] := rfl
      refine realcall_intro Tryd.func12 (by kernel_rfl) rfl (Nat.le_of_ble_eq_true (by kernel_rfl)) ?_
      simp only [Tryd.results12, Tryd.ntmps12]
      repeat' (first | (with_reducible first | refine awp_seq ?_ | refine awp_blockS ?_ | refine awp_blockC ?_ | refine awp_blockR ?_ | refine awp_skip ?_ | refine awp_ret ?_ | refine awp_exit ?_ | refine awp_region ?_ | refine awp_regionD (id := 13) 11 mixed (by decide +kernel) ?_ | refine awp_condM ?_ | refine And.intro ?_ ?_ | apply gQ_merge | apply gE_merge | exact EqV_w | exact EqE_w | exact EqV_ptr | exact EqE_ptr | exact EqV_msl | exact EqE_msl | exact EqV_agg | exact EqE_agg | exact EqV_fn | exact EqE_fn | exact EqV_gd | exact EqE_gd | refine gM_splitN ?_ ?_ | refine gM_split ?_ ?_ |  refine condM_splitDN ?_ ?_ | refine condM_splitD ?_ ?_ | refine condM_splitN ?_ ?_ | refine condM_split ?_ ?_ | refine condM_any ?_ ?_ | refine cw (csp) ?_ | refine cw (cc) ?_ | intro _) | (simp [*, hz]) | (refine cw_eq (csp) ?_ ?_; (· (simp [*]; done))) | (refine cw_eq (cc) ?_ ?_; (· (simp [*]; done))))
      refine awp_for4 2 (fun (k : Nat) => k ≤ ws.length ∧ ∀ j, j < k → 0 ≤ roadAt n (nth ws j)) [2, 7] (fun (k : Nat) => [(8, .w false false (.int .i64 k)), (6, .msl 1 k 1 0 k)]) [0] (fun (k : Nat) => [(1, iA (wayOf n (ws.take k)))]) (fun (k : Nat) => ws.length - k) (fun (_u : Unit) => missB n ws = false) [2] (fun (_u : Unit) => [(6, .msl 1 ws.length 1 0 ws.length)]) [0] (fun (_u : Unit) => [(1, iA (wayOf n ws))]) (0) ⟨Nat.zero_le _, fun j hj => absurd hj (Nat.not_lt_zero j)⟩ (le_gen [] (by simp [e0, iA, ints]) (by simp [e0, iA, ints])) (fun k hk => ?_) (fun _u hf => ?_)
      · clear e0
        obtain ⟨hk, hj⟩ := hk
        have kj := keep hj
        clear hj
        by_cases hlt : k < ws.length
        · have y := keep (wayOf_succ n ws k hlt)
          have hlen2 : (ws.take k).length = k := take_len _ _ hk
          have hbd := roadAt_bd n (nth ws k)
          have hl1 := keep (hla (nth ws k))
          have knew := keep (fun (h0 : 0 ≤ roadAt n (nth ws k)) => show ∀ j, j < k + 1 → 0 ≤ roadAt n (nth ws j) from fun j hj => by
            rcases Nat.lt_or_ge j k with h1 | h1
            · exact (show ∀ j, j < k → 0 ≤ roadAt n (nth ws j) from kj) j h1
            · have : j = k := by omega
              subst this; exact h0)
          have kmis := keep (fun (h0 : roadAt n (nth ws k) < 0) => show 6 = E by
            rw [← (show _ = E from kR), if_pos]
            exact any_hit _ ws k hlt (by simpa using h0))
          clear cw1 hla
          repeat' (first | (with_reducible first | refine awp_seq ?_ | refine awp_blockS ?_ | refine awp_blockC ?_ | refine awp_blockR ?_ | refine awp_skip ?_ | refine awp_ret ?_ | refine awp_exit ?_ | refine awp_region ?_ | refine awp_regionD (id := 13) 11 mixed (by decide +kernel) ?_ | refine awp_condM ?_ | refine And.intro ?_ ?_ | apply gQ_merge | apply gE_merge | exact EqV_w | exact EqE_w | exact EqV_ptr | exact EqE_ptr | exact EqV_msl | exact EqE_msl | exact EqV_agg | exact EqE_agg | exact EqV_fn | exact EqE_fn | exact EqV_gd | exact EqE_gd | refine gM_splitN ?_ ?_ | refine gM_split ?_ ?_ |  refine condM_splitDN ?_ ?_ | refine condM_splitD ?_ ?_ | refine condM_splitN ?_ ?_ | refine condM_split ?_ ?_ | refine condM_any ?_ ?_ | intro _) | (simp [*, hlt, hlen2]))
          refine awp_for3 (fun (i : Nat) => i ≤ n.roads.length) [2, 6, 7, 8] (fun (i : Nat) => [(10, .w false false (.int .i64 i)), (9, .w false false (.int .i64 (lastK (isR (nth ws k)) n.roads i)))]) [0, 1] (fun (i : Nat) => []) (fun (i : Nat) => n.roads.length - i) (fun (_u : Unit) => True) [2, 6, 7, 8] (fun (_u : Unit) => [(9, .w false false (.int .i64 (roadAt n (nth ws k))))]) [0, 1] (fun (_u : Unit) => []) (0) (Nat.zero_le _) (by simp) (by simp) (fun i hk => ?_) (fun _u hf => ?_)
          · by_cases hlt2 : i < n.roads.length
            · have hb2 := lastK_bd (isR (nth ws k)) n.roads i
              have z : lastK (isR (nth ws k)) n.roads (i + 1) = if isR (nth ws k) (nth n.roads i) = true then (i : Int) else lastK (isR (nth ws k)) n.roads i := rfl
              have hq : (nth n.roads i).name = nth ws k ↔ isR (nth ws k) (nth n.roads i) = true := by simp [isR]
              by_cases hp : (nth n.roads i).name = nth ws k
              · rw [if_pos (hq.1 hp)] at z
                have kz := keep z
                clear z hq
                generalize lastK (isR (nth ws k)) n.roads i = La at *
                repeat' (first | (with_reducible first | refine awp_seq ?_ | refine awp_blockS ?_ | refine awp_blockC ?_ | refine awp_blockR ?_ | refine awp_skip ?_ | refine awp_ret ?_ | refine awp_exit ?_ | refine awp_region ?_ | refine awp_regionD (id := 13) 11 mixed (by decide +kernel) ?_ | refine awp_condM ?_ | refine And.intro ?_ ?_ | apply gQ_merge | apply gE_merge | exact EqV_w | exact EqE_w | exact EqV_ptr | exact EqE_ptr | exact EqV_msl | exact EqE_msl | exact EqV_agg | exact EqE_agg | exact EqV_fn | exact EqE_fn | exact EqV_gd | exact EqE_gd | refine gM_splitN ?_ ?_ | refine gM_split ?_ ?_ |  refine condM_splitDN ?_ ?_ | refine condM_splitD ?_ ?_ | refine condM_splitN ?_ ?_ | refine condM_split ?_ ?_ | refine condM_any ?_ ?_ | intro _) | (simp [*, hlt, hlt2, hp, cRoad]))
                all_goals try first | exact inI64 (by omega) (by omega) | omega
                all_goals (refine loopK_normal _ _ _ _ _ (i + 1) _ ?_ (by first | omega | (dsimp only; omega) | (simp; omega)) ?_; (· omega); (refine le_of ?_ ?_ <;> first | trivial | (simp [*, (show lastK (isR (nth ws k)) n.roads (i + 1) = _ from kz)]; done)))
              · rw [if_neg (fun e => hp (hq.2 e))] at z
                have kz := keep z
                clear z hq
                generalize lastK (isR (nth ws k)) n.roads i = La at *
                repeat' (first | (with_reducible first | refine awp_seq ?_ | refine awp_blockS ?_ | refine awp_blockC ?_ | refine awp_blockR ?_ | refine awp_skip ?_ | refine awp_ret ?_ | refine awp_exit ?_ | refine awp_region ?_ | refine awp_regionD (id := 13) 11 mixed (by decide +kernel) ?_ | refine awp_condM ?_ | refine And.intro ?_ ?_ | apply gQ_merge | apply gE_merge | exact EqV_w | exact EqE_w | exact EqV_ptr | exact EqE_ptr | exact EqV_msl | exact EqE_msl | exact EqV_agg | exact EqE_agg | exact EqV_fn | exact EqE_fn | exact EqV_gd | exact EqE_gd | refine gM_splitN ?_ ?_ | refine gM_split ?_ ?_ |  refine condM_splitDN ?_ ?_ | refine condM_splitD ?_ ?_ | refine condM_splitN ?_ ?_ | refine condM_split ?_ ?_ | refine condM_any ?_ ?_ | intro _) | (simp [*, hlt, hlt2, hp, cRoad]))
                all_goals try first | exact inI64 (by omega) (by omega) | omega
                all_goals (refine loopK_normal _ _ _ _ _ (i + 1) _ ?_ (by first | omega | (dsimp only; omega) | (simp; omega)) ?_; (· omega); (refine le_of ?_ ?_ <;> first | trivial | (simp [*, (show lastK (isR (nth ws k)) n.roads (i + 1) = _ from kz)]; done)))
            · have hke : i = n.roads.length := by omega
              subst hke
              have hl2 := show lastK (isR (nth ws k)) n.roads n.roads.length = _ from hl1
              generalize lastK (isR (nth ws k)) n.roads n.roads.length = La at *
              repeat' (first | (with_reducible first | refine awp_seq ?_ | refine awp_blockS ?_ | refine awp_blockC ?_ | refine awp_blockR ?_ | refine awp_skip ?_ | refine awp_ret ?_ | refine awp_exit ?_ | refine awp_region ?_ | refine awp_regionD (id := 13) 11 mixed (by decide +kernel) ?_ | refine awp_condM ?_ | refine And.intro ?_ ?_ | apply gQ_merge | apply gE_merge | exact EqV_w | exact EqE_w | exact EqV_ptr | exact EqE_ptr | exact EqV_msl | exact EqE_msl | exact EqV_agg | exact EqE_agg | exact EqV_fn | exact EqE_fn | exact EqV_gd | exact EqE_gd | refine gM_splitN ?_ ?_ | refine gM_split ?_ ?_ |  refine condM_splitDN ?_ ?_ | refine condM_splitD ?_ ?_ | refine condM_splitN ?_ ?_ | refine condM_split ?_ ?_ | refine condM_any ?_ ?_ | intro _) | (simp [*]))
              all_goals (refine finW_intro () ?_ ?_; (· trivial); (refine le_of ?_ ?_ <;> first | trivial | (simp [*, hl2]; done)))
          · generalize roadAt n (nth ws k) = r at *
            by_cases hm : r < 0
            · have e6 : 6 = E := (show _ → _ from kmis) hm
              subst e6
              repeat' (first | (with_reducible first | refine awp_seq ?_ | refine awp_blockS ?_ | refine awp_blockC ?_ | refine awp_blockR ?_ | refine awp_skip ?_ | refine awp_ret ?_ | refine awp_exit ?_ | refine awp_region ?_ | refine awp_regionD (id := 13) 11 mixed (by decide +kernel) ?_ | refine awp_condM ?_ | refine And.intro ?_ ?_ | apply gQ_merge | apply gE_merge | exact EqV_w | exact EqE_w | exact EqV_ptr | exact EqE_ptr | exact EqV_msl | exact EqE_msl | exact EqV_agg | exact EqE_agg | exact EqV_fn | exact EqE_fn | exact EqV_gd | exact EqE_gd | refine gM_splitN ?_ ?_ | refine gM_split ?_ ?_ |  refine condM_splitDN ?_ ?_ | refine condM_splitD ?_ ?_ | refine condM_splitN ?_ ?_ | refine condM_split ?_ ?_ | refine condM_any ?_ ?_ | intro _) | (simp [*, hlt, hm, hlen2]))
            · have kn2 := keep ((show _ → _ from knew) (by omega))
              clear knew kmis
              repeat' (first | (with_reducible first | refine awp_seq ?_ | refine awp_blockS ?_ | refine awp_blockC ?_ | refine awp_blockR ?_ | refine awp_skip ?_ | refine awp_ret ?_ | refine awp_exit ?_ | refine awp_region ?_ | refine awp_regionD (id := 13) 11 mixed (by decide +kernel) ?_ | refine awp_condM ?_ | refine And.intro ?_ ?_ | apply gQ_merge | apply gE_merge | exact EqV_w | exact EqE_w | exact EqV_ptr | exact EqE_ptr | exact EqV_msl | exact EqE_msl | exact EqV_agg | exact EqE_agg | exact EqV_fn | exact EqE_fn | exact EqV_gd | exact EqE_gd | refine gM_splitN ?_ ?_ | refine gM_split ?_ ?_ |  refine condM_splitDN ?_ ?_ | refine condM_splitD ?_ ?_ | refine condM_splitN ?_ ?_ | refine condM_split ?_ ?_ | refine condM_any ?_ ?_ | intro _) | (simp [*, hlt, hm, hlen2]))
              all_goals try first | exact inI64 (by omega) (by omega) | omega
              all_goals (refine loopK_normal _ _ _ _ _ (k + 1) _ ?_ (by first | omega | (dsimp only; omega) | (simp; omega)) ?_; (· exact ⟨by omega, kn2⟩); (refine le_gen [] ?_ ?_ <;> first | trivial | (simp [*, (show wayOf n (ws.take (k + 1)) = _ from y), hlen2]; done)))
        · have hke : k = ws.length := by omega
          subst hke
          clear cw1
          repeat' (first | (with_reducible first | refine awp_seq ?_ | refine awp_blockS ?_ | refine awp_blockC ?_ | refine awp_blockR ?_ | refine awp_skip ?_ | refine awp_ret ?_ | refine awp_exit ?_ | refine awp_region ?_ | refine awp_regionD (id := 13) 11 mixed (by decide +kernel) ?_ | refine awp_condM ?_ | refine And.intro ?_ ?_ | apply gQ_merge | apply gE_merge | exact EqV_w | exact EqE_w | exact EqV_ptr | exact EqE_ptr | exact EqV_msl | exact EqE_msl | exact EqV_agg | exact EqE_agg | exact EqV_fn | exact EqE_fn | exact EqV_gd | exact EqE_gd | refine gM_splitN ?_ ?_ | refine gM_split ?_ ?_ |  refine condM_splitDN ?_ ?_ | refine condM_splitD ?_ ?_ | refine condM_splitN ?_ ?_ | refine condM_split ?_ ?_ | refine condM_any ?_ ?_ | intro _) | (simp [*]))
          all_goals (refine finW_intro () ?_ ?_; (· exact any_upto _ ws (fun j hj => by have := (show ∀ j, j < ws.length → 0 ≤ roadAt n (nth ws j) from kj) j hj; simp; omega)); (refine le_gen [] ?_ ?_ <;> first | trivial | (simp [*, List.take_length]; done)))
      · clear e0
        have eE : (wayS n (wayOf n ws)).2.2 = E := by
          rw [← (show _ = E from kR), if_neg (by rw [hf]; decide)]
        have c2 := cw1 (wayOf n ws) (by simpa using hwl)
        rw [eE, wayOf_len] at c2
        clear eE cw1 hf
        have hwo := wayOf_len n ws
        generalize wayOf n ws = wy at *
        by_cases hE : E = 0
        · subst hE
          repeat' (first | (with_reducible first | refine awp_seq ?_ | refine awp_blockS ?_ | refine awp_blockC ?_ | refine awp_blockR ?_ | refine awp_skip ?_ | refine awp_ret ?_ | refine awp_exit ?_ | refine awp_region ?_ | refine awp_regionD (id := 13) 11 mixed (by decide +kernel) ?_ | refine awp_condM ?_ | refine And.intro ?_ ?_ | apply gQ_merge | apply gE_merge | exact EqV_w | exact EqE_w | exact EqV_ptr | exact EqE_ptr | exact EqV_msl | exact EqE_msl | exact EqV_agg | exact EqE_agg | exact EqV_fn | exact EqE_fn | exact EqV_gd | exact EqE_gd | refine gM_splitN ?_ ?_ | refine gM_split ?_ ?_ |  refine condM_splitDN ?_ ?_ | refine condM_splitD ?_ ?_ | refine condM_splitN ?_ ?_ | refine condM_split ?_ ?_ | refine condM_any ?_ ?_ | refine cw (c2) ?_ | intro _) | (simp [*, hwo]) | (refine cw_eq (c2) ?_ ?_; (· (simp [*]; done))))
        · repeat' (first | (with_reducible first | refine awp_seq ?_ | refine awp_blockS ?_ | refine awp_blockC ?_ | refine awp_blockR ?_ | refine awp_skip ?_ | refine awp_ret ?_ | refine awp_exit ?_ | refine awp_region ?_ | refine awp_regionD (id := 13) 11 mixed (by decide +kernel) ?_ | refine awp_condM ?_ | refine And.intro ?_ ?_ | apply gQ_merge | apply gE_merge | exact EqV_w | exact EqE_w | exact EqV_ptr | exact EqE_ptr | exact EqV_msl | exact EqE_msl | exact EqV_agg | exact EqE_agg | exact EqV_fn | exact EqE_fn | exact EqV_gd | exact EqE_gd | refine gM_splitN ?_ ?_ | refine gM_split ?_ ?_ |  refine condM_splitDN ?_ ?_ | refine condM_splitD ?_ ?_ | refine condM_splitN ?_ ?_ | refine condM_split ?_ ?_ | refine condM_any ?_ ?_ | refine cw (c2) ?_ | intro _) | (simp [*, hE, hwo]) | (refine cw_eq (c2) ?_ ?_; (· (simp [*]; done))))
end Go.Proofs.YtfjpgnacofkipaaDoor
namespace Go.Proofs.YtfjpgnacofkipaaDoor
open Go Go.Fi
set_option maxRecDepth 20000

theorem ints_c (l : List Int) (h : l.length < 100000) : RealCall Tryd.prog 13 [.sl l.length (ints l), .sl l.length (ints l)] (.bool true) true := by
  refine realcall_intro Tryd.func13 (by kernel_rfl) rfl (Nat.le_of_ble_eq_true (by kernel_rfl)) ?_
  simp only [Tryd.results13, Tryd.ntmps13]
  repeat' (first | (with_reducible first | refine awp_seq ?_ | refine awp_blockS ?_ | refine awp_blockC ?_ | refine awp_blockR ?_ | refine awp_skip ?_ | refine awp_ret ?_ | refine awp_exit ?_ | refine awp_region ?_ | refine awp_regionD (id := 6) 9 mixed (by decide +kernel) ?_ | refine awp_condM ?_ | refine And.intro ?_ ?_ | refine gE_splitN ?_ ?_ | refine gE_split ?_ ?_ | refine gQ_splitN ?_ ?_ | refine gQ_split ?_ ?_ | refine gM_splitN ?_ ?_ | refine gM_split ?_ ?_ | refine condM_splitDN ?_ ?_ | refine condM_splitD ?_ ?_ | refine condM_splitN ?_ ?_ | refine condM_split ?_ ?_ | refine condM_any ?_ ?_ | intro _) | (simp [*]))
  refine awp_for3 (fun (k : Nat) => k ≤ l.length) [0, 1] (fun (k : Nat) => [(5, .w false false (.int .i64 k))]) [] (fun (k : Nat) => []) (fun (k : Nat) => l.length - k) (fun (_u : Unit) => True) [] (fun (_u : Unit) => []) [] (fun (_u : Unit) => []) (0) (Nat.zero_le _) (by simp) (by simp) (fun k hk => ?_) (fun _u hf => ?_)
  · by_cases hlt : k < l.length
    · repeat' (first | (with_reducible first | refine awp_seq ?_ | refine awp_blockS ?_ | refine awp_blockC ?_ | refine awp_blockR ?_ | refine awp_skip ?_ | refine awp_ret ?_ | refine awp_exit ?_ | refine awp_region ?_ | refine awp_regionD (id := 6) 9 mixed (by decide +kernel) ?_ | refine awp_condM ?_ | refine And.intro ?_ ?_ | refine gE_splitN ?_ ?_ | refine gE_split ?_ ?_ | refine gQ_splitN ?_ ?_ | refine gQ_split ?_ ?_ | refine gM_splitN ?_ ?_ | refine gM_split ?_ ?_ | refine condM_splitDN ?_ ?_ | refine condM_splitD ?_ ?_ | refine condM_splitN ?_ ?_ | refine condM_split ?_ ?_ | refine condM_any ?_ ?_ | intro _) | (simp [*, hlt]))
      all_goals first
        | exact inI64 (by omega) (by omega)
        | omega
        | (refine loopK_normal _ _ _ _ _ (k + 1) _ ?_ (by first | omega | (dsimp only; omega) | (simp; omega)) ?_; (· omega); (refine le_of ?_ ?_ <;> first | trivial | (simp [*]; done)))
        | skip
    · have hke : k = l.length := by omega
      subst hke
      repeat' (first | (with_reducible first | refine awp_seq ?_ | refine awp_blockS ?_ | refine awp_blockC ?_ | refine awp_blockR ?_ | refine awp_skip ?_ | refine awp_ret ?_ | refine awp_exit ?_ | refine awp_region ?_ | refine awp_regionD (id := 6) 9 mixed (by decide +kernel) ?_ | refine awp_condM ?_ | refine And.intro ?_ ?_ | refine gE_splitN ?_ ?_ | refine gE_split ?_ ?_ | refine gQ_splitN ?_ ?_ | refine gQ_split ?_ ?_ | refine gM_splitN ?_ ?_ | refine gM_split ?_ ?_ | refine condM_splitDN ?_ ?_ | refine condM_splitD ?_ ?_ | refine condM_splitN ?_ ?_ | refine condM_split ?_ ?_ | refine condM_any ?_ ?_ | intro _) | (simp [*]))
      (refine finW_intro () ?_ ?_; (· trivial); (refine le_of ?_ ?_ <;> first | trivial | (simp [*]; done)))
  · repeat' (first | (with_reducible first | refine awp_seq ?_ | refine awp_blockS ?_ | refine awp_blockC ?_ | refine awp_blockR ?_ | refine awp_skip ?_ | refine awp_ret ?_ | refine awp_exit ?_ | refine awp_region ?_ | refine awp_regionD (id := 6) 9 mixed (by decide +kernel) ?_ | refine awp_condM ?_ | refine And.intro ?_ ?_ | refine gE_splitN ?_ ?_ | refine gE_split ?_ ?_ | refine gQ_splitN ?_ ?_ | refine gQ_split ?_ ?_ | refine gM_splitN ?_ ?_ | refine gM_split ?_ ?_ | refine condM_splitDN ?_ ?_ | refine condM_splitD ?_ ?_ | refine condM_splitN ?_ ?_ | refine condM_split ?_ ?_ | refine condM_any ?_ ?_ | intro _) | (simp [*]))
/-! ### names -/
theorem okUpto_all (s : ByteArray) : ∀ n k, k < n → okUpto s n = true → okB k (byteAt s k) = true
  | 0, k, h, _ => by omega
  | n + 1, k, h, hn => by
    unfold okUpto at hn
    rw [Bool.and_eq_true] at hn
    by_cases e : k = n
    · subst e; exact hn.2
    · exact okUpto_all s n k (by omega) hn.1
theorem name_ok {s : ByteArray} (h : nameB s = true) : (∀ k, k < s.size → okB k (byteAt s k) = true) ∧ s.size ≠ 0 ∧ s.size ≤ 12 := by
  unfold nameB at h
  simp only [Bool.and_eq_true, decide_eq_true_eq] at h
  exact ⟨fun k hk => okUpto_all s _ k hk h.1.1, h.1.2, h.2⟩
theorem okB_sp (k : Nat) : okB k 32 = false := by unfold okB letterB; simp
theorem name_nosp {s : ByteArray} (h : nameB s = true) : (32 : UInt8) ∉ s.data.toList := by
  intro hm
  obtain ⟨k, hk, e⟩ := List.getElem_of_mem hm
  have hk' : k < s.size := by
    show k < s.data.size
    rw [← Array.length_toList]; exact hk
  have := (name_ok h).1 k hk'
  have e2 : byteAt s k = 32 := by
    unfold byteAt
    rw [List.getD_eq_getElem?_getD, List.getElem?_eq_getElem hk, e]; rfl
  rw [e2, okB_sp] at this
  cases this
theorem name_ne {s : ByteArray} (h : nameB s = true) : s ≠ ⟨#[]⟩ := by
  intro e
  subst e
  exact absurd h (by decide)
/-! ### a right way is read back -/
theorem road_back {n : Net} (h : NetOk n) {k : Nat} (hk : k < n.roads.length) : roadAt n (nth n.roads k).name = k := by
  have hp : isR (nth n.roads k).name (nth n.roads k) = true := by simp [isR]
  rcases Int.lt_or_le (roadAt n (nth n.roads k).name) 0 with h1 | h1
  · have := idxS_none h1 k hk
    rw [hp] at this; cases this
  · obtain ⟨h2, h3⟩ := idxFrom_p (isR (nth n.roads k).name) n.roads n.roads.length 0 h1
    have h4 : (roadAt n (nth n.roads k).name).toNat = k := roads_apart h h2 hk (of_decide_eq_true h3)
    omega
theorem way_back {n : Net} (h : NetOk n) {w : List Int} (hw : ∀ i, i < w.length → 0 ≤ nth w i ∧ nth w i < n.roads.length) : wayOf n (wayNm n w) = w := by
  unfold wayOf wayNm
  rw [List.map_map]
  conv => rhs; rw [← List.map_id w]
  apply List.map_congr_left
  intro x hx
  obtain ⟨j, hj, rfl⟩ := List.getElem_of_mem hx
  have := hw j hj
  have e : nth w j = w[j] := by simp [nth, List.getD_eq_getElem?_getD, List.getElem?_eq_getElem hj]
  rw [e] at this
  show roadAt n (nth n.roads (w[j]).toNat).name = w[j]
  rw [road_back h (by omega)]
  omega
theorem wayNm_name {n : Net} (h : NetOk n) {w : List Int} (hw : ∀ i, i < w.length → 0 ≤ nth w i ∧ nth w i < n.roads.length) {x : ByteArray} (hx : x ∈ wayNm n w) : nameB x = true := by
  obtain ⟨k, hk, rfl⟩ := wayNm_mem hw hx
  exact (h.rname k hk).1
theorem joinB_ne (sep x : ByteArray) (r : List ByteArray) (hx : x ≠ ⟨#[]⟩) : joinB (x :: r) sep ≠ ⟨#[]⟩ := by
  intro e
  have e1 := congrArg (fun b : ByteArray => b.data.toList) e
  cases r with
  | nil => rw [joinB_one] at e; exact hx e
  | cons y r =>
    simp only [joinB, Lib.join, List.map_cons] at e1
    have e2 : x.data.toList = [] := by
      rcases List.append_eq_nil_iff.1 e1 with ⟨h1, _⟩
      first | exact h1 | exact (List.append_eq_nil_iff.1 h1).1
    exact hx (ba_ext e2)
theorem par_back {n : Net} (h : NetOk n) (he : (netS n).2.2 = 0) {w : List Int} (hw : WayOk n w) (hs : (wayS n w).2.2 = 0) : parS n (wayT n w) = (w, 0) := by
  unfold parS
  rw [if_neg (by simp [he])]
  cases hc : wayNm n w with
  | nil =>
    have hl : w = [] := by
      have := congrArg List.length hc
      simp at this; exact this
    subst hl
    rw [if_pos (by unfold wayT; rw [hc, joinB_nil])]
  | cons x r =>
    have hx : nameB x = true := wayNm_name h hw.idx (by rw [hc]; simp)
    have hne : wayT n w ≠ ⟨#[]⟩ := by unfold wayT; rw [hc]; exact joinB_ne _ _ _ (name_ne hx)
    have hp : pieces (wayT n w) sp1 = wayNm n w := pieces_join 32 (wayNm n w) (by rw [hc]; simp) (fun y hy => name_nosp (wayNm_name h hw.idx hy))
    have h1 : emptyB (wayNm n w) = false := by
      unfold emptyB
      rw [List.any_eq_false]
      intro y hy
      simp only [decide_eq_true_eq]
      exact name_ne (wayNm_name h hw.idx hy)
    have h2 : missB n (wayNm n w) = false := by
      unfold missB
      rw [List.any_eq_false]
      intro y hy
      obtain ⟨k, hk, rfl⟩ := wayNm_mem hw.idx hy
      simp only [decide_eq_true_eq]
      rw [road_back h hk]; omega
    rw [if_neg hne, hp, h1, if_neg (by decide)]
    have h3 : parE n (wayNm n w) = 0 := by
      unfold parE
      rw [h2, if_neg (by decide), way_back h hw.idx, hs]
    rw [h3, if_neg (by simp), way_back h hw.idx]
theorem wayT_short {n : Net} (h : NetOk n) {w : List Int} (hw : WayOk n w) (hl : w.length ≤ 12) : (wayT n w).size ≤ 156 := by
  have := joinB_size sp1 12 (wayNm n w) (fun x hx => (name_ok (wayNm_name h hw.idx hx)).2.2)
  have h1 : sp1.size = 1 := rfl
  rw [wayNm_len, h1] at this
  unfold wayT
  omega
theorem ow_net' {n : Net} {w : List Int} (h : (netS n).2.2 = 0) : owE n w = (wayS n w).2.2 := if_neg (by simp [h])
/-! ### the statement's function -/
set_option maxHeartbeats 4000000 in
theorem streetWayTexts_c (hA : RealCall Tryd.prog 4 [] (.bool true) true) (n : Net) (w : List Int) (s : ByteArray) : RealCall Tryd.prog 3 [aNet n, .sl w.length (ints w), .str s] (.bool true) true := by
  have cf := few_c n
  have cs := short_c w
  cases hf : fewB n with
  | false =>
    rw [hf] at cf
    unfold aNet cNet at *
    refine realcall_intro Tryd.func3 (by kernel_rfl) rfl (Nat.le_of_ble_eq_true (by kernel_rfl)) ?_
    simp only [Tryd.results3, Tryd.ntmps3]
    repeat' (first | (with_reducible first | refine awp_seq ?_ | refine awp_blockS ?_ | refine awp_blockC ?_ | refine awp_blockR ?_ | refine awp_skip ?_ | refine awp_ret ?_ | refine awp_exit ?_ | refine awp_region ?_ | refine awp_condM ?_ | refine And.intro ?_ ?_ | apply gQ_merge | apply gE_merge | exact EqV_w | exact EqE_w | exact EqV_ptr | exact EqE_ptr | exact EqV_msl | exact EqE_msl | exact EqV_agg | exact EqE_agg | exact EqV_fn | exact EqE_fn | exact EqV_gd | exact EqE_gd | refine gM_splitN ?_ ?_ | refine gM_split ?_ ?_ |  refine condM_splitDN ?_ ?_ | refine condM_splitD ?_ ?_ | refine condM_splitN ?_ ?_ | refine condM_split ?_ ?_ | refine condM_any ?_ ?_ | refine cw (hA) ?_ | refine cw (cf) ?_ | refine cw (cs) ?_ | intro _) | (simp [*]) | (refine cw_eq (hA) ?_ ?_; (· (simp [*]; done))) | (refine cw_eq (cf) ?_ ?_; (· (simp [*]; done))) | (refine cw_eq (cs) ?_ ?_; (· (simp [*]; done))))
  | true =>
    rw [hf] at cf
    by_cases hs : w.length ≤ 12 ∨ 200 < w.length ∧ w.length ≤ 202
    · rw [decide_eq_true hs] at cs
      have h := few_in hf
      have hl : w.length < 1000 := by omega
      by_cases h100 : 100 < s.size
      · have h100I : (100 : Int) < (s.size : Int) := by omega
        clear h hs hf
        unfold aNet cNet at *
        refine realcall_intro Tryd.func3 (by kernel_rfl) rfl (Nat.le_of_ble_eq_true (by kernel_rfl)) ?_
        simp only [Tryd.results3, Tryd.ntmps3]
        repeat' (first | (with_reducible first | refine awp_seq ?_ | refine awp_blockS ?_ | refine awp_blockC ?_ | refine awp_blockR ?_ | refine awp_skip ?_ | refine awp_ret ?_ | refine awp_exit ?_ | refine awp_region ?_ | refine awp_condM ?_ | refine And.intro ?_ ?_ | apply gQ_merge | apply gE_merge | exact EqV_w | exact EqE_w | exact EqV_ptr | exact EqE_ptr | exact EqV_msl | exact EqE_msl | exact EqV_agg | exact EqE_agg | exact EqV_fn | exact EqE_fn | exact EqV_gd | exact EqE_gd | refine gM_splitN ?_ ?_ | refine gM_split ?_ ?_ |  refine condM_splitDN ?_ ?_ | refine condM_splitD ?_ ?_ | refine condM_splitN ?_ ?_ | refine condM_split ?_ ?_ | refine condM_any ?_ ?_ | refine cw (hA) ?_ | refine cw (cf) ?_ | refine cw (cs) ?_ | intro _) | (simp [*, h100I]) | (refine cw_eq (hA) ?_ ?_; (· (simp [*]; done))) | (refine cw_eq (cf) ?_ ?_; (· (simp [*]; done))) | (refine cw_eq (cs) ?_ ?_; (· (simp [*]; done))))
      · have h100I : ¬ (100 : Int) < (s.size : Int) := by omega
        have cc := rCopy_c n h
        have cv := copyInts_c w (by omega)
        have c4 := rNetErr_c n h
        have c5 := rWayErr_c n h w hl
        have cp := parseWay_c n h s (by omega)
        have hp100 : (parS n s).1.length < 100000 := by
          unfold parS
          split
          · simp
          · split
            · simp
            · split
              · simp
              · split
                · simp
                · have := pieces_len s
                  simp; omega
        by_cases hn : (netS n).2.2 = 0
        · have ok := net_ok h hn
          have cr := rParseWay_c n h ok hn s (by omega)
          have ci := ints_c (parS n s).1 hp100
          have eo := ow_net' (w := w) hn
          by_cases hw : (wayS n w).2.2 = 0
          · have wo := way_ok hw
            have hl2 := way_len hw
            have cF := formatWay_ok n h w hl (by rw [eo, hw]) ok wo hl2
            have hl3 : w.length ≤ 12 := by omega
            have hT := wayT_short ok wo hl3
            have cB := parseWay_c n h (wayT n w) (by omega)
            rw [par_back ok hn wo hw] at cB
            have cR := rFormatWay_c n h w wo hl2
            have cI := ints_c w (by omega)
            rw [hn] at c4
            rw [hw] at c5
            unfold parP at *
            dsimp only at cB
            clear ok wo hf hs hn hw hT eo h
            generalize wayT n w = T at *
            generalize parS n s = ps at *
            obtain ⟨p1, p2⟩ := ps
            dsimp only at *
            unfold aNet cNet at *
            refine realcall_intro Tryd.func3 (by kernel_rfl) rfl (Nat.le_of_ble_eq_true (by kernel_rfl)) ?_
            simp only [Tryd.results3, Tryd.ntmps3]
            repeat' (first | (with_reducible first | refine awp_seq ?_ | refine awp_blockS ?_ | refine awp_blockC ?_ | refine awp_blockR ?_ | refine awp_skip ?_ | refine awp_ret ?_ | refine awp_exit ?_ | refine awp_region ?_ | refine awp_condM ?_ | refine And.intro ?_ ?_ | apply gQ_merge | apply gE_merge | exact EqV_w | exact EqE_w | exact EqV_ptr | exact EqE_ptr | exact EqV_msl | exact EqE_msl | exact EqV_agg | exact EqE_agg | exact EqV_fn | exact EqE_fn | exact EqV_gd | exact EqE_gd | refine gM_splitN ?_ ?_ | refine gM_split ?_ ?_ |  refine condM_splitDN ?_ ?_ | refine condM_splitD ?_ ?_ | refine condM_splitN ?_ ?_ | refine condM_split ?_ ?_ | refine condM_any ?_ ?_ | refine cw (hA) ?_ | refine cw (cf) ?_ | refine cw (cs) ?_ | refine cw (cc) ?_ | refine cw (cv) ?_ | refine cw (c4) ?_ | refine cw (c5) ?_ | refine cw (cp) ?_ | refine cw (cr) ?_ | refine cw (ci) ?_ | refine cw (cF) ?_ | refine cw (cB) ?_ | refine cw (cR) ?_ | refine cw (cI) ?_ | intro _) | (simp [*, h100I]) | (refine cw_eq (hA) ?_ ?_; (· (simp [*]; done))) | (refine cw_eq (cf) ?_ ?_; (· (simp [*]; done))) | (refine cw_eq (cs) ?_ ?_; (· (simp [*]; done))) | (refine cw_eq (cc) ?_ ?_; (· (simp [*]; done))) | (refine cw_eq (cv) ?_ ?_; (· (simp [*]; done))) | (refine cw_eq (c4) ?_ ?_; (· (simp [*]; done))) | (refine cw_eq (c5) ?_ ?_; (· (simp [*]; done))) | (refine cw_eq (cp) ?_ ?_; (· (simp [*]; done))) | (refine cw_eq (cr) ?_ ?_; (· (simp [*]; done))) | (refine cw_eq (ci) ?_ ?_; (· (simp [*]; done))) | (refine cw_eq (cF) ?_ ?_; (· (simp [*]; done))) | (refine cw_eq (cB) ?_ ?_; (· (simp [*]; done))) | (refine cw_eq (cR) ?_ ?_; (· (simp [*]; done))) | (refine cw_eq (cI) ?_ ?_; (· (simp [*]; done))))
          · have cF := formatWay_bad n h w hl (by rw [eo]; exact hw)
            rw [eo] at cF
            rw [hn] at c4
            unfold parP at *
            clear ok hf hs hn eo h
            generalize parS n s = ps at *
            obtain ⟨p1, p2⟩ := ps
            generalize (wayS n w).1 = w1 at *
            generalize (wayS n w).2.2 = w2 at *
            dsimp only at *
            unfold aNet cNet at *
            refine realcall_intro Tryd.func3 (by kernel_rfl) rfl (Nat.le_of_ble_eq_true (by kernel_rfl)) ?_
            simp only [Tryd.results3, Tryd.ntmps3]
            repeat' (first | (with_reducible first | refine awp_seq ?_ | refine awp_blockS ?_ | refine awp_blockC ?_ | refine awp_blockR ?_ | refine awp_skip ?_ | refine awp_ret ?_ | refine awp_exit ?_ | refine awp_region ?_ | refine awp_condM ?_ | refine And.intro ?_ ?_ | apply gQ_merge | apply gE_merge | exact EqV_w | exact EqE_w | exact EqV_ptr | exact EqE_ptr | exact EqV_msl | exact EqE_msl | exact EqV_agg | exact EqE_agg | exact EqV_fn | exact EqE_fn | exact EqV_gd | exact EqE_gd | refine gM_splitN ?_ ?_ | refine gM_split ?_ ?_ |  refine condM_splitDN ?_ ?_ | refine condM_splitD ?_ ?_ | refine condM_splitN ?_ ?_ | refine condM_split ?_ ?_ | refine condM_any ?_ ?_ | refine cw (hA) ?_ | refine cw (cf) ?_ | refine cw (cs) ?_ | refine cw (cc) ?_ | refine cw (cv) ?_ | refine cw (c4) ?_ | refine cw (c5) ?_ | refine cw (cp) ?_ | refine cw (cr) ?_ | refine cw (ci) ?_ | refine cw (cF) ?_ | intro _) | (simp [*, h100I, hw]) | (refine cw_eq (hA) ?_ ?_; (· (simp [*]; done))) | (refine cw_eq (cf) ?_ ?_; (· (simp [*]; done))) | (refine cw_eq (cs) ?_ ?_; (· (simp [*]; done))) | (refine cw_eq (cc) ?_ ?_; (· (simp [*]; done))) | (refine cw_eq (cv) ?_ ?_; (· (simp [*]; done))) | (refine cw_eq (c4) ?_ ?_; (· (simp [*]; done))) | (refine cw_eq (c5) ?_ ?_; (· (simp [*]; done))) | (refine cw_eq (cp) ?_ ?_; (· (simp [*]; done))) | (refine cw_eq (cr) ?_ ?_; (· (simp [*]; done))) | (refine cw_eq (ci) ?_ ?_; (· (simp [*]; done))) | (refine cw_eq (cF) ?_ ?_; (· (simp [*]; done))))
        · have eb : owE n w = (netS n).2.2 := if_pos hn
          have cF := formatWay_bad n h w hl (by rw [eb]; exact hn)
          have ep : parS n s = ([], (netS n).2.2) := if_pos hn
          rw [eb] at cF
          rw [ep] at cp
          unfold parP at cp
          dsimp only at cp
          clear hf hs h eb ep c5 hp100
          generalize (netS n).2.2 = e at *
          unfold aNet cNet at *
          refine realcall_intro Tryd.func3 (by kernel_rfl) rfl (Nat.le_of_ble_eq_true (by kernel_rfl)) ?_
          simp only [Tryd.results3, Tryd.ntmps3]
          repeat' (first | (with_reducible first | refine awp_seq ?_ | refine awp_blockS ?_ | refine awp_blockC ?_ | refine awp_blockR ?_ | refine awp_skip ?_ | refine awp_ret ?_ | refine awp_exit ?_ | refine awp_region ?_ | refine awp_condM ?_ | refine And.intro ?_ ?_ | apply gQ_merge | apply gE_merge | exact EqV_w | exact EqE_w | exact EqV_ptr | exact EqE_ptr | exact EqV_msl | exact EqE_msl | exact EqV_agg | exact EqE_agg | exact EqV_fn | exact EqE_fn | exact EqV_gd | exact EqE_gd | refine gM_splitN ?_ ?_ | refine gM_split ?_ ?_ |  refine condM_splitDN ?_ ?_ | refine condM_splitD ?_ ?_ | refine condM_splitN ?_ ?_ | refine condM_split ?_ ?_ | refine condM_any ?_ ?_ | refine cw (hA) ?_ | refine cw (cf) ?_ | refine cw (cs) ?_ | refine cw (cc) ?_ | refine cw (cv) ?_ | refine cw (c4) ?_ | refine cw (cp) ?_ | refine cw (cF) ?_ | intro _) | (simp [*, h100I, hn]) | (refine cw_eq (hA) ?_ ?_; (· (simp [*]; done))) | (refine cw_eq (cf) ?_ ?_; (· (simp [*]; done))) | (refine cw_eq (cs) ?_ ?_; (· (simp [*]; done))) | (refine cw_eq (cc) ?_ ?_; (· (simp [*]; done))) | (refine cw_eq (cv) ?_ ?_; (· (simp [*]; done))) | (refine cw_eq (c4) ?_ ?_; (· (simp [*]; done))) | (refine cw_eq (cp) ?_ ?_; (· (simp [*]; done))) | (refine cw_eq (cF) ?_ ?_; (· (simp [*]; done))))
    · rw [decide_eq_false hs] at cs
      unfold aNet cNet at *
      refine realcall_intro Tryd.func3 (by kernel_rfl) rfl (Nat.le_of_ble_eq_true (by kernel_rfl)) ?_
      simp only [Tryd.results3, Tryd.ntmps3]
      repeat' (first | (with_reducible first | refine awp_seq ?_ | refine awp_blockS ?_ | refine awp_blockC ?_ | refine awp_blockR ?_ | refine awp_skip ?_ | refine awp_ret ?_ | refine awp_exit ?_ | refine awp_region ?_ | refine awp_condM ?_ | refine And.intro ?_ ?_ | apply gQ_merge | apply gE_merge | exact EqV_w | exact EqE_w | exact EqV_ptr | exact EqE_ptr | exact EqV_msl | exact EqE_msl | exact EqV_agg | exact EqE_agg | exact EqV_fn | exact EqE_fn | exact EqV_gd | exact EqE_gd | refine gM_splitN ?_ ?_ | refine gM_split ?_ ?_ |  refine condM_splitDN ?_ ?_ | refine condM_splitD ?_ ?_ | refine condM_splitN ?_ ?_ | refine condM_split ?_ ?_ | refine condM_any ?_ ?_ | refine cw (hA) ?_ | refine cw (cf) ?_ | refine cw (cs) ?_ | intro _) | (simp [*]) | (refine cw_eq (hA) ?_ ?_; (· (simp [*]; done))) | (refine cw_eq (cf) ?_ ?_; (· (simp [*]; done))) | (refine cw_eq (cs) ?_ ?_; (· (simp [*]; done))))
end Go.Proofs.YtfjpgnacofkipaaDoor

