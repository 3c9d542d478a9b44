/- Contracts of functions for this claim: lemmas alone. -/
import Derived.Test.YtgoemokfpfnlkaaP10
import Derived.Test.YtgoemokfpfnlkaaLf
set_option linter.unusedSimpArgs false
set_option linter.unusedVariables false
namespace Go.Proofs.Ytgoemokfpfnlkaa
open Go Go.Fi

@[simp] theorem strs_flat : ∀ l : List ByteArray, flatL (strs l) = true
  | [] => rfl
  | x :: r => by have := strs_flat r; simpa [strs, flatL, flat] using this
@[simp] theorem strs_one (l : List ByteArray) : (strs l).all oneP = true := by simp [strs, oneP]
theorem copyTexts_c (l : List ByteArray) (h : l.length < 1000000) : RealCall Try.prog 25 [.sl l.length (strs l)] (.sl l.length (strs l)) true := by
  refine realcall_intro Try.func25 (by kernel_rfl) rfl (Nat.le_of_ble_eq_true (by kernel_rfl)) ?_
  simp only [Try.results25, Try.ntmps25]
  repeat' (first | (with_reducible first | refine awp_seq ?_ | refine awp_blockS ?_ | refine awp_blockC ?_ | refine awp_blockR ?_ | refine awp_skip ?_ | refine awp_ret ?_ | refine awp_exit ?_ | refine awp_region ?_ | refine awp_condM ?_ | refine And.intro ?_ ?_ | refine gE_splitN ?_ ?_ | refine gE_split ?_ ?_ | refine gQ_splitN ?_ ?_ | refine gQ_split ?_ ?_ | refine gM_splitN ?_ ?_ | refine gM_split ?_ ?_ | refine condM_splitDN ?_ ?_ | refine condM_splitD ?_ ?_ | refine condM_splitN ?_ ?_ | refine condM_split ?_ ?_ | refine condM_any ?_ ?_ | intro _) | (simp [*]))
  all_goals omega

theorem rHasText_take (l : List ByteArray) (k : Nat) (hl : l.length < 1000) (hk : k ≤ l.length) (s : ByteArray) : RealCall Try.prog 36 [.sl k ((strs l).take k), .str s] (.bool ((l.take k).any fun x => decide (s = x))) true := by
  have h := rHasText_c (l.take k) s (by simp; omega)
  rw [List.length_take, Nat.min_eq_left hk] at h
  have e : (strs l).take k = strs (l.take k) := by simp [strs]
  have e2 : (fun x => decide (x = s)) = fun x => decide (s = x) := by funext x; exact decide_eq_decide.2 eq_comm
  rw [e, ← e2]; exact h
def dupP (l : List ByteArray) (k : Nat) : Bool := (l.take k).any fun x => decide (nth l k = x)
theorem errP_split (n : Net) (k : Nat) : errP n k = if nameB (nth n.places k) = true then (if dupP n.places k = true then 5 else 0) else 4 := by
  show firstS [errUnless (nameB (nth n.places k)) 4, errUnless (!dupP n.places k) 5] = _
  cases nameB (nth n.places k) <;> cases dupP n.places k <;> rfl
theorem fRoad_fst {n : Net} {k : Nat} {r : Tri} (h : fRoad n k = some r) : r.1 = k := by
  unfold fRoad at h
  split at h
  · unfold orE at h
    split at h
    · rename_i hs
      injection h with h; subst h
      obtain ⟨j, _, _, hj⟩ := scan_some hs
      unfold fPt at hj; split at hj
      · cases hj
      · injection hj with hj; rw [← hj]
    · obtain ⟨j, _, _, hj⟩ := scan_some h
      unfold fOrd at hj; split at hj
      · cases hj
      · injection hj with hj; rw [← hj]
  · injection h with h; rw [← h]
theorem roadR_some {n : Net} {k : Nat} (h : (roadR n k).2 ≠ 0) : fRoad n k = some ((k : Int), (roadR n k).1, (roadR n k).2) := by
  unfold roadR at h ⊢
  cases hf : fRoad n k with
  | none => rw [hf] at h; exact absurd rfl h
  | some r =>
    have := fRoad_fst hf
    obtain ⟨a, b, c⟩ := r
    simp only at this
    subst this; rfl
theorem roadR_none {n : Net} {k : Nat} (h : (roadR n k).2 = 0) : fRoad n k = none := by
  unfold roadR at h
  cases hf : fRoad n k with
  | none => rfl
  | some r =>
    rw [hf] at h
    exact absurd h (fRoad_ne hf)
theorem net_e0 {n : Net} (h : n.places = []) : netS n = (0, 0, 10) := by
  simp [netS, netE, h, firstS, errUnless]
theorem net_e20 {n : Net} (h : 20 < (n.places.length : Int)) : netS n = (0, 0, 8) := by
  have h1 : decide (0 < n.places.length) = true := decide_eq_true (by omega)
  have h2 : decide ((n.places.length : Int) ≤ 20) = false := decide_eq_false (by omega)
  simp only [netS, netE, h1, h2]; rfl
theorem net_rest {n : Net} (h0 : n.places ≠ []) (h : ¬ 20 < (n.places.length : Int)) : netS n = fin (scan (fPlace n) n.places.length 0) (netB n) := by
  have h3 : 0 < n.places.length := List.length_pos_iff.2 h0
  have h1 : decide (0 < n.places.length) = true := decide_eq_true h3
  have h2 : decide ((n.places.length : Int) ≤ 20) = true := decide_eq_true (by omega)
  have h4 : netE n = 0 := by simp only [netE, h1, h2]; rfl
  exact if_pos h4

set_option maxHeartbeats 4000000 in
theorem rCheckNet_c (n : Net) (h : NetIn n) : RealCall Try.prog 18 [aNet n] (markP (netS n)) true := by
  have hnp := h.np
  have hnr := h.nr
  have cr := fun k (hk : k < n.roads.length) => rRoadE_c n h k hk
  unfold aNet cNet markP at *
  have kcr := keep cr
  clear cr
  refine realcall_intro Try.func18 (by kernel_rfl) rfl (Nat.le_of_ble_eq_true (by kernel_rfl)) ?_
  simp only [Try.results18, Try.ntmps18]
  repeat' (first | (with_reducible first | refine awp_seq ?_ | refine awp_blockS ?_ | refine awp_blockC ?_ | refine awp_blockR ?_ | refine awp_skip ?_ | refine awp_ret ?_ | refine awp_exit ?_ | refine awp_region ?_ | refine awp_regionD (id := 11) 10 mixed (by decide +kernel) ?_ | refine awp_condM ?_ | refine And.intro ?_ ?_ | refine gE_splitN ?_ ?_ | refine gE_split ?_ ?_ | refine gQ_splitN ?_ ?_ | refine gQ_split ?_ ?_ | refine gM_splitN ?_ ?_ | refine gM_split ?_ ?_ | refine condM_splitDN ?_ ?_ | refine condM_splitD ?_ ?_ | refine condM_splitN ?_ ?_ | refine condM_split ?_ ?_ | refine condM_any ?_ ?_ | intro _) | (simp [*]))
  all_goals first
    | (rename_i h0; rw [net_e0 h0]; done)
    | (rename_i h0; rw [net_e20 h0]; done)
    | skip
  rename_i h0 h1
  have hR := net_rest h0 h1
  generalize netS n = R at *
  have kR := keep hR
  clear hR
  refine awp_for3 (fun (k : Nat) => k ≤ n.places.length ∧ scan (fPlace n) (n.places.length - k) k = scan (fPlace n) n.places.length 0) [1, 2, 4] (fun (k : Nat) => [(5, .w false false (.int .i64 k))]) [2, 1, 0] (fun (k : Nat) => []) (fun (k : Nat) => n.places.length - k) (fun (_u : Unit) => scan (fPlace n) n.places.length 0 = none) [1, 2, 4] (fun (_u : Unit) => []) [2, 1, 0] (fun (_u : Unit) => []) (0) ⟨Nat.zero_le _, rfl⟩ (by simp) (by simp) (fun k hk => ?_) (fun _u hf => ?_)
  · obtain ⟨hk, hj⟩ := hk
    by_cases hlt : k < n.places.length
    · have cn := rIsName_c _ (h.ps k hlt)
      have cc : RealCall Try.prog 36 [.sl k ((strs n.places).take k), .str (nth n.places k)] (.bool (dupP n.places k)) true := rHasText_take n.places k hnp hk (nth n.places k)
      have hsp := errP_split n k
      have hhit : ∀ c, errP n k = c → c ≠ 0 → R = ((k : Int), 0, c) := fun c hc hc0 => by
        rw [kR, ← hj, scan_hit hlt (show fPlace n k = some ((k : Int), 0, c) by rw [← hc]; exact if_neg (by rw [hc]; exact hc0))]; rfl
      have hmiss : errP n k = 0 → scan (fPlace n) (n.places.length - (k + 1)) (k + 1) = scan (fPlace n) n.places.length 0 := fun hc => by
        rw [← hj, scan_miss hlt (if_pos hc)]
      have kk := keep (And.intro hsp (And.intro hhit hmiss))
      clear hsp hhit hmiss hj
      repeat' (first | (with_reducible first | refine awp_seq ?_ | refine awp_blockS ?_ | refine awp_blockC ?_ | refine awp_blockR ?_ | refine awp_skip ?_ | refine awp_ret ?_ | refine awp_exit ?_ | refine awp_region ?_ | refine awp_regionD (id := 11) 10 mixed (by decide +kernel) ?_ | refine awp_condM ?_ | refine And.intro ?_ ?_ | refine gE_splitN ?_ ?_ | refine gE_split ?_ ?_ | refine gQ_splitN ?_ ?_ | refine gQ_split ?_ ?_ | refine gM_splitN ?_ ?_ | refine gM_split ?_ ?_ | refine condM_splitDN ?_ ?_ | refine condM_splitD ?_ ?_ | refine condM_splitN ?_ ?_ | refine condM_split ?_ ?_ | refine condM_any ?_ ?_ | refine cw (cn) ?_ | refine cw (cc) ?_ | intro _) | (simp [*, hlt]))
      all_goals first
        | exact inI64 (by omega) (by omega)
        | omega
        | (obtain ⟨hsp, hhit, hmiss⟩ := kk; rw [hhit 4 ?_ (by decide)]; rw [hsp]; simp [*]; done)
        | (obtain ⟨hsp, hhit, hmiss⟩ := kk; rw [hhit 5 ?_ (by decide)]; rw [hsp]; simp [*]; done)
        | (obtain ⟨hsp, hhit, hmiss⟩ := kk; (refine loopK_normal _ _ _ _ _ (k + 1) _ ?_ (by first | omega | (dsimp only; omega) | (simp; omega)) ?_; (· refine ⟨by omega, hmiss ?_⟩; rw [hsp]; simp [*]; done); (refine le_of ?_ ?_ <;> first | trivial | (simp [*]; done))))
        | skip
    · repeat' (first | (with_reducible first | refine awp_seq ?_ | refine awp_blockS ?_ | refine awp_blockC ?_ | refine awp_blockR ?_ | refine awp_skip ?_ | refine awp_ret ?_ | refine awp_exit ?_ | refine awp_region ?_ | refine awp_regionD (id := 11) 10 mixed (by decide +kernel) ?_ | refine awp_condM ?_ | refine And.intro ?_ ?_ | refine gE_splitN ?_ ?_ | refine gE_split ?_ ?_ | refine gQ_splitN ?_ ?_ | refine gQ_split ?_ ?_ | refine gM_splitN ?_ ?_ | refine gM_split ?_ ?_ | refine condM_splitDN ?_ ?_ | refine condM_splitD ?_ ?_ | refine condM_splitN ?_ ?_ | refine condM_split ?_ ?_ | refine condM_any ?_ ?_ | intro _) | (simp [*, hlt]))
      all_goals (refine finW_intro () ?_ ?_; (· rw [← hj, scan_end _ (by omega)]); (refine le_of ?_ ?_ <;> first | trivial | (simp [*]; done)))
  · have kR2 : R = netB n := by rw [hf] at kR; rw [kR]; rfl
    clear hf kR
    have kR := keep kR2
    clear kR2
    repeat' (first | (with_reducible first | refine awp_seq ?_ | refine awp_blockS ?_ | refine awp_blockC ?_ | refine awp_blockR ?_ | refine awp_skip ?_ | refine awp_ret ?_ | refine awp_exit ?_ | refine awp_region ?_ | refine awp_regionD (id := 11) 10 mixed (by decide +kernel) ?_ | refine awp_condM ?_ | refine And.intro ?_ ?_ | refine gE_splitN ?_ ?_ | refine gE_split ?_ ?_ | refine gQ_splitN ?_ ?_ | refine gQ_split ?_ ?_ | refine gM_splitN ?_ ?_ | refine gM_split ?_ ?_ | refine condM_splitDN ?_ ?_ | refine condM_splitD ?_ ?_ | refine condM_splitN ?_ ?_ | refine condM_split ?_ ?_ | refine condM_any ?_ ?_ | intro _) | (simp [*]))
    all_goals try (rename_i h2; rw [kR, show netB n = (0, 0, 8) from if_pos (by omega)]; done)
    rename_i h2
    have kR2 : R = fin (scan (fRoad n) n.roads.length 0) (0, 0, 0) := by rw [kR]; exact if_neg (by omega)
    clear kR
    have kR := keep kR2
    clear kR2
    refine awp_for3 (fun (k : Nat) => k ≤ n.roads.length ∧ scan (fRoad n) (n.roads.length - k) k = scan (fRoad n) n.roads.length 0) [1, 2, 4] (fun (k : Nat) => [(6, .w false false (.int .i64 k))]) [2, 1, 0] (fun (k : Nat) => []) (fun (k : Nat) => n.roads.length - k) (fun (_u : Unit) => scan (fRoad n) n.roads.length 0 = none) [2, 4] (fun (_u : Unit) => []) [2, 1, 0] (fun (_u : Unit) => []) (0) ⟨Nat.zero_le _, rfl⟩ (by simp) (by simp) (fun k hk => ?_) (fun _u hf => ?_)
    · obtain ⟨hk, hj⟩ := hk
      by_cases hlt : k < n.roads.length
      · have cc := kcr k hlt
        have kj := keep hj
        clear hj
        repeat' (first | (with_reducible first | refine awp_seq ?_ | refine awp_blockS ?_ | refine awp_blockC ?_ | refine awp_blockR ?_ | refine awp_skip ?_ | refine awp_ret ?_ | refine awp_exit ?_ | refine awp_region ?_ | refine awp_regionD (id := 11) 10 mixed (by decide +kernel) ?_ | refine awp_condM ?_ | refine And.intro ?_ ?_ | refine gE_splitN ?_ ?_ | refine gE_split ?_ ?_ | refine gQ_splitN ?_ ?_ | refine gQ_split ?_ ?_ | refine gM_splitN ?_ ?_ | refine gM_split ?_ ?_ | refine condM_splitDN ?_ ?_ | refine condM_splitD ?_ ?_ | refine condM_splitN ?_ ?_ | refine condM_split ?_ ?_ | refine condM_any ?_ ?_ | refine cw (cc) ?_ | intro _) | (simp [*, hlt]))
        all_goals first
          | exact inI64 (by omega) (by omega)
          | omega
          | (rename_i h3; rw [kR, ← kj, scan_hit hlt (roadR_some h3)]; done)
          | (rename_i h3; rw [kR, ← kj, scan_hit hlt (roadR_some h3)]; rfl)
          | (rename_i h3; (refine loopK_normal _ _ _ _ _ (k + 1) _ ?_ (by first | omega | (dsimp only; omega) | (simp; omega)) ?_; (· refine ⟨by omega, ?_⟩; rw [← kj, scan_miss hlt (roadR_none h3)]); (refine le_of ?_ ?_ <;> first | trivial | (simp [*]; done))))
          | skip
      · repeat' (first | (with_reducible first | refine awp_seq ?_ | refine awp_blockS ?_ | refine awp_blockC ?_ | refine awp_blockR ?_ | refine awp_skip ?_ | refine awp_ret ?_ | refine awp_exit ?_ | refine awp_region ?_ | refine awp_regionD (id := 11) 10 mixed (by decide +kernel) ?_ | refine awp_condM ?_ | refine And.intro ?_ ?_ | refine gE_splitN ?_ ?_ | refine gE_split ?_ ?_ | refine gQ_splitN ?_ ?_ | refine gQ_split ?_ ?_ | refine gM_splitN ?_ ?_ | refine gM_split ?_ ?_ | refine condM_splitDN ?_ ?_ | refine condM_splitD ?_ ?_ | refine condM_splitN ?_ ?_ | refine condM_split ?_ ?_ | refine condM_any ?_ ?_ | intro _) | (simp [*, hlt]))
        all_goals (refine finW_intro () ?_ ?_; (· rw [← hj, scan_end _ (by omega)]); (refine le_of ?_ ?_ <;> first | trivial | (simp [*]; done)))
    · repeat' (first | (with_reducible first | refine awp_seq ?_ | refine awp_blockS ?_ | refine awp_blockC ?_ | refine awp_blockR ?_ | refine awp_skip ?_ | refine awp_ret ?_ | refine awp_exit ?_ | refine awp_region ?_ | refine awp_regionD (id := 11) 10 mixed (by decide +kernel) ?_ | refine awp_condM ?_ | refine And.intro ?_ ?_ | refine gE_splitN ?_ ?_ | refine gE_split ?_ ?_ | refine gQ_splitN ?_ ?_ | refine gQ_split ?_ ?_ | refine gM_splitN ?_ ?_ | refine gM_split ?_ ?_ | refine condM_splitDN ?_ ?_ | refine condM_splitD ?_ ?_ | refine condM_splitN ?_ ?_ | refine condM_split ?_ ?_ | refine condM_any ?_ ?_ | intro _) | (simp [*]))
      all_goals (rw [kR, hf]; try rfl)
theorem rNetErr_c (n : Net) (h : NetIn n) : RealCall Try.prog 6 [aNet n] (.int .i64 (netS n).2.2) true := by
  have hc := rCheckNet_c n h
  unfold aNet cNet markP at *
  refine realcall_intro Try.func6 (by kernel_rfl) rfl (Nat.le_of_ble_eq_true (by kernel_rfl)) ?_
  simp only [Try.results6, Try.ntmps6]
  repeat' (first | (with_reducible first | refine awp_seq ?_ | refine awp_blockS ?_ | refine awp_blockC ?_ | refine awp_blockR ?_ | refine awp_skip ?_ | refine awp_ret ?_ | refine awp_exit ?_ | refine awp_region ?_ | refine awp_condM ?_ | refine And.intro ?_ ?_ | refine gE_splitN ?_ ?_ | refine gE_split ?_ ?_ | refine gQ_splitN ?_ ?_ | refine gQ_split ?_ ?_ | refine gM_splitN ?_ ?_ | refine gM_split ?_ ?_ | refine condM_splitDN ?_ ?_ | refine condM_splitD ?_ ?_ | refine condM_splitN ?_ ?_ | refine condM_split ?_ ?_ | refine condM_any ?_ ?_ | refine cw (hc) ?_ | intro _) | (simp [*]))
end Go.Proofs.Ytgoemokfpfnlkaa
